-- Laid by wip/tools/xprint.py, a program of this session over the kit's print: functions as Lean functions, each with its contract.
import Derived.Test.YtnfbjdnflifcoaaPDkx0
import Derived.Test.YtnfbjdnflifcoaaPDkx4
import Derived.Test.YtnfbjdnflifcoaaPDkx5
import Derived.Test.YtnfbjdnflifcoaaPDkx6
import Derived.Test.YtnfbjdnflifcoaaPDkx8
namespace Go.Proofs.Ytnfbjdnflifcoaa.PDk
open Go.RowKit Go.Proofs.YtnfbjdnflifcoaaW.PrintWords Go.Proofs.YtnfbjdnflifcoaaW.PrintLast Go.Proofs.YtnfbjdnflifcoaaW.PrintMore
attribute [local go_sem] max2_int min2_int max_two min_two max_three min_three max_four min_four   -- for this text's walks alone
set_option linter.unusedVariables false
set_option linter.unusedSimpArgs false

/-! ### rollbacknetlaw10_awake: function 9 -/
def rollbacknetlaw10_awake.l0 : Nat → Int → List Int → Int → Int → List (S48) → Option (Bool)
 | 0, _, _, _, _, _ => none
 | k + 1, x2, x3, x14, x15, x146000 => if x15 < x14 then (if 0 ≤ x15 then (if x15 < (x3.length : Int) then (rollbacknetlaw10_awake.l0 k x2 (x3.set (x15 : Int).toNat 7) x14 (wrap64 (x15 + 1)) x146000) else (none)) else (none)) else ((disk_Append.f k x146000 0 x3).bind fun bt150 => ((disk_Crash.f k bt150.1 (([(⟨18, (([1] : List Int))⟩ : S39)] : List (S39)))).bind fun t160 => ((disk_Read.f t160 0).bind fun bt163 => (if x2 = 0 then (if bt150.2 = 0 then (if bt163.2 = 0 then (if (bt163.1.length : Int) = 18 then (if 15 < (bt163.1.length : Int) then (if (rd bt163.1 15) = 7 then (if 16 < (bt163.1.length : Int) then (some ((rd bt163.1 16) == 0)) else (none)) else (some false)) else (none)) else (some false)) else (some false)) else (some false)) else (some false)))))
def rollbacknetlaw10_awake.f (k : Nat)  : Option (Bool) := (disk_New.f 1).bind fun bt141 => (if 20 ≤ 281474976710656 then ((some (List.replicate 20 0 : List Int)).bind fun y146 => (rollbacknetlaw10_awake.l0 k bt141.2 y146 (y146.length : Int) 0 bt141.1)) else (none))
theorem rollbacknetlaw10_awake.mono_l : ∀ k, (∀ y0 y1 y2 y3 y4, LeO (rollbacknetlaw10_awake.l0 k y0 y1 y2 y3 y4) (rollbacknetlaw10_awake.l0 (k + 1) y0 y1 y2 y3 y4))
 | 0 => fun _ _ _ _ _ r h => by simp [rollbacknetlaw10_awake.l0] at h
 | k + 1 => by
  have ih0 := rollbacknetlaw10_awake.mono_l k
  ·intro y0 y1 y2 y3 y4
   unfold rollbacknetlaw10_awake.l0
   repeat' first
   | (with_reducible exact ih0 _ _ _ _ _)
   | (with_reducible exact disk_Append.mono _ _ _ _)
   | (with_reducible exact disk_Crash.mono _ _ _)
   | (with_reducible exact LeO.refl _)
   | (with_reducible exact LeO.none _)
   | (with_reducible refine LeO.ite ?_ ?_)
   | (with_reducible refine LeO.bind ?_ (fun _ => ?_))
   | exact ih0 _ _ _ _ _
   | exact disk_Append.mono _ _ _ _
   | exact disk_Crash.mono _ _ _
   | exact LeO.none _
   | refine LeO.ite ?_ ?_
   | refine LeO.bind ?_ (fun _ => ?_)
theorem rollbacknetlaw10_awake.mono : ∀ k, LeO (rollbacknetlaw10_awake.f k ) (rollbacknetlaw10_awake.f (k + 1) ) := by
 intro  k
 have ih0 := rollbacknetlaw10_awake.mono_l k
 unfold rollbacknetlaw10_awake.f
 repeat' first
   | (with_reducible exact ih0 _ _ _ _ _)
   | (with_reducible exact disk_Append.mono _ _ _ _)
   | (with_reducible exact disk_Crash.mono _ _ _)
   | (with_reducible exact LeO.refl _)
   | (with_reducible exact LeO.none _)
   | (with_reducible refine LeO.ite ?_ ?_)
   | (with_reducible refine LeO.bind ?_ (fun _ => ?_))
   | exact ih0 _ _ _ _ _
   | exact disk_Append.mono _ _ _ _
   | exact disk_Crash.mono _ _ _
   | exact LeO.none _
   | refine LeO.ite ?_ ?_
   | refine LeO.bind ?_ (fun _ => ?_)
set_option maxHeartbeats 8000000 in
set_option maxRecDepth 100000 in
theorem rollbacknetlaw10_awake.calls (k : Nat)  (r : Bool) (w : World) (h : rollbacknetlaw10_awake.f k  = some r) :
  Calls Try.prog 9 #[] w fun e w' => e = .returned (.bool r) ∧ Below w.heap.size w w' := by
 have hu24 := Try.underlying24
 have hu39 := Try.underlying39
 have HB := aM (Below.refl w.heap.size w)
 have H : ((disk_New.f 1).bind fun bt141 => (if 20 ≤ 281474976710656 then ((some (List.replicate 20 0 : List Int)).bind fun y146 => (rollbacknetlaw10_awake.l0 k bt141.2 y146 (y146.length : Int) 0 bt141.1)) else (none))) = some r := h
 clear h
 replace H := Option.bind_eq_some_iff.mp H
 obtain ⟨⟨t141, t144⟩, A10, H⟩ := H
 replace H : (if 20 ≤ 281474976710656 then ((some (List.replicate 20 0 : List Int)).bind fun y146 => (rollbacknetlaw10_awake.l0 k t144 y146 (y146.length : Int) 0 t141)) else (none)) = some r := H
 have A1 := aM A10
 clear A10
 have HC2 := aM H
 clear H
 go_enter Try.func9, Try.ntmps9
 go_upto_region 2 with (first | ((with_reducible refine gate_callee (f := 13) rfl ?_); refine goesL_ (some 9) rfl rfl Try.func13 (by kernel_rfl) rfl #[.int .i64 1] rfl (by (try simp only [List.map_toArray, List.map_cons, List.map_nil]); first | done | rfl | (simp only [List.length_drop, List.length_take]; rfl)) ?_; (with_reducible refine (disk_New.calls 1 t141 t144 _ A1.out).mono ?_); rintro e w3 ⟨v142, rfl, ho0, hb⟩; refine ⟨_, rfl, ?_⟩; have n0_ := aM (Kd.N_lower (Kd.N_mono (ok' := fun k_ => True) (Kd.S_N (Kd.S_bound ho0)) (fun k_ hk_ => trivial)) (below_size (by repeat (first | (with_reducible first | exact HB.out | apply wA | apply wN | apply wD) | exact HB.out)))); have n1_ := aM (below_step (by repeat (first | (with_reducible first | exact HB.out | apply wA | apply wN | apply wD) | exact HB.out)) hb); clear HB; have HO143 := n0_; have HB := n1_; clear n0_ n1_; (try clear hb); (try clear hb2); (try clear hk); (try clear hi); (try clear ho0)) | ((with_reducible refine gate_dst (N := 1) rfl ?_); (try (refine gate_guard (by rfl) ?_; dsimp only)); refine box_event ?hg (N := 1) ?hd (cs := #[.slice none 0 0]) (t := 24) ?hr ?_; (case hd => rfl); (case hg => rfl); (case hr => first | (go_simp; done) | (go_simp; rfl)); intro gb145 hg w4 hbox hb; have n0_ := aM (Kd.N_below (Kd.N_elderB (by (with_reducible repeat (first | apply Kd.N_alloc | apply Kd.N_drewN | apply Kd.N_drew)); exact HO143.out) gb145 (Nat.le_of_eq hg.symm)) hb); have n1_ := aM (below_step (by repeat (first | (with_reducible first | exact HB.out | apply wA | apply wN | apply wD) | exact HB.out)) hb); have n2_ := aM (hbox); have n3_ := aM ((by rw [hg]; exact (below_size (by repeat (first | (with_reducible first | exact HB.out | apply wA | apply wN | apply wD) | exact HB.out))) : w.heap.size ≤ gb145)); have n4_ := aM ((by rw [hg]; exact (below_size (by repeat (first | (with_reducible first | exact HB.out | apply wA | apply wN | apply wD) | exact HB.out))) : w.heap.size ≤ gb145)); clear HO143; clear HB; have HO143 := n0_; have HB := n1_; have BK145 := n2_; have GW145 := n3_; have GE145 := n4_; clear n0_ n1_ n2_ n3_ n4_; clear hb hbox hg; obtain ⟨Ao5, co5, eo5⟩ := Kd.N_slice HO143.out; subst eo5; have hcz6_0 : w4.cell? ⟨gb145, 0, none⟩ = some (.slice none 0 0) := (blk_cell BK145.out 0).trans rfl; have hfz6_0 := blk_frozen BK145.out 0) | ((with_reducible refine gate_store (t := 24) (p := 1) rfl ?_); refine store_event (t := 24) (p := 1) (v := ?vo_w7) (w1 := (w4.setCell ⟨gb145, 0, none⟩ (.slice Ao5 t141.length co5))) ?hg ?ho ?hn ?hr ?_; (case ho => rfl); (case hg => rfl); (case hn => rfl); (case hr => first | (go_simp; done) | (go_simp; rfl)); intro w7 hw; have n0_ : Aside0 (Kd.N k48 48 w7 w.heap.size (fun k_ => k_ ≠ gb145) (.slice Ao5 t141.length co5) t141) := ⟨(by rw [hw]; exact (by (with_reducible repeat (first | apply Kd.N_alloc | apply Kd.N_drewN | apply Kd.N_drew)); exact Kd.N_mono (Kd.N_far (p := ⟨gb145, 0, none⟩) (Kd.N_mono HO143.out (fun k_ hk => (⟨hk, hk.2⟩ : _ ∧ k_ ≠ gb145))) (fun _ hk => hk.2) (.slice Ao5 t141.length co5)) (fun _ hk => hk.1.2)))⟩; have n1_ : Aside0 (w7.heap[gb145]? = some (.cells #[.slice Ao5 t141.length co5] 24 (0, 0))) := ⟨(by rw [hw]; exact (by (with_reducible repeat (first | refine bN ?_ _ | refine bD ?_ | refine bA ?_ _)); refine blk_put (cs := #[.slice none 0 0]) ?_ 0 _ rfl; (with_reducible repeat (first | refine bN ?_ _ | refine bD ?_ | refine bA ?_ _)); exact BK145.out))⟩; have n2_ : Aside0 (Below w.heap.size w w7) := ⟨(by rw [hw]; exact (by repeat (first | (with_reducible first | exact HB.out | apply wA | apply wN | apply wD | refine below_set ?_ GE145.out) | exact HB.out)))⟩; clear hw; clear HO143; clear BK145; clear HB; have HO143 := n0_; have BK145 := n1_; have HB := n2_; clear n0_ n1_ n2_))
 (try simp only [Act.put, List.setIfInBounds_toArray, List.set_cons_zero, List.set_cons_succ])
 have H := HC2.out
 clear HC2
 by_cases c8 : 20 ≤ 281474976710656
 ·rw [if_pos c8] at H
  have c8b0 := eq_true c8
  have c8b1 : decide (20 ≤ 281474976710656) = true := decide_eq_true c8
  clear c8
  obtain ⟨y146, hy146⟩ : ∃ y_ : List Int, y_ = (List.replicate 20 0) := ⟨_, rfl⟩
  replace H : (rollbacknetlaw10_awake.l0 k t144 y146 (y146.length : Int) 0 t141) = some r := by first | (rw [hy146]; with_reducible exact H) | (have H2_ := (Option.bind_some _ _).symm.trans H; rw [hy146]; with_reducible exact H2_) | (have H2_ := (Option.bind_some _ _).symm.trans H; with_reducible exact H2_) | with_reducible exact H | (rw [hy146]; exact H) | exact H
  have Ny146 := aM hy146
  clear hy146
  have H' := aM H
  clear H
  go_wp2_with (first | ((with_reducible refine gate_dst (N := 12) rfl ?_); (try (refine gate_guard (by rfl) ?_; dsimp only)); refine Kd.R_make (Kd.int .u8) _ 5 rfl (N := 12) rfl 30 _ _ rfl 20 rfl rfl Try.underlying30 (.int .u8 0) 1 info5 rfl (by decide) (by omega) 0 (ok := fun _ => True) (okp := fun _ => True) rfl (fun _ hk => hk) trivial (by omega) (by omega) (Below.refl _ _) (Nat.le_refl _) ?_; intro v147 w9 ho10 hb hg_ hnew_; clear hg_ hnew_; (first | rw [← Ny146.out] at ho10 | (simp only [Int.reduceToNat] at ho10; rw [← Ny146.out] at ho10)); have n0_ := aM (Kd.N_elder' (by (with_reducible repeat (first | apply Kd.N_alloc | apply Kd.N_drewN | apply Kd.N_drew)); exact HO143.out) (Kd.R_base ho10) hb); have n1_ := aM (Kd.R_lower ho10 (below_size (by repeat (first | (with_reducible first | exact HB.out | apply wA | apply wN | apply wD | refine below_set ?_ GE145.out) | exact HB.out)))); have n2_ := aM (blk_below (g := gb145) (o := .cells #[.slice Ao5 t141.length co5] 24 (0, 0)) (by (with_reducible repeat (first | refine bN ?_ _ | refine bD ?_ | refine bA ?_ _)); exact BK145.out) hb); have n3_ := aM (below_step (by repeat (first | (with_reducible first | exact HB.out | apply wA | apply wN | apply wD | refine below_set ?_ GE145.out) | exact HB.out)) hb); clear HO143; clear BK145; clear HB; have HO143 := n0_; have HO148 := n1_; have BK145 := n2_; have HB := n3_; clear n0_ n1_ n2_ n3_; clear hb ho10; obtain ⟨Ao11, co11, eo11⟩ := Kd.R_slice HO148.out; subst eo11))
  go_loopg [15] k (fun kq v15 w' => ∃ (x3_1 : List Int) (x15_1 : Int), v15 = .int .i64 x15_1 ∧ Aside0 (rollbacknetlaw10_awake.l0 kq t144 x3_1 (y146.length : Int) x15_1 t141 = some r) ∧ Aside0 (kq ≤ k) ∧ Aside0 (Kd.R (Kd.int .u8) 5 w' w.heap.size (fun _ => True) (.slice Ao11 y146.length co11) x3_1) ∧ Aside0 (Kd.N k48 48 w' w.heap.size (fun k_ => some k_ ≠ ((.slice Ao11 y146.length co11) : Value).ownBlock ∧ k_ ≠ gb145) (.slice Ao5 t141.length co5) t141) ∧ Aside0 (w'.heap[gb145]? = some (.cells #[(.slice Ao5 t141.length co5)] 24 (0, 0))) ∧ Aside0 (Below w.heap.size w w'))
  case atStart => exact ⟨(y146), (0), (by first | rfl | (simp; done) | (simp [*]; done)), H', ⟨Nat.le_refl _⟩, ⟨by (with_reducible repeat (first | apply Kd.R_alloc | apply Kd.R_drewN | apply Kd.R_drew)); exact HO148.out⟩, ⟨by (with_reducible repeat (first | apply Kd.N_alloc | apply Kd.N_drewN | apply Kd.N_drew)); exact Kd.N_mono HO143.out (fun _ hk => ⟨hk.2, hk.1⟩)⟩, ⟨by (with_reducible repeat (first | refine bN ?_ _ | refine bD ?_ | refine bA ?_ _)); exact BK145.out⟩, ⟨by repeat (first | (with_reducible first | exact HB.out | apply wA | apply wN | apply wD | refine below_set ?_ GE145.out) | exact HB.out)⟩⟩
  case round =>
   clear H'
   try clear c1
   try clear p2
   try clear c8
   try clear c8b0
   try clear c8b1
   try clear c9
   try clear hcz6_0
   try clear hfz6_0
   obtain ⟨x3_1, x15_1, rfl, HA, HK1, HO_3, HO_146000, BK145, HB⟩ := hrel
   have hl3_1 := (Kd.R_reads' HO_3.out).1
   rw [hl3_1] at HO_3
   (try simp only [hl3_1])
   (try simp only [hl3_1] at BK145)
   (try simp only [hl3_1] at HO_146000)
   cases gk with
   | zero => exact absurd HA.out (by simp [rollbacknetlaw10_awake.l0])
   | succ k1 =>
    have H := HA.out
    clear HA
    simp only [rollbacknetlaw10_awake.l0] at H
    by_cases c12 : x15_1 < (y146.length : Int)
    ·rw [if_pos c12] at H
     have c12b0 : decide (x15_1 < (y146.length : Int)) = true := decide_eq_true c12
     (try simp only [hl3_1] at c12b0)
     clear c12
     by_cases c13 : 0 ≤ x15_1
     ·rw [if_pos c13] at H
      have c13b0 : decide (0 ≤ x15_1) = true := decide_eq_true c13
      (try simp only [hl3_1] at c13b0)
      clear c13
      by_cases c14 : x15_1 < (x3_1.length : Int)
      ·rw [if_pos c14] at H
       have c14b0 : decide (x15_1 < (x3_1.length : Int)) = true := decide_eq_true c14
       (try simp only [hl3_1] at c14b0)
       clear c14
       obtain ⟨y149, hy149⟩ : ∃ y_ : List Int, y_ = (x3_1.set (x15_1 : Int).toNat 7) := ⟨_, rfl⟩
       replace H : (rollbacknetlaw10_awake.l0 k1 t144 y149 (y146.length : Int) (wrap64 (x15_1 + 1)) t141) = some r := by first | (rw [hy149]; with_reducible exact H) | (have H2_ := (Option.bind_some _ _).symm.trans H; rw [hy149]; with_reducible exact H2_) | (have H2_ := (Option.bind_some _ _).symm.trans H; with_reducible exact H2_) | with_reducible exact H | (rw [hy149]; exact H) | exact H
       have Ny149 := aM hy149
       clear hy149
       have H' := aM H
       clear H
       have p15 : 0 ≤ (x15_1 : Int) := of_decide_eq_true (by first | (with_reducible assumption) | assumption)
       have q15 : (x15_1 : Int) < ((x3_1.length : Int) : Int) := of_decide_eq_true (by first | (with_reducible assumption) | assumption)
       obtain ⟨go15, co15, eo15, gb15, gl15, cl15, HG15⟩ := Kd.R_form HO_3.out (by omega)
       (first | cases eo15 | (injection eo15 with ea_ en_ ec_; (first | subst ea_ | (injection ea_ with ea_; subst ea_)); subst ec_; clear en_))
       have GB15 := aM gb15
       have GG15 := aM HG15
       clear gb15 gl15 HG15
       obtain ⟨hx15_0, hf15_0⟩ := Kd.R_celln 0 HO_3.out (x15_1 : Int) p15 q15
       replace p15 := eq_true p15
       replace q15 := eq_true q15
       have HP16 := Kd.R_putg HO_3.out (x15_1 : Int) 7
       go_wp2_with (first | ((with_reducible refine gate_store (t := 5) (p := 20) rfl ?_); refine store_event (t := 5) (p := 20) (v := ?vo_w17) (w1 := (wr.setCell ⟨go15, (x15_1 : Int).toNat, none⟩ (.int .u8 7))) ?hg ?ho ?hn ?hr ?_; (case ho => rfl); (case hg => rfl); (case hn => rfl); (case hr => first | (go_simp; done) | (go_simp; rfl)); intro w17 hw; have hg : wr.grownBy w17 (some go15) := (by rw [hw]; exact HP16.2); have hp_ : Kd.R (Kd.int .u8) 5 w17 w.heap.size (fun _ => True) (.slice (some ⟨go15, 0, none⟩) x3_1.length co11) y149 := (by rw [hw, Ny149.out]; exact HP16.1); clear HP16; have n0_ := aM (hp_); have n1_ := aM (Kd.N_afterv (v := (.slice (some ⟨go15, 0, none⟩) x3_1.length co11)) (v1 := (.slice (some ⟨go15, 0, none⟩) x3_1.length co11)) (ok := (fun k_ => k_ ≠ gb145)) (by (with_reducible repeat (first | apply Kd.N_alloc | apply Kd.N_drewN | apply Kd.N_drew)); exact Kd.N_mono HO_146000.out (fun _ hk => ⟨hk.2, hk.1⟩)) hg (.inl rfl)); have n2_ := aM (blk_grown (g := gb145) (o := .cells #[.slice Ao5 t141.length co5] 24 (0, 0)) (by (with_reducible repeat (first | refine bN ?_ _ | refine bD ?_ | refine bA ?_ _)); exact BK145.out) hg (Kd.R_ne HO_3.out BK145.out (by decide))); have n3_ := aM ((by rw [hw]; exact below_set (HB.out) GB15.out : Below w.heap.size w w17)); clear HO_3; clear HO_146000; clear BK145; clear HB; have HO_3 := n0_; have HO_146000 := n1_; have BK145 := n2_; have HB := n3_; clear n0_ n1_ n2_ n3_; clear hg hw hp_))
       (try simp only [← hl3_1])
       go_roundg k1
       case measure => have := HK1.out; omega
       case rel => exact ⟨(y149), (wrap64 (x15_1 + 1)), (by first | rfl | (simp; done) | (simp [*]; done)), H', ⟨by have := HK1.out; omega⟩, ⟨by (try simp only [hl3_1]); (with_reducible repeat (first | apply Kd.R_alloc | apply Kd.R_drewN | apply Kd.R_drew)); exact HO_3.out⟩, ⟨by (try simp only [hl3_1]); (with_reducible repeat (first | apply Kd.N_alloc | apply Kd.N_drewN | apply Kd.N_drew)); exact Kd.N_mono HO_146000.out (fun _ hk => ⟨hk.2, hk.1⟩)⟩, ⟨by (try simp only [hl3_1]); (with_reducible repeat (first | refine bN ?_ _ | refine bD ?_ | refine bA ?_ _)); exact BK145.out⟩, ⟨by repeat (first | (with_reducible first | exact HB.out | apply wA | apply wN | apply wD | refine below_set ?_ GE145.out) | exact HB.out)⟩⟩
      ·rw [if_neg c14] at H
       exact absurd H (by simp)
     ·rw [if_neg c13] at H
      exact absurd H (by simp)
    ·rw [if_neg c12] at H
     have c12b0 : decide (x15_1 < (y146.length : Int)) = false := decide_eq_false c12
     (try simp only [hl3_1] at c12b0)
     clear c12
     replace H := Option.bind_eq_some_iff.mp H
     obtain ⟨⟨t150, t153⟩, A180, H⟩ := H
     replace H : ((disk_Crash.f k1 t150 (([(⟨18, (([1] : List Int))⟩ : S39)] : List (S39)))).bind fun t160 => ((disk_Read.f t160 0).bind fun bt163 => (if t144 = 0 then (if t153 = 0 then (if bt163.2 = 0 then (if (bt163.1.length : Int) = 18 then (if 15 < (bt163.1.length : Int) then (if (rd bt163.1 15) = 7 then (if 16 < (bt163.1.length : Int) then (some ((rd bt163.1 16) == 0)) else (none)) else (some false)) else (none)) else (some false)) else (some false)) else (some false)) else (some false)))) = some r := H
     have A18 := aM A180
     clear A180
     have HC19 := aM H
     clear H
     have hcz20_0 : wr.cell? ⟨gb145, 0, none⟩ = some (.slice Ao5 t141.length co5) := (blk_cell BK145.out 0).trans rfl
     have hfz20_0 := blk_frozen BK145.out 0
     go_upto_region 9 with (first | ((with_reducible refine gate_callee (f := 14) rfl ?_); refine goesL_ (some 25) rfl rfl Try.func14 (by kernel_rfl) rfl #[.agg #[.slice Ao5 t141.length co5], .int .i64 0, .slice Ao11 x3_1.length co11] rfl (by (try simp only [List.map_toArray, List.map_cons, List.map_nil]); first | done | rfl | (simp only [List.length_drop, List.length_take]; rfl)) ?_; (with_reducible refine (disk_Append.calls k1 _ _ t141 0 _ _ x3_1 t150 t153 _ ?side1 ?side2 ?side3 ?side4 A18.out).mono ?_); (case side1 => repeat (first | exact (Kd.N_reads' HO_146000.out).2.2 | (with_reducible refine Kd.C_alloc ?_ _) | (with_reducible refine Kd.C_drewN ?_ _) | (with_reducible refine Kd.C_drew ?_))); (case side2 => exact (Kd.N_reads' HO_146000.out).2.1); (case side3 => repeat (first | exact (Kd.R_reads' HO_3.out).2.2 | (with_reducible refine Kd.C_alloc ?_ _) | (with_reducible refine Kd.C_drewN ?_ _) | (with_reducible refine Kd.C_drew ?_))); (case side4 => exact (Kd.R_reads' HO_3.out).2.1); rintro e w21 ⟨v151, rfl, ho0, hb⟩; refine ⟨_, rfl, ?_⟩; have n0_ := aM (Kd.R_below (by (with_reducible repeat (first | apply Kd.R_alloc | apply Kd.R_drewN | apply Kd.R_drew)); exact HO_3.out) hb); have n1_ := aM (Kd.N_elder' (by (with_reducible repeat (first | apply Kd.N_alloc | apply Kd.N_drewN | apply Kd.N_drew)); exact HO_146000.out) (by first | exact Kd.N_base ho0 | exact Kd.N_base (Kd.S_N ho0)) hb); have n2_ := aM (Kd.N_lower (Kd.N_mono (ok' := fun k_ => some k_ ≠ (.slice Ao11 x3_1.length co11 : Value).ownBlock ∧ some k_ ≠ (.slice Ao5 t141.length co5 : Value).ownBlock ∧ k_ ≠ gb145) (Kd.S_N (Kd.S_bound ho0)) (fun k_ hk_ => ⟨(Kd.fresh' (Kd.R_lt (by (with_reducible repeat (first | apply Kd.R_alloc | apply Kd.R_drewN | apply Kd.R_drew)); exact HO_3.out)) k_ hk_.2.1), (Kd.fresh' (Kd.N_lt (by (with_reducible repeat (first | apply Kd.N_alloc | apply Kd.N_drewN | apply Kd.N_drew)); exact HO_146000.out)) k_ hk_.2.1), (Kd.freshB (g := gb145) (o := .cells #[.slice Ao5 t141.length co5] 24 (0, 0)) (by (with_reducible repeat (first | refine bN ?_ _ | refine bD ?_ | refine bA ?_ _)); exact BK145.out) k_ hk_.2.1)⟩)) (below_size (by repeat (first | (with_reducible first | exact HB.out | apply wA | apply wN | apply wD | refine below_set ?_ GE145.out) | exact HB.out)))); have n3_ := aM (blk_below (g := gb145) (o := .cells #[.slice Ao5 t141.length co5] 24 (0, 0)) (by (with_reducible repeat (first | refine bN ?_ _ | refine bD ?_ | refine bA ?_ _)); exact BK145.out) hb); have n4_ := aM (below_step (by repeat (first | (with_reducible first | exact HB.out | apply wA | apply wN | apply wD | refine below_set ?_ GE145.out) | exact HB.out)) hb); clear HO_3; clear HO_146000; clear BK145; clear HB; have HO_3 := n0_; have HO_146000 := n1_; have HO152 := n2_; have BK145 := n3_; have HB := n4_; clear n0_ n1_ n2_ n3_ n4_; (try clear hb); (try clear hb2); (try clear hk); (try clear hi); (try clear ho0); obtain ⟨Ao22, co22, eo22⟩ := Kd.N_slice HO152.out; subst eo22; have hcz23_0 : w21.cell? ⟨gb145, 0, none⟩ = some (.slice Ao5 t141.length co5) := (blk_cell BK145.out 0).trans rfl; have hfz23_0 := blk_frozen BK145.out 0) | ((with_reducible refine gate_store (t := 24) (p := 1) rfl ?_); refine store_event (t := 24) (p := 1) (v := ?vo_w24) (w1 := (w21.setCell ⟨gb145, 0, none⟩ (.slice Ao22 t150.length co22))) ?hg ?ho ?hn ?hr ?_; (case ho => rfl); (case hg => rfl); (case hn => rfl); (case hr => first | (go_simp; done) | (go_simp; rfl)); intro w24 hw; have n0_ : Aside0 (Kd.R (Kd.int .u8) 5 w24 w.heap.size (fun _ => True) (.slice Ao11 x3_1.length co11) x3_1) := ⟨(by rw [hw]; exact (by (with_reducible repeat (first | apply Kd.R_alloc | apply Kd.R_drewN | apply Kd.R_drew)); exact Kd.R_mono (Kd.R_far (p := ⟨gb145, 0, none⟩) (Kd.R_types HO_3.out BK145.out (by decide)) (fun _ hk => hk.2) (.slice Ao22 t150.length co22)) (fun _ hk => trivial)))⟩; have n1_ : Aside0 (Kd.N k48 48 w24 w.heap.size (fun k_ => some k_ ≠ (.slice Ao11 x3_1.length co11 : Value).ownBlock ∧ some k_ ≠ (.slice Ao22 t150.length co22 : Value).ownBlock ∧ k_ ≠ gb145) (.slice Ao5 t141.length co5) t141) := ⟨(by rw [hw]; exact (by (with_reducible repeat (first | apply Kd.N_alloc | apply Kd.N_drewN | apply Kd.N_drew)); exact Kd.N_mono (Kd.N_far (p := ⟨gb145, 0, none⟩) (Kd.N_mono HO_146000.out (fun k_ hk => (⟨hk, hk.1.2⟩ : _ ∧ k_ ≠ gb145))) (fun _ hk => hk.2) (.slice Ao22 t150.length co22)) (fun _ hk => ⟨hk.1.1.1, ⟨hk.1.2, hk.1.1.2⟩⟩)))⟩; have n2_ : Aside0 (Kd.N k48 48 w24 w.heap.size (fun k_ => some k_ ≠ (.slice Ao11 x3_1.length co11 : Value).ownBlock ∧ some k_ ≠ (.slice Ao5 t141.length co5 : Value).ownBlock ∧ k_ ≠ gb145) (.slice Ao22 t150.length co22) t150) := ⟨(by rw [hw]; exact (by (with_reducible repeat (first | apply Kd.N_alloc | apply Kd.N_drewN | apply Kd.N_drew)); exact Kd.N_mono (Kd.N_far (p := ⟨gb145, 0, none⟩) (Kd.N_mono HO152.out (fun k_ hk => (⟨hk, hk.2.2⟩ : _ ∧ k_ ≠ gb145))) (fun _ hk => hk.2) (.slice Ao22 t150.length co22)) (fun _ hk => ⟨hk.1.1, ⟨hk.1.2.1, hk.1.2.2⟩⟩)))⟩; have n3_ : Aside0 (w24.heap[gb145]? = some (.cells #[.slice Ao22 t150.length co22] 24 (0, 0))) := ⟨(by rw [hw]; exact (by (with_reducible repeat (first | refine bN ?_ _ | refine bD ?_ | refine bA ?_ _)); refine blk_put (cs := #[.slice Ao5 t141.length co5]) ?_ 0 _ rfl; (with_reducible repeat (first | refine bN ?_ _ | refine bD ?_ | refine bA ?_ _)); exact BK145.out))⟩; have n4_ : Aside0 (Below w.heap.size w w24) := ⟨(by rw [hw]; exact (by repeat (first | (with_reducible first | exact HB.out | apply wA | apply wN | apply wD | refine below_set ?_ GE145.out) | exact HB.out)))⟩; clear hw; clear HO_3; clear HO_146000; clear HO152; clear BK145; clear HB; have HO_3 := n0_; have HO_146000 := n1_; have HO152 := n2_; have BK145 := n3_; have HB := n4_; clear n0_ n1_ n2_ n3_ n4_))
     (try simp only [Act.put, List.setIfInBounds_toArray, List.set_cons_zero, List.set_cons_succ])
     have H := HC19.out
     clear HC19
     obtain ⟨y154, hy154⟩ : ∃ y_ : List Int, y_ = (([1] : List Int)) := ⟨_, rfl⟩
     replace H : ((disk_Crash.f k1 t150 (([(⟨18, y154⟩ : S39)] : List (S39)))).bind fun t160 => ((disk_Read.f t160 0).bind fun bt163 => (if t144 = 0 then (if t153 = 0 then (if bt163.2 = 0 then (if (bt163.1.length : Int) = 18 then (if 15 < (bt163.1.length : Int) then (if (rd bt163.1 15) = 7 then (if 16 < (bt163.1.length : Int) then (some ((rd bt163.1 16) == 0)) else (none)) else (some false)) else (none)) else (some false)) else (some false)) else (some false)) else (some false)))) = some r := by first | (rw [hy154]; with_reducible exact H) | (have H2_ := (Option.bind_some _ _).symm.trans H; rw [hy154]; with_reducible exact H2_) | (have H2_ := (Option.bind_some _ _).symm.trans H; with_reducible exact H2_) | with_reducible exact H | (rw [hy154]; exact H) | exact H
     have Ny154 := aM hy154
     clear hy154
     obtain ⟨y157, hy157⟩ : ∃ y_ : List (S39), y_ = (([(⟨18, y154⟩ : S39)] : List (S39))) := ⟨_, rfl⟩
     replace H : ((disk_Crash.f k1 t150 y157).bind fun t160 => ((disk_Read.f t160 0).bind fun bt163 => (if t144 = 0 then (if t153 = 0 then (if bt163.2 = 0 then (if (bt163.1.length : Int) = 18 then (if 15 < (bt163.1.length : Int) then (if (rd bt163.1 15) = 7 then (if 16 < (bt163.1.length : Int) then (some ((rd bt163.1 16) == 0)) else (none)) else (some false)) else (none)) else (some false)) else (some false)) else (some false)) else (some false)))) = some r := by first | (rw [hy157]; with_reducible exact H) | (have H2_ := (Option.bind_some _ _).symm.trans H; rw [hy157]; with_reducible exact H2_) | (have H2_ := (Option.bind_some _ _).symm.trans H; with_reducible exact H2_) | with_reducible exact H | (rw [hy157]; exact H) | exact H
     have Ny157 := aM hy157
     clear hy157
     replace H := Option.bind_eq_some_iff.mp H
     obtain ⟨t160, A250, H⟩ := H
     replace H : ((disk_Read.f t160 0).bind fun bt163 => (if t144 = 0 then (if t153 = 0 then (if bt163.2 = 0 then (if (bt163.1.length : Int) = 18 then (if 15 < (bt163.1.length : Int) then (if (rd bt163.1 15) = 7 then (if 16 < (bt163.1.length : Int) then (some ((rd bt163.1 16) == 0)) else (none)) else (some false)) else (none)) else (some false)) else (some false)) else (some false)) else (some false))) = some r := H
     have A25 := aM A250
     clear A250
     replace H := Option.bind_eq_some_iff.mp H
     obtain ⟨⟨t163, t166⟩, A260, H⟩ := H
     replace H : (if t144 = 0 then (if t153 = 0 then (if t166 = 0 then (if (t163.length : Int) = 18 then (if 15 < (t163.length : Int) then (if (rd t163 15) = 7 then (if 16 < (t163.length : Int) then (some ((rd t163 16) == 0)) else (none)) else (some false)) else (none)) else (some false)) else (some false)) else (some false)) else (some false)) = some r := H
     have A26 := aM A260
     clear A260
     have HC27 := aM H
     clear H
     have hcz28_0 : w24.cell? ⟨gb145, 0, none⟩ = some (.slice Ao22 t150.length co22) := (blk_cell BK145.out 0).trans rfl
     have hfz28_0 := blk_frozen BK145.out 0
     go_upto_region 10 with (first | ((with_reducible refine gate_dst (N := 30) rfl ?_); (try (refine gate_guard (by rfl) ?_; dsimp only)); refine Kd.R_lit (Kd.int .i64) _ 3 ?hg (N := 30) ?hd (xs := ([1] : List Int)) (inner := [.int .i64 1]) (ok := fun _ => True) (okp := fun _ => True) ?hr ?hp (fun _ hk => hk) trivial (Below.refl _ _) (Nat.le_refl _) (by simp) ?_; (case hd => rfl); (case hg => rfl); (case hr => first | (go_simp; done) | (go_simp; rfl)); (case hp => exact (Reps.one (show Kd.M (Kd.int .i64) _ _ _ 1 [.int .i64 1] from rfl) (Reps.none _ _))); intro v155 w29 ho30 hb hg_ hnew_; clear hg_ hnew_; (first | rw [← Ny154.out] at ho30 | (simp only [Int.reduceToNat] at ho30; rw [← Ny154.out] at ho30)); have n0_ := aM (Kd.R_below (by (with_reducible repeat (first | apply Kd.R_alloc | apply Kd.R_drewN | apply Kd.R_drew)); exact HO_3.out) hb); have n1_ := aM (Kd.N_elder' (by (with_reducible repeat (first | apply Kd.N_alloc | apply Kd.N_drewN | apply Kd.N_drew)); exact HO_146000.out) (Kd.R_base ho30) hb); have n2_ := aM (Kd.N_elder' (by (with_reducible repeat (first | apply Kd.N_alloc | apply Kd.N_drewN | apply Kd.N_drew)); exact HO152.out) (Kd.R_base ho30) hb); have n3_ := aM (Kd.R_lower ho30 (below_size (by repeat (first | (with_reducible first | exact HB.out | apply wA | apply wN | apply wD | refine below_set ?_ GE145.out) | exact HB.out)))); have n4_ := aM (blk_below (g := gb145) (o := .cells #[.slice Ao22 t150.length co22] 24 (0, 0)) (by (with_reducible repeat (first | refine bN ?_ _ | refine bD ?_ | refine bA ?_ _)); exact BK145.out) hb); have n5_ := aM (below_step (by repeat (first | (with_reducible first | exact HB.out | apply wA | apply wN | apply wD | refine below_set ?_ GE145.out) | exact HB.out)) hb); clear HO_3; clear HO_146000; clear HO152; clear BK145; clear HB; have HO_3 := n0_; have HO_146000 := n1_; have HO152 := n2_; have HO156 := n3_; have BK145 := n4_; have HB := n5_; clear n0_ n1_ n2_ n3_ n4_ n5_; clear hb ho30; obtain ⟨Ao31, co31, eo31⟩ := Kd.R_slice HO156.out; subst eo31) | ((with_reducible refine gate_dst (N := 32) rfl ?_); (try (refine gate_guard (by rfl) ?_; dsimp only)); refine Kd.N_lit k39 _ 39 ?hg (N' := 32) ?hd (xs := ([(⟨18, y154⟩ : S39)] : List (S39))) (inner := [.int .i64 18, .slice Ao31 y154.length co31]) (ok := (fun k_ => some k_ ≠ (.slice Ao11 x3_1.length co11 : Value).ownBlock ∧ some k_ ≠ (.slice Ao5 t141.length co5 : Value).ownBlock ∧ some k_ ≠ (.slice Ao22 t150.length co22 : Value).ownBlock ∧ k_ ≠ gb145)) (okp := (fun k_ => some k_ ≠ (.slice Ao11 x3_1.length co11 : Value).ownBlock ∧ some k_ ≠ (.slice Ao5 t141.length co5 : Value).ownBlock ∧ some k_ ≠ (.slice Ao22 t150.length co22 : Value).ownBlock ∧ k_ ≠ gb145)) ?hr ?hp (fun _ hk => hk) ((show ∀ k_, w29.heap.size ≤ k_ → (fun k_ => some k_ ≠ (.slice Ao11 x3_1.length co11 : Value).ownBlock ∧ some k_ ≠ (.slice Ao5 t141.length co5 : Value).ownBlock ∧ some k_ ≠ (.slice Ao22 t150.length co22 : Value).ownBlock ∧ k_ ≠ gb145) k_ from fun k_ hk => ⟨Kd.fresh' (Kd.R_lt (by (with_reducible repeat (first | apply Kd.R_alloc | apply Kd.R_drewN | apply Kd.R_drew)); exact HO_3.out)) k_ hk, Kd.fresh' (Kd.N_lt (by (with_reducible repeat (first | apply Kd.N_alloc | apply Kd.N_drewN | apply Kd.N_drew)); exact HO_146000.out)) k_ hk, Kd.fresh' (Kd.N_lt (by (with_reducible repeat (first | apply Kd.N_alloc | apply Kd.N_drewN | apply Kd.N_drew)); exact HO152.out)) k_ hk, Kd.freshB (g := gb145) (o := .cells #[.slice Ao22 t150.length co22] 24 (0, 0)) (by (with_reducible repeat (first | refine bN ?_ _ | refine bD ?_ | refine bA ?_ _)); exact BK145.out) k_ hk⟩) _ (Nat.le_refl _)) (Below.refl _ _) (Nat.le_refl _) (by simp) ?_; (case hd => rfl); (case hg => rfl); (case hr => first | (go_simp; done) | (go_simp; rfl)); (case hp => exact (Reps.c2 (show Kd.FK k39 _ _ (⟨18, y154⟩ : S39) [.int .i64 18, .slice Ao31 y154.length co31] from (k39_mkF _ _ (⟨18, y154⟩ : S39) (Kd.R_reads' (Kd.R_mono (ok' := (fun k_ => some k_ ≠ (.slice Ao11 x3_1.length co11 : Value).ownBlock ∧ some k_ ≠ (.slice Ao5 t141.length co5 : Value).ownBlock ∧ some k_ ≠ (.slice Ao22 t150.length co22 : Value).ownBlock ∧ k_ ≠ gb145)) (Kd.R_types (Kd.R_apart' (Kd.R_apart' (Kd.R_apart' (HO156.out) (Kd.R_typed HO_3.out) (by decide)) (Kd.N_typed HO_146000.out) (by decide)) (Kd.N_typed HO152.out) (by decide)) BK145.out (by decide)) (fun k_ hk => ⟨hk.1.1.1.2, ⟨hk.1.1.2, ⟨hk.1.2, hk.2⟩⟩⟩))).2.1 (Kd.R_F (Kd.R_mono (ok' := (fun k_ => some k_ ≠ (.slice Ao11 x3_1.length co11 : Value).ownBlock ∧ some k_ ≠ (.slice Ao5 t141.length co5 : Value).ownBlock ∧ some k_ ≠ (.slice Ao22 t150.length co22 : Value).ownBlock ∧ k_ ≠ gb145)) (Kd.R_types (Kd.R_apart' (Kd.R_apart' (Kd.R_apart' (HO156.out) (Kd.R_typed HO_3.out) (by decide)) (Kd.N_typed HO_146000.out) (by decide)) (Kd.N_typed HO152.out) (by decide)) BK145.out (by decide)) (fun k_ hk => ⟨hk.1.1.1.2, ⟨hk.1.1.2, ⟨hk.1.2, hk.2⟩⟩⟩))))) (Reps.none _ _))); intro v158 w32 ho33 hb hg_ hnew_; clear hg_ hnew_; (first | rw [← Ny157.out] at ho33 | (simp only [Int.reduceToNat] at ho33; rw [← Ny157.out] at ho33)); have n0_ := aM (Kd.R_below (by (with_reducible repeat (first | apply Kd.R_alloc | apply Kd.R_drewN | apply Kd.R_drew)); exact HO_3.out) hb); have n1_ := aM (Kd.N_elder' (by (with_reducible repeat (first | apply Kd.N_alloc | apply Kd.N_drewN | apply Kd.N_drew)); exact HO_146000.out) (by first | exact Kd.N_base ho33 | exact Kd.N_base (Kd.S_N ho33)) hb); have n2_ := aM (Kd.N_elder' (by (with_reducible repeat (first | apply Kd.N_alloc | apply Kd.N_drewN | apply Kd.N_drew)); exact HO152.out) (by first | exact Kd.N_base ho33 | exact Kd.N_base (Kd.S_N ho33)) hb); have n3_ := aM (Kd.N_lower ho33 (below_size (by repeat (first | (with_reducible first | exact HB.out | apply wA | apply wN | apply wD | refine below_set ?_ GE145.out) | exact HB.out)))); have n4_ := aM (blk_below (g := gb145) (o := .cells #[.slice Ao22 t150.length co22] 24 (0, 0)) (by (with_reducible repeat (first | refine bN ?_ _ | refine bD ?_ | refine bA ?_ _)); exact BK145.out) hb); have n5_ := aM (below_step (by repeat (first | (with_reducible first | exact HB.out | apply wA | apply wN | apply wD | refine below_set ?_ GE145.out) | exact HB.out)) hb); clear HO_3; clear HO_146000; clear HO152; clear BK145; clear HB; clear HO156; have HO_3 := n0_; have HO_146000 := n1_; have HO152 := n2_; have HO159 := n3_; have BK145 := n4_; have HB := n5_; clear n0_ n1_ n2_ n3_ n4_ n5_; clear hb ho33; obtain ⟨Ao34, co34, eo34⟩ := Kd.N_slice HO159.out; subst eo34) | ((with_reducible refine gate_callee (f := 11) rfl ?_); refine goesL_ (some 33) rfl rfl Try.func11 (by kernel_rfl) rfl #[.agg #[.slice Ao22 t150.length co22], .slice Ao34 y157.length co34] rfl (by (try simp only [List.map_toArray, List.map_cons, List.map_nil]); first | done | rfl | (simp only [List.length_drop, List.length_take]; rfl)) ?_; (with_reducible refine (disk_Crash.calls k1 _ _ t150 _ _ y157 t160 _ ?side1 ?side2 ?side3 ?side4 A25.out).mono ?_); (case side1 => repeat (first | exact (Kd.N_reads' HO152.out).2.2 | (with_reducible refine Kd.C_alloc ?_ _) | (with_reducible refine Kd.C_drewN ?_ _) | (with_reducible refine Kd.C_drew ?_))); (case side2 => exact (Kd.N_reads' HO152.out).2.1); (case side3 => repeat (first | exact (Kd.N_reads' HO159.out).2.2 | (with_reducible refine Kd.C_alloc ?_ _) | (with_reducible refine Kd.C_drewN ?_ _) | (with_reducible refine Kd.C_drew ?_))); (case side4 => exact (Kd.N_reads' HO159.out).2.1); rintro e w35 ⟨v161, rfl, ho0, hb⟩; refine ⟨_, rfl, ?_⟩; have n0_ := aM (Kd.R_below (by (with_reducible repeat (first | apply Kd.R_alloc | apply Kd.R_drewN | apply Kd.R_drew)); exact HO_3.out) hb); have n1_ := aM (Kd.N_elder' (by (with_reducible repeat (first | apply Kd.N_alloc | apply Kd.N_drewN | apply Kd.N_drew)); exact HO_146000.out) (by first | exact Kd.N_base ho0 | exact Kd.N_base (Kd.S_N ho0)) hb); have n2_ := aM (Kd.N_elder' (by (with_reducible repeat (first | apply Kd.N_alloc | apply Kd.N_drewN | apply Kd.N_drew)); exact HO152.out) (by first | exact Kd.N_base ho0 | exact Kd.N_base (Kd.S_N ho0)) hb); have n3_ := aM (Kd.N_elder' (by (with_reducible repeat (first | apply Kd.N_alloc | apply Kd.N_drewN | apply Kd.N_drew)); exact HO159.out) (by first | exact Kd.N_base ho0 | exact Kd.N_base (Kd.S_N ho0)) hb); have n4_ := aM (Kd.N_lower (Kd.N_mono (ok' := fun k_ => some k_ ≠ (.slice Ao11 x3_1.length co11 : Value).ownBlock ∧ some k_ ≠ (.slice Ao5 t141.length co5 : Value).ownBlock ∧ some k_ ≠ (.slice Ao22 t150.length co22 : Value).ownBlock ∧ some k_ ≠ (.slice Ao34 y157.length co34 : Value).ownBlock ∧ k_ ≠ gb145) (Kd.S_N (Kd.S_bound ho0)) (fun k_ hk_ => ⟨(Kd.fresh' (Kd.R_lt (by (with_reducible repeat (first | apply Kd.R_alloc | apply Kd.R_drewN | apply Kd.R_drew)); exact HO_3.out)) k_ hk_.2.1), (Kd.fresh' (Kd.N_lt (by (with_reducible repeat (first | apply Kd.N_alloc | apply Kd.N_drewN | apply Kd.N_drew)); exact HO_146000.out)) k_ hk_.2.1), (Kd.fresh' (Kd.N_lt (by (with_reducible repeat (first | apply Kd.N_alloc | apply Kd.N_drewN | apply Kd.N_drew)); exact HO152.out)) k_ hk_.2.1), (Kd.fresh' (Kd.N_lt (by (with_reducible repeat (first | apply Kd.N_alloc | apply Kd.N_drewN | apply Kd.N_drew)); exact HO159.out)) k_ hk_.2.1), (Kd.freshB (g := gb145) (o := .cells #[.slice Ao22 t150.length co22] 24 (0, 0)) (by (with_reducible repeat (first | refine bN ?_ _ | refine bD ?_ | refine bA ?_ _)); exact BK145.out) k_ hk_.2.1)⟩)) (below_size (by repeat (first | (with_reducible first | exact HB.out | apply wA | apply wN | apply wD | refine below_set ?_ GE145.out) | exact HB.out)))); have n5_ := aM (blk_below (g := gb145) (o := .cells #[.slice Ao22 t150.length co22] 24 (0, 0)) (by (with_reducible repeat (first | refine bN ?_ _ | refine bD ?_ | refine bA ?_ _)); exact BK145.out) hb); have n6_ := aM (below_step (by repeat (first | (with_reducible first | exact HB.out | apply wA | apply wN | apply wD | refine below_set ?_ GE145.out) | exact HB.out)) hb); clear HO_3; clear HO_146000; clear HO152; clear HO159; clear BK145; clear HB; have HO_3 := n0_; have HO_146000 := n1_; have HO152 := n2_; have HO159 := n3_; have HO162 := n4_; have BK145 := n5_; have HB := n6_; clear n0_ n1_ n2_ n3_ n4_ n5_ n6_; (try clear hb); (try clear hb2); (try clear hk); (try clear hi); (try clear ho0); obtain ⟨Ao36, co36, eo36⟩ := Kd.N_slice HO162.out; subst eo36) | ((with_reducible refine gate_callee (f := 15) rfl ?_); refine goesL_ (some 34) rfl rfl Try.func15 (by kernel_rfl) rfl #[.agg #[.slice Ao36 t160.length co36], .int .i64 0] rfl (by (try simp only [List.map_toArray, List.map_cons, List.map_nil]); first | done | rfl | (simp only [List.length_drop, List.length_take]; rfl)) ?_; (with_reducible refine (disk_Read.calls (fun k_ => (some k_ ≠ (.slice Ao11 x3_1.length co11 : Value).ownBlock ∧ (some k_ ≠ (.slice Ao5 t141.length co5 : Value).ownBlock ∧ (some k_ ≠ (.slice Ao22 t150.length co22 : Value).ownBlock ∧ (some k_ ≠ (.slice Ao34 y157.length co34 : Value).ownBlock ∧ k_ ≠ gb145))))) _ _ t160 0 t163 t166 _ ?side1 A26.out).mono ?_); (case side1 => exact Kd.N_V (HO162.out)); rintro e w37 ⟨v164, rfl, ho0, hb⟩; refine ⟨_, rfl, ?_⟩; have n0_ := aM (Kd.R_elder' (by (with_reducible repeat (first | apply Kd.R_alloc | apply Kd.R_drewN | apply Kd.R_drew)); exact HO_3.out) (Kd.R_base ho0) hb); have n1_ := aM (Kd.N_elder' (by (with_reducible repeat (first | apply Kd.N_alloc | apply Kd.N_drewN | apply Kd.N_drew)); exact HO_146000.out) (Kd.R_base ho0) hb); have n2_ := aM (Kd.N_elder' (by (with_reducible repeat (first | apply Kd.N_alloc | apply Kd.N_drewN | apply Kd.N_drew)); exact HO152.out) (Kd.R_base ho0) hb); have n3_ := aM (Kd.N_elder' (by (with_reducible repeat (first | apply Kd.N_alloc | apply Kd.N_drewN | apply Kd.N_drew)); exact HO159.out) (Kd.R_base ho0) hb); have n4_ := aM (Kd.N_elder' (by (with_reducible repeat (first | apply Kd.N_alloc | apply Kd.N_drewN | apply Kd.N_drew)); exact HO162.out) (Kd.R_base ho0) hb); have n5_ := aM (Kd.R_lower (Kd.R_new' (Kd.R_mono (ok' := fun k_ => True) ho0 (fun _ hk_ => trivial)) (Kd.R_lt (by (with_reducible repeat (first | apply Kd.R_alloc | apply Kd.R_drewN | apply Kd.R_drew)); exact HO_3.out))) (below_size (by repeat (first | (with_reducible first | exact HB.out | apply wA | apply wN | apply wD | refine below_set ?_ GE145.out) | exact HB.out)))); have n6_ := aM (blk_below (g := gb145) (o := .cells #[.slice Ao22 t150.length co22] 24 (0, 0)) (by (with_reducible repeat (first | refine bN ?_ _ | refine bD ?_ | refine bA ?_ _)); exact BK145.out) hb); have n7_ := aM (below_step (by repeat (first | (with_reducible first | exact HB.out | apply wA | apply wN | apply wD | refine below_set ?_ GE145.out) | exact HB.out)) hb); clear HO_3; clear HO_146000; clear HO152; clear HO159; clear HO162; clear BK145; clear HB; have HO_3 := n0_; have HO_146000 := n1_; have HO152 := n2_; have HO159 := n3_; have HO162 := n4_; have HO165 := n5_; have BK145 := n6_; have HB := n7_; clear n0_ n1_ n2_ n3_ n4_ n5_ n6_ n7_; (try clear hb); (try clear hb2); (try clear hk); (try clear hi); (try clear ho0)))
     (try simp only [Act.put, List.setIfInBounds_toArray, List.set_cons_zero, List.set_cons_succ])
     have H := HC27.out
     clear HC27
     by_cases c38 : t144 = 0
     ·rw [if_pos c38] at H
      have c38b0 : (t144 == 0) = true := beq_iff_eq.mpr c38
      (try simp only [hl3_1] at c38b0)
      have c38b1 : (t144 != 0) = false := bne_eq_false_iff_eq.mpr c38
      (try simp only [hl3_1] at c38b1)
      clear c38
      by_cases c39 : t153 = 0
      ·rw [if_pos c39] at H
       have c39b0 : (t153 == 0) = true := beq_iff_eq.mpr c39
       (try simp only [hl3_1] at c39b0)
       have c39b1 : (t153 != 0) = false := bne_eq_false_iff_eq.mpr c39
       (try simp only [hl3_1] at c39b1)
       clear c39
       by_cases c40 : t166 = 0
       ·rw [if_pos c40] at H
        have c40b0 : (t166 == 0) = true := beq_iff_eq.mpr c40
        (try simp only [hl3_1] at c40b0)
        have c40b1 : (t166 != 0) = false := bne_eq_false_iff_eq.mpr c40
        (try simp only [hl3_1] at c40b1)
        clear c40
        by_cases c41 : (t163.length : Int) = 18
        ·rw [if_pos c41] at H
         have c41b0 : ((t163.length : Int) == 18) = true := beq_iff_eq.mpr c41
         (try simp only [hl3_1] at c41b0)
         have c41b1 : ((t163.length : Int) != 18) = false := bne_eq_false_iff_eq.mpr c41
         (try simp only [hl3_1] at c41b1)
         clear c41
         by_cases c42 : 15 < (t163.length : Int)
         ·rw [if_pos c42] at H
          have c42b0 : decide (15 < (t163.length : Int)) = true := decide_eq_true c42
          (try simp only [hl3_1] at c42b0)
          have c42b1 : decide (15 < t163.length) = true := decide_eq_true (by omega)
          (try simp only [hl3_1] at c42b1)
          clear c42
          by_cases c43 : (rd t163 15) = 7
          ·rw [if_pos c43] at H
           have c43b0 : ((rd t163 15) == 7) = true := beq_iff_eq.mpr c43
           (try simp only [hl3_1] at c43b0)
           have c43b1 : ((rd t163 15) != 7) = false := bne_eq_false_iff_eq.mpr c43
           (try simp only [hl3_1] at c43b1)
           clear c43
           by_cases c44 : 16 < (t163.length : Int)
           ·rw [if_pos c44] at H
            have c44b0 : decide (16 < (t163.length : Int)) = true := decide_eq_true c44
            (try simp only [hl3_1] at c44b0)
            have c44b1 : decide (16 < t163.length) = true := decide_eq_true (by omega)
            (try simp only [hl3_1] at c44b1)
            clear c44
            obtain rfl := Option.some.inj H
            obtain ⟨Ao45, co45, eo45⟩ := Kd.R_slice HO165.out
            subst eo45
            have p167 : 0 ≤ (15 : Int) := (by omega)
            have q167 : 15 < (t163.length : Int) := of_decide_eq_true (by first | (with_reducible assumption) | assumption)
            obtain ⟨ad167, e167, hx167_0⟩ := Kd.at_int (Kd.R_reads' HO165.out).2.2 15 p167 q167
            cases e167
            (try simp only [show (15 : Int).toNat = 15 from rfl, Nat.reduceMul, Nat.reduceEqDiff, Go.Addr.add, ↓reduceIte] at hx167_0)
            have qi167 : (15 < t163.length) = True := eq_true (by omega)
            (try rw [show ((15 : Int)).toNat = 15 from rfl] at hx167_0)
            replace p167 := eq_true p167
            replace q167 := eq_true q167
            have p168 : 0 ≤ (16 : Int) := (by omega)
            have q168 : 16 < (t163.length : Int) := of_decide_eq_true (by first | (with_reducible assumption) | assumption)
            obtain ⟨ad168, e168, hx168_0⟩ := Kd.at_int (Kd.R_reads' HO165.out).2.2 16 p168 q168
            obtain rfl : ad167 = ad168 := (by injection e168)
            (try simp only [show (16 : Int).toNat = 16 from rfl, Nat.reduceMul, Nat.reduceEqDiff, Go.Addr.add, ↓reduceIte] at hx168_0)
            have qi168 : (16 < t163.length) = True := eq_true (by omega)
            (try rw [show ((16 : Int)).toNat = 16 from rfl] at hx168_0)
            replace p168 := eq_true p168
            replace q168 := eq_true q168
            go_wp2
            go_ret
            exact ⟨by first | rfl | (simp [errW_none, errW_some] <;> rfl) | (simp [*, errW_none, errW_some] <;> rfl), by repeat (first | (with_reducible first | exact HB.out | apply wA | apply wN | apply wD | refine below_set ?_ GE145.out) | exact HB.out)⟩
           ·rw [if_neg c44] at H
            exact absurd H (by simp)
          ·rw [if_neg c43] at H
           have c43b0 : ((rd t163 15) == 7) = false := beq_eq_false_iff_ne.mpr c43
           (try simp only [hl3_1] at c43b0)
           have c43b1 : ((rd t163 15) != 7) = true := bne_iff_ne.mpr c43
           (try simp only [hl3_1] at c43b1)
           obtain rfl := Option.some.inj H
           obtain ⟨Ao46, co46, eo46⟩ := Kd.R_slice HO165.out
           subst eo46
           have p167 : 0 ≤ (15 : Int) := (by omega)
           have q167 : 15 < (t163.length : Int) := of_decide_eq_true (by first | (with_reducible assumption) | assumption)
           obtain ⟨ad167, e167, hx167_0⟩ := Kd.at_int (Kd.R_reads' HO165.out).2.2 15 p167 q167
           cases e167
           (try simp only [show (15 : Int).toNat = 15 from rfl, Nat.reduceMul, Nat.reduceEqDiff, Go.Addr.add, ↓reduceIte] at hx167_0)
           have qi167 : (15 < t163.length) = True := eq_true (by omega)
           (try rw [show ((15 : Int)).toNat = 15 from rfl] at hx167_0)
           replace p167 := eq_true p167
           replace q167 := eq_true q167
           go_wp2
           go_ret
           exact ⟨by first | rfl | (simp [errW_none, errW_some] <;> rfl) | (simp [*, errW_none, errW_some] <;> rfl), by repeat (first | (with_reducible first | exact HB.out | apply wA | apply wN | apply wD | refine below_set ?_ GE145.out) | exact HB.out)⟩
         ·rw [if_neg c42] at H
          exact absurd H (by simp)
        ·rw [if_neg c41] at H
         have c41b0 : ((t163.length : Int) == 18) = false := beq_eq_false_iff_ne.mpr c41
         (try simp only [hl3_1] at c41b0)
         have c41b1 : ((t163.length : Int) != 18) = true := bne_iff_ne.mpr c41
         (try simp only [hl3_1] at c41b1)
         obtain rfl := Option.some.inj H
         obtain ⟨Ao47, co47, eo47⟩ := Kd.R_slice HO165.out
         subst eo47
         go_wp2
         go_ret
         exact ⟨by first | rfl | (simp [errW_none, errW_some] <;> rfl) | (simp [*, errW_none, errW_some] <;> rfl), by repeat (first | (with_reducible first | exact HB.out | apply wA | apply wN | apply wD | refine below_set ?_ GE145.out) | exact HB.out)⟩
       ·rw [if_neg c40] at H
        have c40b0 : (t166 == 0) = false := beq_eq_false_iff_ne.mpr c40
        (try simp only [hl3_1] at c40b0)
        have c40b1 : (t166 != 0) = true := bne_iff_ne.mpr c40
        (try simp only [hl3_1] at c40b1)
        obtain rfl := Option.some.inj H
        go_wp2
        go_ret
        exact ⟨by first | rfl | (simp [errW_none, errW_some] <;> rfl) | (simp [*, errW_none, errW_some] <;> rfl), by repeat (first | (with_reducible first | exact HB.out | apply wA | apply wN | apply wD | refine below_set ?_ GE145.out) | exact HB.out)⟩
      ·rw [if_neg c39] at H
       have c39b0 : (t153 == 0) = false := beq_eq_false_iff_ne.mpr c39
       (try simp only [hl3_1] at c39b0)
       have c39b1 : (t153 != 0) = true := bne_iff_ne.mpr c39
       (try simp only [hl3_1] at c39b1)
       obtain rfl := Option.some.inj H
       go_wp2
       go_ret
       exact ⟨by first | rfl | (simp [errW_none, errW_some] <;> rfl) | (simp [*, errW_none, errW_some] <;> rfl), by repeat (first | (with_reducible first | exact HB.out | apply wA | apply wN | apply wD | refine below_set ?_ GE145.out) | exact HB.out)⟩
     ·rw [if_neg c38] at H
      have c38b0 : (t144 == 0) = false := beq_eq_false_iff_ne.mpr c38
      (try simp only [hl3_1] at c38b0)
      have c38b1 : (t144 != 0) = true := bne_iff_ne.mpr c38
      (try simp only [hl3_1] at c38b1)
      obtain rfl := Option.some.inj H
      go_wp2
      go_ret
      exact ⟨by first | rfl | (simp [errW_none, errW_some] <;> rfl) | (simp [*, errW_none, errW_some] <;> rfl), by repeat (first | (with_reducible first | exact HB.out | apply wA | apply wN | apply wD | refine below_set ?_ GE145.out) | exact HB.out)⟩
 ·rw [if_neg c8] at H
  exact absurd H (by simp)

end Go.Proofs.Ytnfbjdnflifcoaa.PDk
