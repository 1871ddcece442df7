-- Laid by wip/tools/xprint.py, a program of this session over the kit's print: functions as Lean functions, each with its contract.
import Derived.Test.YtnfbjdnflifcoaaPDkx0
import Derived.Test.YtnfbjdnflifcoaaPDkx5
import Derived.Test.YtnfbjdnflifcoaaPDkx6
import Derived.Test.YtnfbjdnflifcoaaPDkx8
import Derived.Test.YtnfbjdnflifcoaaPDkx9
import Derived.Test.YtnfbjdnflifcoaaPDkx10
import Derived.Test.YtnfbjdnflifcoaaPDkx17
import Derived.Test.YtnfbjdnflifcoaaPDkx18
import Derived.Test.YtnfbjdnflifcoaaPDkx22
import Derived.Test.YtnfbjdnflifcoaaPDkx24
namespace Go.Proofs.Ytnfbjdnflifcoaa.PDk
open Go.RowKit Go.Proofs.YtnfbjdnflifcoaaW.PrintWords Go.Proofs.YtnfbjdnflifcoaaW.PrintLast Go.Proofs.YtnfbjdnflifcoaaW.PrintMore
attribute [local go_sem] max2_int min2_int max_two min_two max_three min_three max_four min_four   -- for this text's walks alone
set_option linter.unusedVariables false
set_option linter.unusedSimpArgs false

/-! ### rollbacknetlaw10_DiskApart: function 8 -/
def rollbacknetlaw10_DiskApart.l0 : Nat → Int → Int → Int → List Int → Int → List (S48) → Option (Bool)
 | 0, _, _, _, _, _, _ => none
 | k + 1, x1, x2, x10, x543000, x543001, x548000 => if x10 < 4 then ((rollbacknetmake_Codes_Bytes.f k x543000 x543001 20).bind fun bt548 => ((disk_Append.f k x548000 x10 bt548.1).bind fun bt552 => (if bt552.2 = 0 then (rollbacknetlaw10_DiskApart.l0 k x1 x2 (wrap64 (x10 + 1)) x543000 bt548.2 bt552.1) else (some false)))) else ((disk_Read.f x548000 (Int.tmod (wrap64 (x2)) 4)).bind fun bt557 => ((rollbacknetmake_Codes_Bytes.f k x543000 x543001 20).bind fun bt561 => ((disk_Append.f k x548000 (Int.tmod (wrap64 (x1)) 4) bt561.1).bind fun bt565 => ((disk_Sync.f k bt565.1 (Int.tmod (wrap64 (x1)) 4)).bind fun bt570 => ((rollbacknetmake_Codes_Bytes.f k x543000 bt561.2 20).bind fun bt575 => ((disk_Replace.f k bt570.1 (Int.tmod (wrap64 (x1)) 4) bt575.1).bind fun bt579 => ((disk_Read.f bt579.1 (Int.tmod (wrap64 (x2)) 4)).bind fun bt584 => (if bt579.2 = 0 then (if bt584.2 = 0 then (if (Int.tmod (wrap64 (x1)) 4) = (Int.tmod (wrap64 (x2)) 4) then (some true) else ((rollbacknetref08_SameBytes.f k bt557.1 bt584.1).bind fun t588 => (some t588))) else (some false)) else (some false)))))))))
def rollbacknetlaw10_DiskApart.f (k : Nat) (l0 : List Int) (a1 : Int) (a2 : Int) : Option (Bool) := (rollbacknetlaw10_awake.f k).bind fun t539 => (if t539 = true then ((rollbacknetmake_New.f l0 200).bind fun bt540 => ((disk_New.f 4).bind fun bt543 => (rollbacknetlaw10_DiskApart.l0 k a1 a2 0 bt540.1 bt540.2 bt543.1))) else (some false))
theorem rollbacknetlaw10_DiskApart.mono_l : ∀ k, (∀ y0 y1 y2 y3 y4 y5, LeO (rollbacknetlaw10_DiskApart.l0 k y0 y1 y2 y3 y4 y5) (rollbacknetlaw10_DiskApart.l0 (k + 1) y0 y1 y2 y3 y4 y5))
 | 0 => fun _ _ _ _ _ _ r h => by simp [rollbacknetlaw10_DiskApart.l0] at h
 | k + 1 => by
  have ih0 := rollbacknetlaw10_DiskApart.mono_l k
  ·intro y0 y1 y2 y3 y4 y5
   unfold rollbacknetlaw10_DiskApart.l0
   repeat' first
   | (with_reducible exact ih0 _ _ _ _ _ _)
   | (with_reducible exact disk_Append.mono _ _ _ _)
   | (with_reducible exact disk_Replace.mono _ _ _ _)
   | (with_reducible exact disk_Sync.mono _ _ _)
   | (with_reducible exact rollbacknetlaw10_awake.mono _)
   | (with_reducible exact rollbacknetmake_Codes_Bytes.mono _ _ _ _)
   | (with_reducible exact rollbacknetref08_SameBytes.mono _ _ _)
   | (with_reducible exact LeO.refl _)
   | (with_reducible exact LeO.none _)
   | (with_reducible refine LeO.ite ?_ ?_)
   | (with_reducible refine LeO.bind ?_ (fun _ => ?_))
   | exact ih0 _ _ _ _ _ _
   | exact disk_Append.mono _ _ _ _
   | exact disk_Replace.mono _ _ _ _
   | exact disk_Sync.mono _ _ _
   | exact rollbacknetlaw10_awake.mono _
   | exact rollbacknetmake_Codes_Bytes.mono _ _ _ _
   | exact rollbacknetref08_SameBytes.mono _ _ _
   | exact LeO.none _
   | refine LeO.ite ?_ ?_
   | refine LeO.bind ?_ (fun _ => ?_)
theorem rollbacknetlaw10_DiskApart.mono : ∀ a0 a1 a2 k, LeO (rollbacknetlaw10_DiskApart.f k a0 a1 a2) (rollbacknetlaw10_DiskApart.f (k + 1) a0 a1 a2) := by
 intro a0 a1 a2 k
 have ih0 := rollbacknetlaw10_DiskApart.mono_l k
 unfold rollbacknetlaw10_DiskApart.f
 repeat' first
   | (with_reducible exact ih0 _ _ _ _ _ _)
   | (with_reducible exact disk_Append.mono _ _ _ _)
   | (with_reducible exact disk_Replace.mono _ _ _ _)
   | (with_reducible exact disk_Sync.mono _ _ _)
   | (with_reducible exact rollbacknetlaw10_awake.mono _)
   | (with_reducible exact rollbacknetmake_Codes_Bytes.mono _ _ _ _)
   | (with_reducible exact rollbacknetref08_SameBytes.mono _ _ _)
   | (with_reducible exact LeO.refl _)
   | (with_reducible exact LeO.none _)
   | (with_reducible refine LeO.ite ?_ ?_)
   | (with_reducible refine LeO.bind ?_ (fun _ => ?_))
   | exact ih0 _ _ _ _ _ _
   | exact disk_Append.mono _ _ _ _
   | exact disk_Replace.mono _ _ _ _
   | exact disk_Sync.mono _ _ _
   | exact rollbacknetlaw10_awake.mono _
   | exact rollbacknetmake_Codes_Bytes.mono _ _ _ _
   | exact rollbacknetref08_SameBytes.mono _ _ _
   | exact LeO.none _
   | refine LeO.ite ?_ ?_
   | refine LeO.bind ?_ (fun _ => ?_)
def rollbacknetlaw10_DiskApart.T8 : Bool × List (List Nat × List Nat) := (true, [([], []), ([], []), ([], []), ([2], [2]), ([0, 1, 3, 3], [0, 1, 3]), ([4], [4]), ([5], [5]), ([5], [5]), ([], []), ([8, 6, 4, 0, 1, 2, 3, 4, 5, 6, 8], [6, 8]), ([7, 9, 0, 1, 2, 3, 4, 5, 6, 7, 8, 9], [7])])
def rollbacknetlaw10_DiskApart.B8 : List Nat := [0, 0, 0, 4, 15, 31, 63, 63, 0, 383, 1023]
theorem rollbacknetlaw10_DiskApart.tab8 : rtab .any (opsOf Try.f8 8) = rollbacknetlaw10_DiskApart.T8 := by kernel_rfl
theorem rollbacknetlaw10_DiskApart.bits8 : waitsOk rollbacknetlaw10_DiskApart.T8.2 rollbacknetlaw10_DiskApart.B8 = true := by kernel_rfl
def rollbacknetlaw10_DiskApart.T14 : Bool × List (List Nat × List Nat) := (true, [([], []), ([], []), ([], []), ([2], [2]), ([0, 1, 3, 3], [0, 1, 3]), ([4], [4]), ([5], [5]), ([5], [5]), ([], []), ([8, 6, 4, 0, 1, 2, 3, 4, 5, 6, 8], [6, 8]), ([7, 9, 0, 1, 2, 3, 4, 5, 6, 7, 8, 9], [7])])
def rollbacknetlaw10_DiskApart.B14 : List Nat := [0, 0, 0, 4, 15, 31, 63, 63, 0, 383, 1023]
theorem rollbacknetlaw10_DiskApart.tab14 : rtab .any (opsOf Try.f8 14) = rollbacknetlaw10_DiskApart.T14 := by kernel_rfl
theorem rollbacknetlaw10_DiskApart.bits14 : waitsOk rollbacknetlaw10_DiskApart.T14.2 rollbacknetlaw10_DiskApart.B14 = true := by kernel_rfl
def rollbacknetlaw10_DiskApart.T16 : Bool × List (List Nat × List Nat) := (true, [([], []), ([], []), ([], []), ([2], [2]), ([0, 1, 3, 3], [0, 1, 3]), ([4], [4]), ([5], [5]), ([5], [5]), ([], []), ([8, 6, 4, 0, 1, 2, 3, 4, 5, 6, 8], [6, 8]), ([7, 9, 0, 1, 2, 3, 4, 5, 6, 7, 8, 9], [7])])
def rollbacknetlaw10_DiskApart.B16 : List Nat := [0, 0, 0, 4, 15, 31, 63, 63, 0, 383, 1023]
theorem rollbacknetlaw10_DiskApart.tab16 : rtab .any (opsOf Try.f8 16) = rollbacknetlaw10_DiskApart.T16 := by kernel_rfl
theorem rollbacknetlaw10_DiskApart.bits16 : waitsOk rollbacknetlaw10_DiskApart.T16.2 rollbacknetlaw10_DiskApart.B16 = true := by kernel_rfl
set_option maxHeartbeats 8000000 in
set_option maxRecDepth 100000 in
theorem rollbacknetlaw10_DiskApart.calls (k : Nat) (A0 : Option Addr) (c0 : Nat) (l0 : List Int) (a1 : Int) (a2 : Int) (r : Bool) (w : World) (hr0 : Kd.C (Kd.int .u8) w A0 l0.length l0) (hc0 : l0.length ≤ c0) (h : rollbacknetlaw10_DiskApart.f k l0 a1 a2 = some r) :
  Calls Try.prog 8 #[.slice A0 l0.length c0, .int .u8 a1, .int .u8 a2] w fun e w' => e = .returned (.bool r) ∧ Below w.heap.size w w' := by
 have hu24 := Try.underlying24
 have HR0 := aM hr0
 have HC0 := aM hc0
 clear hr0 hc0
 have HB := aM (Below.refl w.heap.size w)
 have H : ((rollbacknetlaw10_awake.f k).bind fun t539 => (if t539 = true then ((rollbacknetmake_New.f l0 200).bind fun bt540 => ((disk_New.f 4).bind fun bt543 => (rollbacknetlaw10_DiskApart.l0 k a1 a2 0 bt540.1 bt540.2 bt543.1))) else (some false))) = some r := h
 clear h
 replace H := Option.bind_eq_some_iff.mp H
 obtain ⟨t539, A40, H⟩ := H
 replace H : (if t539 = true then ((rollbacknetmake_New.f l0 200).bind fun bt540 => ((disk_New.f 4).bind fun bt543 => (rollbacknetlaw10_DiskApart.l0 k a1 a2 0 bt540.1 bt540.2 bt543.1))) else (some false)) = some r := H
 have A4 := aM A40
 clear A40
 by_cases c5 : t539 = true
 ·subst c5
  have H1 : ((rollbacknetmake_New.f l0 200).bind fun bt540 => ((disk_New.f 4).bind fun bt543 => (rollbacknetlaw10_DiskApart.l0 k a1 a2 0 bt540.1 bt540.2 bt543.1))) = some r := by rw [if_pos rfl] at H; exact H
  clear H
  have H := H1
  clear H1
  replace H := Option.bind_eq_some_iff.mp H
  obtain ⟨⟨t540, t541⟩, A60, H⟩ := H
  replace H : ((disk_New.f 4).bind fun bt543 => (rollbacknetlaw10_DiskApart.l0 k a1 a2 0 t540 t541 bt543.1)) = some r := H
  have A6 := aM A60
  clear A60
  replace H := Option.bind_eq_some_iff.mp H
  obtain ⟨⟨t543, t546⟩, A70, H⟩ := H
  replace H : (rollbacknetlaw10_DiskApart.l0 k a1 a2 0 t540 t541 t543) = some r := H
  have A7 := aM A70
  clear A70
  have H' := aM H
  clear H
  go_enter Try.func8, Try.ntmps8
  go_wp2_with (first | ((with_reducible refine gate_callee (f := 9) rfl ?_); refine goesL_ (some 25) rfl rfl Try.func9 (by kernel_rfl) rfl #[] rfl (by (try simp only [List.map_toArray, List.map_cons, List.map_nil]); first | done | rfl | (simp only [List.length_drop, List.length_take]; rfl)) ?_; (with_reducible refine (rollbacknetlaw10_awake.calls k  true _ A4.out).mono ?_); rintro e w8 ⟨rfl, hb⟩; refine ⟨_, rfl, ?_⟩; have n0_ := aM (below_step (by repeat (first | (with_reducible first | exact HB.out | apply wA | apply wN | apply wD) | exact HB.out)) hb); clear HB; have HB := n0_; clear n0_; (try clear hb); (try clear hb2); (try clear hk); (try clear hi)) | ((with_reducible refine gate_callee (f := 16) rfl ?_); refine goesL_ (some 28) rfl rfl Try.func16 (by kernel_rfl) rfl #[.slice A0 l0.length c0, .int .i64 200] rfl (by (try simp only [List.map_toArray, List.map_cons, List.map_nil]); first | done | rfl | (simp only [List.length_drop, List.length_take]; rfl)) ?_; (with_reducible refine (rollbacknetmake_New.calls _ _ l0 200 t540 t541 w _ ?side1 ?side2 ?side3 A6.out).mono ?_); (case side1 => repeat (first | (with_reducible first | exact HB.out | apply wA | apply wN | apply wD) | exact HB.out)); (case side2 => exact HR0.out); (case side3 => exact HC0.out); rintro e w9 ⟨g542, rfl, hi, hb, hb2⟩; refine ⟨_, rfl, ?_⟩; have n0_ := aM (hb); have n1_ := aM (hi); clear HB; have HB := n0_; have HI542 := n1_; clear n0_ n1_; (try clear hb); (try clear hb2); (try clear hk); (try clear hi)) | ((with_reducible refine gate_callee (f := 13) rfl ?_); refine goesL_ (some 30) rfl rfl Try.func13 (by kernel_rfl) rfl #[.int .i64 4] rfl (by (try simp only [List.map_toArray, List.map_cons, List.map_nil]); first | done | rfl | (simp only [List.length_drop, List.length_take]; rfl)) ?_; (with_reducible refine (disk_New.calls 4 t543 t546 _ A7.out).mono ?_); rintro e w10 ⟨v544, rfl, ho0, hb⟩; refine ⟨_, rfl, ?_⟩; have n0_ := aM (Kd.N_lower (Kd.N_mono (ok' := fun k_ => k_ ≠ g542) (Kd.S_N (Kd.S_bound ho0)) (fun k_ hk_ => (IsS62.fresh (by repeat (first | (with_reducible first | exact HI542.out | apply IsS62.alloc | apply IsS62.drewN | apply IsS62.drew | apply IsS62.set_1) | exact HI542.out)) k_ hk_.2.1))) (below_size (by repeat (first | (with_reducible first | exact HB.out | apply wA | apply wN | apply wD | refine below_set ?_ (IsS62.ge HI542.out)) | exact HB.out)))); have n1_ := aM (IsS62.below (by repeat (first | (with_reducible first | exact HI542.out | apply IsS62.alloc | apply IsS62.drewN | apply IsS62.drew | apply IsS62.set_1) | exact HI542.out)) hb); have n2_ := aM (below_step (by repeat (first | (with_reducible first | exact HB.out | apply wA | apply wN | apply wD | refine below_set ?_ (IsS62.ge HI542.out)) | exact HB.out)) hb); clear HI542; clear HB; have HO545 := n0_; have HI542 := n1_; have HB := n2_; clear n0_ n1_ n2_; (try clear hb); (try clear hb2); (try clear hk); (try clear hi); (try clear ho0)) | ((with_reducible refine gate_dst (N := 8) rfl ?_); refine box_event ?hg (N := 8) ?hd (cs := #[.slice none 0 0]) (t := 24) ?hr ?_; (case hd => rfl); (case hg => rfl); (case hr => first | (go_simp; done) | (go_simp; rfl)); intro gb547 hg w11 hbox hb; have n0_ := aM (Kd.N_below (Kd.N_elderB (by (with_reducible repeat (first | apply Kd.N_alloc | apply Kd.N_drewN | apply Kd.N_drew)); exact HO545.out) gb547 (Nat.le_of_eq hg.symm)) hb); have n1_ := aM (IsS62.below (by repeat (first | (with_reducible first | exact HI542.out | apply IsS62.alloc | apply IsS62.drewN | apply IsS62.drew | apply IsS62.set_1) | exact HI542.out)) hb); have n2_ := aM (below_step (by repeat (first | (with_reducible first | exact HB.out | apply wA | apply wN | apply wD | refine below_set ?_ (IsS62.ge HI542.out)) | exact HB.out)) hb); have n3_ := aM (hbox); have n4_ := aM ((by rw [hg]; exact (below_size (by repeat (first | (with_reducible first | exact HB.out | apply wA | apply wN | apply wD | refine below_set ?_ (IsS62.ge HI542.out)) | exact HB.out))) : w.heap.size ≤ gb547)); have n5_ := aM ((by rw [hg]; exact (below_size (by repeat (first | (with_reducible first | exact HB.out | apply wA | apply wN | apply wD | refine below_set ?_ (IsS62.ge HI542.out)) | exact HB.out))) : w.heap.size ≤ gb547)); have n6_ := aM ((by rw [hg]; exact Nat.ne_of_lt (IsS62.lt (show IsS62 w _ g542 t540 t541 from by repeat (first | (with_reducible first | exact HI542.out | apply IsS62.alloc | apply IsS62.drewN | apply IsS62.drew | apply IsS62.set_1) | exact HI542.out))) : g542 ≠ gb547)); have n7_ := aM ((by rw [hg]; exact Nat.ne_of_gt (IsS62.lt (show IsS62 w _ g542 t540 t541 from by repeat (first | (with_reducible first | exact HI542.out | apply IsS62.alloc | apply IsS62.drewN | apply IsS62.drew | apply IsS62.set_1) | exact HI542.out))) : gb547 ≠ g542)); clear HO545; clear HI542; clear HB; have HO545 := n0_; have HI542 := n1_; have HB := n2_; have BK547 := n3_; have GW547 := n4_; have GE547 := n5_; have NB542_547 := n6_; have NB547_542 := n7_; clear n0_ n1_ n2_ n3_ n4_ n5_ n6_ n7_; clear hb hbox hg; obtain ⟨Ao12, co12, eo12⟩ := Kd.N_slice HO545.out; subst eo12; have hnb13 := NB547_542.out; have hnc13 := NB542_547.out; have hcz14_0 : w11.cell? ⟨gb547, 0, none⟩ = some (.slice none 0 0) := (blk_cell BK547.out 0).trans rfl; have hfz14_0 := blk_frozen BK547.out 0))
  go_loopg [10] k (fun kq v10 w' => ∃ (x10_1 : Int) (x543001_1 : Int) (x548000_1 : List (S48)) (u548000 : Value), v10 = .int .i64 x10_1 ∧ Aside0 (rollbacknetlaw10_DiskApart.l0 kq a1 a2 x10_1 t540 x543001_1 x548000_1 = some r) ∧ Aside0 (kq ≤ k) ∧ Aside0 (Kd.N k48 48 w' w.heap.size (fun k_ => k_ ≠ gb547 ∧ k_ ≠ g542) u548000 x548000_1) ∧ Aside0 (w'.heap[gb547]? = some (.cells #[u548000] 24 (0, 0))) ∧ Aside0 (IsS62 w w' g542 t540 x543001_1) ∧ Aside0 (Below w.heap.size w w'))
  case atStart => exact ⟨(0), (t541), (t543), (.slice Ao12 t543.length co12), (by first | rfl | (simp; done) | (simp [*]; done)), H', ⟨Nat.le_refl _⟩, ⟨by (with_reducible repeat (first | apply Kd.N_alloc | apply Kd.N_drewN | apply Kd.N_drew)); exact Kd.N_mono (Kd.N_far (p := ⟨gb547, 0, none⟩) (Kd.N_mono HO545.out (fun k_ hk => (⟨hk, hk.2⟩ : _ ∧ k_ ≠ gb547))) (fun _ hk => hk.2) (.slice Ao12 t543.length co12)) (fun _ hk => ⟨hk.1.2, hk.1.1⟩)⟩, ⟨by (with_reducible repeat (first | refine bN ?_ _ | refine bD ?_ | refine bA ?_ _)); refine blk_put (cs := #[.slice none 0 0]) ?_ 0 _ rfl; (with_reducible repeat (first | refine bN ?_ _ | refine bD ?_ | refine bA ?_ _)); exact BK547.out⟩, ⟨by repeat (first | (with_reducible first | exact HI542.out | apply IsS62.alloc | apply IsS62.drewN | apply IsS62.drew | apply IsS62.set_1 | refine IsS62.far ?_ NB542_547.out _) | exact HI542.out)⟩, ⟨by repeat (first | (with_reducible first | exact HB.out | apply wA | apply wN | apply wD | refine below_set ?_ (IsS62.ge HI542.out) | refine below_set ?_ GE547.out) | exact HB.out)⟩⟩
  case round =>
   clear H'
   try clear c1
   try clear p2
   try clear c5
   try clear c8
   try clear c9
   try clear c13
   try clear hcz14_0
   try clear hfz14_0
   obtain ⟨x10_1, x543001_1, x548000_1, u548000, rfl, HA, HK1, HO_548000, BK547, HI542, HB⟩ := hrel
   cases gk with
   | zero => exact absurd HA.out (by simp [rollbacknetlaw10_DiskApart.l0])
   | succ k1 =>
    have H := HA.out
    clear HA
    simp only [rollbacknetlaw10_DiskApart.l0] at H
    by_cases c15 : x10_1 < 4
    ·rw [if_pos c15] at H
     have c15b0 : decide (x10_1 < 4) = true := decide_eq_true c15
     clear c15
     replace H := Option.bind_eq_some_iff.mp H
     obtain ⟨⟨t548, t551⟩, A160, H⟩ := H
     replace H : ((disk_Append.f k1 x548000_1 x10_1 t548).bind fun bt552 => (if bt552.2 = 0 then (rollbacknetlaw10_DiskApart.l0 k1 a1 a2 (wrap64 (x10_1 + 1)) t540 t551 bt552.1) else (some false))) = some r := H
     have A16 := aM A160
     clear A160
     replace H := Option.bind_eq_some_iff.mp H
     obtain ⟨⟨t552, t555⟩, A170, H⟩ := H
     replace H : (if t555 = 0 then (rollbacknetlaw10_DiskApart.l0 k1 a1 a2 (wrap64 (x10_1 + 1)) t540 t551 t552) else (some false)) = some r := H
     have A17 := aM A170
     clear A170
     by_cases c18 : t555 = 0
     ·rw [if_pos c18] at H
      have c18b0 : (t555 == 0) = true := beq_iff_eq.mpr c18
      have c18b1 : (t555 != 0) = false := bne_eq_false_iff_eq.mpr c18
      clear c18
      have H' := aM H
      clear H
      obtain ⟨Ao19, co19, eo19⟩ := Kd.N_slice HO_548000.out
      subst eo19
      try go_wp2
      have n0_ := aM (Kd.N_drew HO_548000.out)
      have n1_ := aM (bD BK547.out)
      have n2_ := aM (IsS62.drew HI542.out)
      have n3_ := aM (wD HB.out)
      clear HO_548000
      clear BK547
      clear HI542
      clear HB
      have HO_548000 := n0_
      have BK547 := n1_
      have HI542 := n2_
      have HB := n3_
      clear n0_ n1_ n2_ n3_
      refine start_ (n := 11) (S := fun w' => w'.cell? ⟨gb547, 0, none⟩ = some (.slice Ao19 x548000_1.length co19)) (ds := []) #[false, false, false, false, false, false, false, false, false, false, false] (by kernel_rfl) rfl rfl ((blk_cell BK547.out 0).trans rfl) (fun hHeld => ?_); refine with_tabW rollbacknetlaw10_DiskApart.tab8 rollbacknetlaw10_DiskApart.bits8 (fun HT_ HW_ => ?_)
      generalize wr.drew = w20 at HO_548000 BK547 HI542 HB hHeld ⊢
      refine pure_ (i := 1) (N := some 39) (v := ?_) (a' := ?_) #[false, true, false, false, false, false, false, false, false, false, false] rfl rfl (any_of HT_.out (by kernel_rfl)) (fun _ _ _ h => h) (Or.inl ⟨by rfl, ?_⟩) ?_ ?_
      rotate_left
      ·intro w'
       go_simp
       with_reducible rfl
      rotate_left
      ·simp only [Act.put, List.setIfInBounds_toArray, List.set_cons_zero, List.set_cons_succ, i64_w, i32_w]
       rfl
      refine pure_ (i := 2) (N := some 40) (v := ?_) (a' := ?_) #[false, true, true, false, false, false, false, false, false, false, false] rfl rfl (any_of HT_.out (by kernel_rfl)) (fun _ _ _ h => h) (Or.inl ⟨by rfl, ?_⟩) ?_ ?_
      rotate_left
      ·intro w'
       go_simp
       with_reducible rfl
      rotate_left
      ·simp only [Act.put, List.setIfInBounds_toArray, List.set_cons_zero, List.set_cons_succ, i64_w, i32_w]
       rfl
      refine take_ (i := 0) (N := some 38) (v := ?_) (a' := ?_) #[true, true, true, false, false, false, false, false, false, false, false] rfl rfl (take_ofW HT_.out HW_.out (by kernel_rfl)) (fun _ _ _ h => h) (Or.inl ⟨by rfl, ?_⟩) hHeld ?_ ?_
      rotate_left
      ·intro w' s0
       go_simp
       with_reducible rfl
      rotate_left
      ·simp only [Act.put, List.setIfInBounds_toArray, List.set_cons_zero, List.set_cons_succ, i64_w, i32_w]
       rfl
      refine join_ (σ := Value × Value × Nat) 2 #[true, true, true, true, true, true, true, true, true, false, false] (fun s_ => [(41, s_.1), (42, .tuple #[.agg #[s_.2.1], .int .i64 t555]), (11, .pointer (some ⟨s_.2.2, 0, none⟩)), (37, .tuple #[.agg #[s_.2.1], .int .i64 t555]), (43, .agg #[s_.2.1]), (44, .int .i64 t555)]) (fun s_ w' => (w'.cell? ⟨gb547, 0, none⟩ = some (.slice Ao19 x548000_1.length co19)) ∧ (Kd.R (Kd.int .u8) 5 w' w.heap.size (fun _ => True) s_.1 t548) ∧ (Kd.N k48 48 w' w.heap.size (fun k_ => some k_ ≠ (s_.1 : Value).ownBlock ∧ some k_ ≠ (.slice Ao19 x548000_1.length co19 : Value).ownBlock ∧ k_ ≠ g542 ∧ k_ ≠ gb547 ∧ k_ ≠ s_.2.2) s_.2.1 t552) ∧ (Kd.N k48 48 w' w.heap.size (fun k_ => some k_ ≠ (s_.1 : Value).ownBlock ∧ some k_ ≠ (s_.2.1 : Value).ownBlock ∧ k_ ≠ g542 ∧ k_ ≠ gb547 ∧ k_ ≠ s_.2.2) (.slice Ao19 x548000_1.length co19) x548000_1) ∧ (w'.heap[gb547]? = some (.cells #[.slice Ao19 x548000_1.length co19] 24 (0, 0))) ∧ (w'.heap[s_.2.2]? = some (.cells #[.slice none 0 0] 24 (0, 0))) ∧ (w.heap.size ≤ s_.2.2) ∧ (w.heap.size ≤ s_.2.2) ∧ (g542 ≠ s_.2.2) ∧ (s_.2.2 ≠ g542) ∧ (gb547 ≠ s_.2.2) ∧ (s_.2.2 ≠ gb547) ∧ (IsS62 w w' g542 t540 t551) ∧ (Below w.heap.size w w')) ?_ ?_
      rotate_left
      ·intro hCont
       refine two_ (i := 3) (j := 8) (Ni := some 41) (Nj := some 11) #[true, true, true, true, false, false, false, false, false, false, false] #[true, true, true, false, false, false, false, false, true, false, false] rfl rfl rfl rfl (two_of HT_.out (by kernel_rfl)) (by decide) (by decide) (fun K hK => ?_) (fun K hK => ?_)
       ·skip
        refine goes_ Try.func23 (by kernel_rfl) rfl #[.pointer (some ⟨g542, 0, none⟩), .int .i64 20] (by rfl) rfl rfl (by (try simp only [List.map_toArray, List.map_cons, List.map_nil]); first | done | rfl | (simp only [List.length_drop, List.length_take]; rfl)) ?_
        with_reducible refine (rollbacknetmake_Codes_Bytes.calls k1 g542 t540 x543001_1 20 t548 t551 w _ ?side1 ?side2 A16.out).mono ?_
        (case side1 => repeat (first | (with_reducible first | exact HI542.out | apply IsS62.alloc | apply IsS62.drewN | apply IsS62.drew | apply IsS62.set_1 | refine IsS62.far ?_ NB542_547.out _) | exact HI542.out))
        (case side2 => repeat (first | (with_reducible first | exact HB.out | apply wA | apply wN | apply wD | refine below_set ?_ (IsS62.ge HI542.out) | refine below_set ?_ GE547.out) | exact HB.out))
        rintro e w21 ⟨v549, rfl, ho0, hi, hb, hk⟩
        refine ⟨_, rfl, ?_⟩
        have n0_ := aM (Kd.N_mono (Kd.N_told (Kd.N_oldK (Kd.N_mono (ok := fun k_ => (k_ ≠ gb547 ∧ k_ ≠ g542)) (by (with_reducible repeat (first | apply Kd.N_alloc | apply Kd.N_drewN | apply Kd.N_drew)); exact HO_548000.out) (fun k_ hk_ => (⟨hk_, hk_.2⟩ : _ ∧ k_ ≠ g542))) hk) (Kd.R_base ho0)) (fun _ h_ => h_.1))
        have n1_ := aM (KeepBut.blk hk (g' := gb547) (o := .cells #[.slice Ao19 x548000_1.length co19] 24 (0, 0)) (by (with_reducible repeat (first | refine bN ?_ _ | refine bD ?_ | refine bA ?_ _)); exact BK547.out) NB547_542.out (by simp))
        have n2_ := aM (Kd.R_lower ho0 (below_size (by repeat (first | (with_reducible first | exact HB.out | apply wA | apply wN | apply wD | refine below_set ?_ (IsS62.ge HI542.out) | refine below_set ?_ GE547.out) | exact HB.out))))
        have n3_ := aM (hb)
        have n4_ := aM (hi)
        clear HO_548000
        clear BK547
        clear HB
        clear HI542
        have HO_548000 := n0_
        have BK547 := n1_
        have HO550 := n2_
        have HB := n3_
        have HI542 := n4_
        clear n0_ n1_ n2_ n3_ n4_
        (try clear hb)
        (try clear hb2)
        (try clear hk)
        (try clear hi)
        (try clear ho0)
        obtain ⟨Ao22, co22, eo22⟩ := Kd.R_slice HO550.out
        (first | subst eo22 | (injection eo22 with f1_ f2_ f3_; have f4_ := f1_.symm; have f5_ := f3_.symm; clear f1_ f2_ f3_; subst f4_; subst f5_))
        refine hK.out _ _ ((blk_cell BK547.out 0).trans rfl) (fun hHeld => ?_)
        clear hK K
        refine norm_ (a' := ?_) ?_ ?_
        rotate_left
        ·show Act.put _ (some 41) _ = _
         simp only [Act.put, List.setIfInBounds_toArray, List.set_cons_zero, List.set_cons_succ, i64_w, i32_w]
         rfl
        refine two_ (i := 4) (j := 8) (Ni := some 42) (Nj := some 11) #[true, true, true, true, true, false, false, false, false, false, false] #[true, true, true, true, false, false, false, false, true, false, false] rfl rfl rfl rfl (two_of HT_.out (by kernel_rfl)) (by decide) (by decide) (fun K hK => ?_) (fun K hK => ?_)
        ·skip
         refine goes_ Try.func14 (by kernel_rfl) rfl #[.agg #[.slice Ao19 x548000_1.length co19], .int .i64 x10_1, .slice Ao22 t548.length co22] (by rfl) rfl rfl (by (try simp only [List.map_toArray, List.map_cons, List.map_nil]); first | done | rfl | (simp only [List.length_drop, List.length_take]; rfl)) ?_
         with_reducible refine (disk_Append.calls k1 _ _ x548000_1 x10_1 _ _ t548 t552 t555 _ ?side1 ?side2 ?side3 ?side4 A17.out).mono ?_
         (case side1 => repeat (first | exact (Kd.N_reads' HO_548000.out).2.2 | (with_reducible refine Kd.C_alloc ?_ _) | (with_reducible refine Kd.C_drewN ?_ _) | (with_reducible refine Kd.C_drew ?_)))
         (case side2 => exact (Kd.N_reads' HO_548000.out).2.1)
         (case side3 => repeat (first | exact (Kd.R_reads' HO550.out).2.2 | (with_reducible refine Kd.C_alloc ?_ _) | (with_reducible refine Kd.C_drewN ?_ _) | (with_reducible refine Kd.C_drew ?_)))
         (case side4 => exact (Kd.R_reads' HO550.out).2.1)
         rintro e w23 ⟨v553, rfl, ho0, hb⟩
         refine ⟨_, rfl, ?_⟩
         have n0_ := aM (Kd.N_elder' (by (with_reducible repeat (first | apply Kd.N_alloc | apply Kd.N_drewN | apply Kd.N_drew)); exact HO_548000.out) (by first | exact Kd.N_base ho0 | exact Kd.N_base (Kd.S_N ho0)) hb)
         have n1_ := aM (Kd.R_below (by (with_reducible repeat (first | apply Kd.R_alloc | apply Kd.R_drewN | apply Kd.R_drew)); exact HO550.out) hb)
         have n2_ := aM (Kd.N_lower (Kd.N_mono (ok' := fun k_ => some k_ ≠ (.slice Ao19 x548000_1.length co19 : Value).ownBlock ∧ some k_ ≠ (.slice Ao22 t548.length co22 : Value).ownBlock ∧ k_ ≠ gb547 ∧ k_ ≠ g542) (Kd.S_N (Kd.S_bound ho0)) (fun k_ hk_ => ⟨(Kd.fresh' (Kd.N_lt (by (with_reducible repeat (first | apply Kd.N_alloc | apply Kd.N_drewN | apply Kd.N_drew)); exact HO_548000.out)) k_ hk_.2.1), (Kd.fresh' (Kd.R_lt (by (with_reducible repeat (first | apply Kd.R_alloc | apply Kd.R_drewN | apply Kd.R_drew)); exact HO550.out)) k_ hk_.2.1), (Kd.freshB (g := gb547) (o := .cells #[.slice Ao19 x548000_1.length co19] 24 (0, 0)) (by (with_reducible repeat (first | refine bN ?_ _ | refine bD ?_ | refine bA ?_ _)); exact BK547.out) k_ hk_.2.1), (IsS62.fresh (by repeat (first | (with_reducible first | exact HI542.out | apply IsS62.alloc | apply IsS62.drewN | apply IsS62.drew | apply IsS62.set_1 | refine IsS62.far ?_ NB542_547.out _) | exact HI542.out)) k_ hk_.2.1)⟩)) (below_size (by repeat (first | (with_reducible first | exact HB.out | apply wA | apply wN | apply wD | refine below_set ?_ (IsS62.ge HI542.out) | refine below_set ?_ GE547.out) | exact HB.out))))
         have n3_ := aM (blk_below (g := gb547) (o := .cells #[.slice Ao19 x548000_1.length co19] 24 (0, 0)) (by (with_reducible repeat (first | refine bN ?_ _ | refine bD ?_ | refine bA ?_ _)); exact BK547.out) hb)
         have n4_ := aM (IsS62.below (by repeat (first | (with_reducible first | exact HI542.out | apply IsS62.alloc | apply IsS62.drewN | apply IsS62.drew | apply IsS62.set_1 | refine IsS62.far ?_ NB542_547.out _) | exact HI542.out)) hb)
         have n5_ := aM (below_step (by repeat (first | (with_reducible first | exact HB.out | apply wA | apply wN | apply wD | refine below_set ?_ (IsS62.ge HI542.out) | refine below_set ?_ GE547.out) | exact HB.out)) hb)
         clear HO_548000
         clear HO550
         clear BK547
         clear HI542
         clear HB
         have HO_548000 := n0_
         have HO550 := n1_
         have HO554 := n2_
         have BK547 := n3_
         have HI542 := n4_
         have HB := n5_
         clear n0_ n1_ n2_ n3_ n4_ n5_
         (try clear hb)
         (try clear hb2)
         (try clear hk)
         (try clear hi)
         (try clear ho0)
         refine hK.out _ _ ((blk_cell BK547.out 0).trans rfl) (fun hHeld => ?_)
         clear hK K
         refine norm_ (a' := ?_) ?_ ?_
         rotate_left
         ·show Act.put _ (some 42) _ = _
          simp only [Act.put, List.setIfInBounds_toArray, List.set_cons_zero, List.set_cons_succ, i64_w, i32_w]
          rfl
         refine pure_ (i := 5) (N := some 37) (v := ?_) (a' := ?_) #[true, true, true, true, true, true, false, false, false, false, false] rfl rfl (any_of HT_.out (by kernel_rfl)) (fun _ _ _ h => h) (Or.inl ⟨by rfl, ?_⟩) ?_ ?_
         rotate_left
         ·intro w'
          go_simp
          with_reducible rfl
         rotate_left
         ·simp only [Act.put, List.setIfInBounds_toArray, List.set_cons_zero, List.set_cons_succ, i64_w, i32_w]
          rfl
         refine pure_ (i := 6) (N := some 43) (v := ?_) (a' := ?_) #[true, true, true, true, true, true, true, false, false, false, false] rfl rfl (any_of HT_.out (by kernel_rfl)) (fun _ _ _ h => h) (Or.inl ⟨by rfl, ?_⟩) ?_ ?_
         rotate_left
         ·intro w'
          go_simp
          with_reducible rfl
         rotate_left
         ·simp only [Act.put, List.setIfInBounds_toArray, List.set_cons_zero, List.set_cons_succ, i64_w, i32_w]
          rfl
         refine pure_ (i := 7) (N := some 44) (v := ?_) (a' := ?_) #[true, true, true, true, true, true, true, true, false, false, false] rfl rfl (any_of HT_.out (by kernel_rfl)) (fun _ _ _ h => h) (Or.inl ⟨by rfl, ?_⟩) ?_ ?_
         rotate_left
         ·intro w'
          go_simp
          with_reducible rfl
         rotate_left
         ·simp only [Act.put, List.setIfInBounds_toArray, List.set_cons_zero, List.set_cons_succ, i64_w, i32_w]
          rfl
         refine one_ (i := 8) (N := some 11) #[true, true, true, true, true, true, true, true, true, false, false] rfl rfl (one_of HT_.out (by kernel_rfl)) (by decide) (fun K hK => ?_)
         refine box_step ?hg (N := 11) ?hd (cs := #[.slice none 0 0]) (t := 24) ?hr ?_; (case hd => rfl); (case hg => rfl); (case hr => first | (go_simp; done) | (go_simp; rfl))
         intro gb556 hg w24 hbox hb
         have n0_ := aM (Kd.N_below (Kd.N_elderB (by (with_reducible repeat (first | apply Kd.N_alloc | apply Kd.N_drewN | apply Kd.N_drew)); exact HO_548000.out) gb556 (Nat.le_of_eq hg.symm)) hb)
         have n1_ := aM (Kd.R_below (by (with_reducible repeat (first | apply Kd.R_alloc | apply Kd.R_drewN | apply Kd.R_drew)); exact HO550.out) hb)
         have n2_ := aM (Kd.N_below (Kd.N_elderB (by (with_reducible repeat (first | apply Kd.N_alloc | apply Kd.N_drewN | apply Kd.N_drew)); exact HO554.out) gb556 (Nat.le_of_eq hg.symm)) hb)
         have n3_ := aM (blk_below (g := gb547) (o := .cells #[.slice Ao19 x548000_1.length co19] 24 (0, 0)) (by (with_reducible repeat (first | refine bN ?_ _ | refine bD ?_ | refine bA ?_ _)); exact BK547.out) hb)
         have n4_ := aM (IsS62.below (by repeat (first | (with_reducible first | exact HI542.out | apply IsS62.alloc | apply IsS62.drewN | apply IsS62.drew | apply IsS62.set_1 | refine IsS62.far ?_ NB542_547.out _) | exact HI542.out)) hb)
         have n5_ := aM (below_step (by repeat (first | (with_reducible first | exact HB.out | apply wA | apply wN | apply wD | refine below_set ?_ (IsS62.ge HI542.out) | refine below_set ?_ GE547.out) | exact HB.out)) hb)
         have n6_ := aM (hbox)
         have n7_ := aM ((by rw [hg]; exact (below_size (by repeat (first | (with_reducible first | exact HB.out | apply wA | apply wN | apply wD | refine below_set ?_ (IsS62.ge HI542.out) | refine below_set ?_ GE547.out) | exact HB.out))) : w.heap.size ≤ gb556))
         have n8_ := aM ((by rw [hg]; exact (below_size (by repeat (first | (with_reducible first | exact HB.out | apply wA | apply wN | apply wD | refine below_set ?_ (IsS62.ge HI542.out) | refine below_set ?_ GE547.out) | exact HB.out))) : w.heap.size ≤ gb556))
         have n9_ := aM ((by rw [hg]; exact Nat.ne_of_lt (blk_lt (g := gb547) (o := .cells #[.slice Ao19 x548000_1.length co19] 24 (0, 0)) (by (with_reducible repeat (first | refine bN ?_ _ | refine bD ?_ | refine bA ?_ _)); exact BK547.out)) : gb547 ≠ gb556))
         have n10_ := aM ((by rw [hg]; exact Nat.ne_of_gt (blk_lt (g := gb547) (o := .cells #[.slice Ao19 x548000_1.length co19] 24 (0, 0)) (by (with_reducible repeat (first | refine bN ?_ _ | refine bD ?_ | refine bA ?_ _)); exact BK547.out)) : gb556 ≠ gb547))
         have n11_ := aM ((by rw [hg]; exact Nat.ne_of_lt (IsS62.lt (show IsS62 w _ g542 t540 t551 from by repeat (first | (with_reducible first | exact HI542.out | apply IsS62.alloc | apply IsS62.drewN | apply IsS62.drew | apply IsS62.set_1 | refine IsS62.far ?_ NB542_547.out _) | exact HI542.out))) : g542 ≠ gb556))
         have n12_ := aM ((by rw [hg]; exact Nat.ne_of_gt (IsS62.lt (show IsS62 w _ g542 t540 t551 from by repeat (first | (with_reducible first | exact HI542.out | apply IsS62.alloc | apply IsS62.drewN | apply IsS62.drew | apply IsS62.set_1 | refine IsS62.far ?_ NB542_547.out _) | exact HI542.out))) : gb556 ≠ g542))
         clear HO_548000
         clear HO550
         clear HO554
         clear BK547
         clear HI542
         clear HB
         have HO_548000 := n0_
         have HO550 := n1_
         have HO554 := n2_
         have BK547 := n3_
         have HI542 := n4_
         have HB := n5_
         have BK556 := n6_
         have GW556 := n7_
         have GE556 := n8_
         have NB547_556 := n9_
         have NB556_547 := n10_
         have NB542_556 := n11_
         have NB556_542 := n12_
         clear n0_ n1_ n2_ n3_ n4_ n5_ n6_ n7_ n8_ n9_ n10_ n11_ n12_
         clear hb hbox hg
         refine hK.out _ _ ((blk_cell BK547.out 0).trans rfl) (fun hHeld => ?_)
         clear hK K
         refine norm_ (a' := ?_) ?_ ?_
         rotate_left
         ·show Act.put _ (some 11) _ = _
          simp only [Act.put, List.setIfInBounds_toArray, List.set_cons_zero, List.set_cons_succ, i64_w, i32_w]
          rfl
         exact norm_ (by simp only [putAll, Act.put, List.setIfInBounds_toArray, List.set_cons_zero, List.set_cons_succ]) (hCont (.slice Ao22 t548.length co22, v553, gb556) _ ⟨hHeld, (by (with_reducible repeat (first | apply Kd.R_alloc | apply Kd.R_drewN | apply Kd.R_drew)); exact HO550.out), (by (with_reducible repeat (first | apply Kd.N_alloc | apply Kd.N_drewN | apply Kd.N_drew)); exact Kd.N_mono HO554.out (fun _ hk => ⟨hk.1.2.1, ⟨hk.1.1, ⟨hk.1.2.2.2, ⟨hk.1.2.2.1, hk.2⟩⟩⟩⟩)), (by (with_reducible repeat (first | apply Kd.N_alloc | apply Kd.N_drewN | apply Kd.N_drew)); exact Kd.N_mono HO_548000.out (fun _ hk => ⟨hk.1.1.2, ⟨hk.1.2, ⟨hk.1.1.1.2, ⟨hk.1.1.1.1, hk.2⟩⟩⟩⟩)), (by (with_reducible repeat (first | refine bN ?_ _ | refine bD ?_ | refine bA ?_ _)); exact BK547.out), (by (with_reducible repeat (first | refine bN ?_ _ | refine bD ?_ | refine bA ?_ _)); exact BK556.out), GW556.out, GE556.out, NB542_556.out, NB556_542.out, NB547_556.out, NB556_547.out, (by repeat (first | (with_reducible first | exact HI542.out | apply IsS62.alloc | apply IsS62.drewN | apply IsS62.drew | apply IsS62.set_1 | refine IsS62.far ?_ NB542_547.out _ | refine IsS62.far ?_ NB542_556.out _) | exact HI542.out)), (by repeat (first | (with_reducible first | exact HB.out | apply wA | apply wN | apply wD | refine below_set ?_ (IsS62.ge HI542.out) | refine below_set ?_ GE547.out | refine below_set ?_ GE556.out) | exact HB.out))⟩)
        ·skip
         refine box_step ?hg (N := 11) ?hd (cs := #[.slice none 0 0]) (t := 24) ?hr ?_; (case hd => rfl); (case hg => rfl); (case hr => first | (go_simp; done) | (go_simp; rfl))
         intro gb556 hg w22 hbox hb
         have n0_ := aM (Kd.N_below (Kd.N_elderB (by (with_reducible repeat (first | apply Kd.N_alloc | apply Kd.N_drewN | apply Kd.N_drew)); exact HO_548000.out) gb556 (Nat.le_of_eq hg.symm)) hb)
         have n1_ := aM (Kd.R_below (by (with_reducible repeat (first | apply Kd.R_alloc | apply Kd.R_drewN | apply Kd.R_drew)); exact HO550.out) hb)
         have n2_ := aM (blk_below (g := gb547) (o := .cells #[.slice Ao19 x548000_1.length co19] 24 (0, 0)) (by (with_reducible repeat (first | refine bN ?_ _ | refine bD ?_ | refine bA ?_ _)); exact BK547.out) hb)
         have n3_ := aM (IsS62.below (by repeat (first | (with_reducible first | exact HI542.out | apply IsS62.alloc | apply IsS62.drewN | apply IsS62.drew | apply IsS62.set_1 | refine IsS62.far ?_ NB542_547.out _) | exact HI542.out)) hb)
         have n4_ := aM (below_step (by repeat (first | (with_reducible first | exact HB.out | apply wA | apply wN | apply wD | refine below_set ?_ (IsS62.ge HI542.out) | refine below_set ?_ GE547.out) | exact HB.out)) hb)
         have n5_ := aM (hbox)
         have n6_ := aM ((by rw [hg]; exact (below_size (by repeat (first | (with_reducible first | exact HB.out | apply wA | apply wN | apply wD | refine below_set ?_ (IsS62.ge HI542.out) | refine below_set ?_ GE547.out) | exact HB.out))) : w.heap.size ≤ gb556))
         have n7_ := aM ((by rw [hg]; exact (below_size (by repeat (first | (with_reducible first | exact HB.out | apply wA | apply wN | apply wD | refine below_set ?_ (IsS62.ge HI542.out) | refine below_set ?_ GE547.out) | exact HB.out))) : w.heap.size ≤ gb556))
         have n8_ := aM ((by rw [hg]; exact Nat.ne_of_lt (blk_lt (g := gb547) (o := .cells #[.slice Ao19 x548000_1.length co19] 24 (0, 0)) (by (with_reducible repeat (first | refine bN ?_ _ | refine bD ?_ | refine bA ?_ _)); exact BK547.out)) : gb547 ≠ gb556))
         have n9_ := aM ((by rw [hg]; exact Nat.ne_of_gt (blk_lt (g := gb547) (o := .cells #[.slice Ao19 x548000_1.length co19] 24 (0, 0)) (by (with_reducible repeat (first | refine bN ?_ _ | refine bD ?_ | refine bA ?_ _)); exact BK547.out)) : gb556 ≠ gb547))
         have n10_ := aM ((by rw [hg]; exact Nat.ne_of_lt (IsS62.lt (show IsS62 w _ g542 t540 t551 from by repeat (first | (with_reducible first | exact HI542.out | apply IsS62.alloc | apply IsS62.drewN | apply IsS62.drew | apply IsS62.set_1 | refine IsS62.far ?_ NB542_547.out _) | exact HI542.out))) : g542 ≠ gb556))
         have n11_ := aM ((by rw [hg]; exact Nat.ne_of_gt (IsS62.lt (show IsS62 w _ g542 t540 t551 from by repeat (first | (with_reducible first | exact HI542.out | apply IsS62.alloc | apply IsS62.drewN | apply IsS62.drew | apply IsS62.set_1 | refine IsS62.far ?_ NB542_547.out _) | exact HI542.out))) : gb556 ≠ g542))
         clear HO_548000
         clear HO550
         clear BK547
         clear HI542
         clear HB
         have HO_548000 := n0_
         have HO550 := n1_
         have BK547 := n2_
         have HI542 := n3_
         have HB := n4_
         have BK556 := n5_
         have GW556 := n6_
         have GE556 := n7_
         have NB547_556 := n8_
         have NB556_547 := n9_
         have NB542_556 := n10_
         have NB556_542 := n11_
         clear n0_ n1_ n2_ n3_ n4_ n5_ n6_ n7_ n8_ n9_ n10_ n11_
         clear hb hbox hg
         obtain ⟨Ao23, co23, eo23⟩ := Kd.R_slice HO550.out
         (first | subst eo23 | (injection eo23 with f1_ f2_ f3_; have f4_ := f1_.symm; have f5_ := f3_.symm; clear f1_ f2_ f3_; subst f4_; subst f5_))
         refine hK.out _ _ ((blk_cell BK547.out 0).trans rfl) (fun hHeld => ?_)
         clear hK K
         refine norm_ (a' := ?_) ?_ ?_
         rotate_left
         ·show Act.put _ (some 11) _ = _
          simp only [Act.put, List.setIfInBounds_toArray, List.set_cons_zero, List.set_cons_succ, i64_w, i32_w]
          rfl
         refine one_ (i := 4) (N := some 42) #[true, true, true, true, true, false, false, false, true, false, false] rfl rfl (one_of HT_.out (by kernel_rfl)) (by decide) (fun K hK => ?_)
         refine goes_ Try.func14 (by kernel_rfl) rfl #[.agg #[.slice Ao19 x548000_1.length co19], .int .i64 x10_1, .slice Ao23 t548.length co23] (by rfl) rfl rfl (by (try simp only [List.map_toArray, List.map_cons, List.map_nil]); first | done | rfl | (simp only [List.length_drop, List.length_take]; rfl)) ?_
         with_reducible refine (disk_Append.calls k1 _ _ x548000_1 x10_1 _ _ t548 t552 t555 _ ?side1 ?side2 ?side3 ?side4 A17.out).mono ?_
         (case side1 => repeat (first | exact (Kd.N_reads' HO_548000.out).2.2 | (with_reducible refine Kd.C_alloc ?_ _) | (with_reducible refine Kd.C_drewN ?_ _) | (with_reducible refine Kd.C_drew ?_)))
         (case side2 => exact (Kd.N_reads' HO_548000.out).2.1)
         (case side3 => repeat (first | exact (Kd.R_reads' HO550.out).2.2 | (with_reducible refine Kd.C_alloc ?_ _) | (with_reducible refine Kd.C_drewN ?_ _) | (with_reducible refine Kd.C_drew ?_)))
         (case side4 => exact (Kd.R_reads' HO550.out).2.1)
         rintro e w24 ⟨v553, rfl, ho0, hb⟩
         refine ⟨_, rfl, ?_⟩
         have n0_ := aM (Kd.N_elder' (by (with_reducible repeat (first | apply Kd.N_alloc | apply Kd.N_drewN | apply Kd.N_drew)); exact HO_548000.out) (by first | exact Kd.N_base ho0 | exact Kd.N_base (Kd.S_N ho0)) hb)
         have n1_ := aM (Kd.R_below (by (with_reducible repeat (first | apply Kd.R_alloc | apply Kd.R_drewN | apply Kd.R_drew)); exact HO550.out) hb)
         have n2_ := aM (Kd.N_lower (Kd.N_mono (ok' := fun k_ => some k_ ≠ (.slice Ao19 x548000_1.length co19 : Value).ownBlock ∧ some k_ ≠ (.slice Ao23 t548.length co23 : Value).ownBlock ∧ k_ ≠ gb547 ∧ k_ ≠ gb556 ∧ k_ ≠ g542) (Kd.S_N (Kd.S_bound ho0)) (fun k_ hk_ => ⟨(Kd.fresh' (Kd.N_lt (by (with_reducible repeat (first | apply Kd.N_alloc | apply Kd.N_drewN | apply Kd.N_drew)); exact HO_548000.out)) k_ hk_.2.1), (Kd.fresh' (Kd.R_lt (by (with_reducible repeat (first | apply Kd.R_alloc | apply Kd.R_drewN | apply Kd.R_drew)); exact HO550.out)) k_ hk_.2.1), (Kd.freshB (g := gb547) (o := .cells #[.slice Ao19 x548000_1.length co19] 24 (0, 0)) (by (with_reducible repeat (first | refine bN ?_ _ | refine bD ?_ | refine bA ?_ _)); exact BK547.out) k_ hk_.2.1), (Kd.freshB (g := gb556) (o := .cells #[.slice none 0 0] 24 (0, 0)) (by (with_reducible repeat (first | refine bN ?_ _ | refine bD ?_ | refine bA ?_ _)); exact BK556.out) k_ hk_.2.1), (IsS62.fresh (by repeat (first | (with_reducible first | exact HI542.out | apply IsS62.alloc | apply IsS62.drewN | apply IsS62.drew | apply IsS62.set_1 | refine IsS62.far ?_ NB542_547.out _ | refine IsS62.far ?_ NB542_556.out _) | exact HI542.out)) k_ hk_.2.1)⟩)) (below_size (by repeat (first | (with_reducible first | exact HB.out | apply wA | apply wN | apply wD | refine below_set ?_ (IsS62.ge HI542.out) | refine below_set ?_ GE547.out | refine below_set ?_ GE556.out) | exact HB.out))))
         have n3_ := aM (blk_below (g := gb547) (o := .cells #[.slice Ao19 x548000_1.length co19] 24 (0, 0)) (by (with_reducible repeat (first | refine bN ?_ _ | refine bD ?_ | refine bA ?_ _)); exact BK547.out) hb)
         have n4_ := aM (IsS62.below (by repeat (first | (with_reducible first | exact HI542.out | apply IsS62.alloc | apply IsS62.drewN | apply IsS62.drew | apply IsS62.set_1 | refine IsS62.far ?_ NB542_547.out _ | refine IsS62.far ?_ NB542_556.out _) | exact HI542.out)) hb)
         have n5_ := aM (blk_below (g := gb556) (o := .cells #[.slice none 0 0] 24 (0, 0)) (by (with_reducible repeat (first | refine bN ?_ _ | refine bD ?_ | refine bA ?_ _)); exact BK556.out) hb)
         have n6_ := aM (below_step (by repeat (first | (with_reducible first | exact HB.out | apply wA | apply wN | apply wD | refine below_set ?_ (IsS62.ge HI542.out) | refine below_set ?_ GE547.out | refine below_set ?_ GE556.out) | exact HB.out)) hb)
         clear HO_548000
         clear HO550
         clear BK547
         clear HI542
         clear BK556
         clear HB
         have HO_548000 := n0_
         have HO550 := n1_
         have HO554 := n2_
         have BK547 := n3_
         have HI542 := n4_
         have BK556 := n5_
         have HB := n6_
         clear n0_ n1_ n2_ n3_ n4_ n5_ n6_
         (try clear hb)
         (try clear hb2)
         (try clear hk)
         (try clear hi)
         (try clear ho0)
         refine hK.out _ _ ((blk_cell BK547.out 0).trans rfl) (fun hHeld => ?_)
         clear hK K
         refine norm_ (a' := ?_) ?_ ?_
         rotate_left
         ·show Act.put _ (some 42) _ = _
          simp only [Act.put, List.setIfInBounds_toArray, List.set_cons_zero, List.set_cons_succ, i64_w, i32_w]
          rfl
         refine pure_ (i := 5) (N := some 37) (v := ?_) (a' := ?_) #[true, true, true, true, true, true, false, false, true, false, false] rfl rfl (any_of HT_.out (by kernel_rfl)) (fun _ _ _ h => h) (Or.inl ⟨by rfl, ?_⟩) ?_ ?_
         rotate_left
         ·intro w'
          go_simp
          with_reducible rfl
         rotate_left
         ·simp only [Act.put, List.setIfInBounds_toArray, List.set_cons_zero, List.set_cons_succ, i64_w, i32_w]
          rfl
         refine pure_ (i := 6) (N := some 43) (v := ?_) (a' := ?_) #[true, true, true, true, true, true, true, false, true, false, false] rfl rfl (any_of HT_.out (by kernel_rfl)) (fun _ _ _ h => h) (Or.inl ⟨by rfl, ?_⟩) ?_ ?_
         rotate_left
         ·intro w'
          go_simp
          with_reducible rfl
         rotate_left
         ·simp only [Act.put, List.setIfInBounds_toArray, List.set_cons_zero, List.set_cons_succ, i64_w, i32_w]
          rfl
         refine pure_ (i := 7) (N := some 44) (v := ?_) (a' := ?_) #[true, true, true, true, true, true, true, true, true, false, false] rfl rfl (any_of HT_.out (by kernel_rfl)) (fun _ _ _ h => h) (Or.inl ⟨by rfl, ?_⟩) ?_ ?_
         rotate_left
         ·intro w'
          go_simp
          with_reducible rfl
         rotate_left
         ·simp only [Act.put, List.setIfInBounds_toArray, List.set_cons_zero, List.set_cons_succ, i64_w, i32_w]
          rfl
         exact norm_ (by simp only [putAll, Act.put, List.setIfInBounds_toArray, List.set_cons_zero, List.set_cons_succ]) (hCont (.slice Ao23 t548.length co23, v553, gb556) _ ⟨hHeld, (by (with_reducible repeat (first | apply Kd.R_alloc | apply Kd.R_drewN | apply Kd.R_drew)); exact HO550.out), (by (with_reducible repeat (first | apply Kd.N_alloc | apply Kd.N_drewN | apply Kd.N_drew)); exact Kd.N_mono HO554.out (fun _ hk => ⟨hk.2.1, ⟨hk.1, ⟨hk.2.2.2.2, ⟨hk.2.2.1, hk.2.2.2.1⟩⟩⟩⟩)), (by (with_reducible repeat (first | apply Kd.N_alloc | apply Kd.N_drewN | apply Kd.N_drew)); exact Kd.N_mono HO_548000.out (fun _ hk => ⟨hk.1.1.2, ⟨hk.2, ⟨hk.1.1.1.2, ⟨hk.1.1.1.1, hk.1.2⟩⟩⟩⟩)), (by (with_reducible repeat (first | refine bN ?_ _ | refine bD ?_ | refine bA ?_ _)); exact BK547.out), (by (with_reducible repeat (first | refine bN ?_ _ | refine bD ?_ | refine bA ?_ _)); exact BK556.out), GW556.out, GE556.out, NB542_556.out, NB556_542.out, NB547_556.out, NB556_547.out, (by repeat (first | (with_reducible first | exact HI542.out | apply IsS62.alloc | apply IsS62.drewN | apply IsS62.drew | apply IsS62.set_1 | refine IsS62.far ?_ NB542_547.out _ | refine IsS62.far ?_ NB542_556.out _) | exact HI542.out)), (by repeat (first | (with_reducible first | exact HB.out | apply wA | apply wN | apply wD | refine below_set ?_ (IsS62.ge HI542.out) | refine below_set ?_ GE547.out | refine below_set ?_ GE556.out) | exact HB.out))⟩)
       ·skip
        refine box_step ?hg (N := 11) ?hd (cs := #[.slice none 0 0]) (t := 24) ?hr ?_; (case hd => rfl); (case hg => rfl); (case hr => first | (go_simp; done) | (go_simp; rfl))
        intro gb556 hg w21 hbox hb
        have n0_ := aM (Kd.N_below (Kd.N_elderB (by (with_reducible repeat (first | apply Kd.N_alloc | apply Kd.N_drewN | apply Kd.N_drew)); exact HO_548000.out) gb556 (Nat.le_of_eq hg.symm)) hb)
        have n1_ := aM (blk_below (g := gb547) (o := .cells #[.slice Ao19 x548000_1.length co19] 24 (0, 0)) (by (with_reducible repeat (first | refine bN ?_ _ | refine bD ?_ | refine bA ?_ _)); exact BK547.out) hb)
        have n2_ := aM (IsS62.below (by repeat (first | (with_reducible first | exact HI542.out | apply IsS62.alloc | apply IsS62.drewN | apply IsS62.drew | apply IsS62.set_1 | refine IsS62.far ?_ NB542_547.out _) | exact HI542.out)) hb)
        have n3_ := aM (below_step (by repeat (first | (with_reducible first | exact HB.out | apply wA | apply wN | apply wD | refine below_set ?_ (IsS62.ge HI542.out) | refine below_set ?_ GE547.out) | exact HB.out)) hb)
        have n4_ := aM (hbox)
        have n5_ := aM ((by rw [hg]; exact (below_size (by repeat (first | (with_reducible first | exact HB.out | apply wA | apply wN | apply wD | refine below_set ?_ (IsS62.ge HI542.out) | refine below_set ?_ GE547.out) | exact HB.out))) : w.heap.size ≤ gb556))
        have n6_ := aM ((by rw [hg]; exact (below_size (by repeat (first | (with_reducible first | exact HB.out | apply wA | apply wN | apply wD | refine below_set ?_ (IsS62.ge HI542.out) | refine below_set ?_ GE547.out) | exact HB.out))) : w.heap.size ≤ gb556))
        have n7_ := aM ((by rw [hg]; exact Nat.ne_of_lt (blk_lt (g := gb547) (o := .cells #[.slice Ao19 x548000_1.length co19] 24 (0, 0)) (by (with_reducible repeat (first | refine bN ?_ _ | refine bD ?_ | refine bA ?_ _)); exact BK547.out)) : gb547 ≠ gb556))
        have n8_ := aM ((by rw [hg]; exact Nat.ne_of_gt (blk_lt (g := gb547) (o := .cells #[.slice Ao19 x548000_1.length co19] 24 (0, 0)) (by (with_reducible repeat (first | refine bN ?_ _ | refine bD ?_ | refine bA ?_ _)); exact BK547.out)) : gb556 ≠ gb547))
        have n9_ := aM ((by rw [hg]; exact Nat.ne_of_lt (IsS62.lt (show IsS62 w _ g542 t540 x543001_1 from by repeat (first | (with_reducible first | exact HI542.out | apply IsS62.alloc | apply IsS62.drewN | apply IsS62.drew | apply IsS62.set_1 | refine IsS62.far ?_ NB542_547.out _) | exact HI542.out))) : g542 ≠ gb556))
        have n10_ := aM ((by rw [hg]; exact Nat.ne_of_gt (IsS62.lt (show IsS62 w _ g542 t540 x543001_1 from by repeat (first | (with_reducible first | exact HI542.out | apply IsS62.alloc | apply IsS62.drewN | apply IsS62.drew | apply IsS62.set_1 | refine IsS62.far ?_ NB542_547.out _) | exact HI542.out))) : gb556 ≠ g542))
        clear HO_548000
        clear BK547
        clear HI542
        clear HB
        have HO_548000 := n0_
        have BK547 := n1_
        have HI542 := n2_
        have HB := n3_
        have BK556 := n4_
        have GW556 := n5_
        have GE556 := n6_
        have NB547_556 := n7_
        have NB556_547 := n8_
        have NB542_556 := n9_
        have NB556_542 := n10_
        clear n0_ n1_ n2_ n3_ n4_ n5_ n6_ n7_ n8_ n9_ n10_
        clear hb hbox hg
        refine hK.out _ _ ((blk_cell BK547.out 0).trans rfl) (fun hHeld => ?_)
        clear hK K
        refine norm_ (a' := ?_) ?_ ?_
        rotate_left
        ·show Act.put _ (some 11) _ = _
         simp only [Act.put, List.setIfInBounds_toArray, List.set_cons_zero, List.set_cons_succ, i64_w, i32_w]
         rfl
        refine one_ (i := 3) (N := some 41) #[true, true, true, true, false, false, false, false, true, false, false] rfl rfl (one_of HT_.out (by kernel_rfl)) (by decide) (fun K hK => ?_)
        refine goes_ Try.func23 (by kernel_rfl) rfl #[.pointer (some ⟨g542, 0, none⟩), .int .i64 20] (by rfl) rfl rfl (by (try simp only [List.map_toArray, List.map_cons, List.map_nil]); first | done | rfl | (simp only [List.length_drop, List.length_take]; rfl)) ?_
        with_reducible refine (rollbacknetmake_Codes_Bytes.calls k1 g542 t540 x543001_1 20 t548 t551 w _ ?side1 ?side2 A16.out).mono ?_
        (case side1 => repeat (first | (with_reducible first | exact HI542.out | apply IsS62.alloc | apply IsS62.drewN | apply IsS62.drew | apply IsS62.set_1 | refine IsS62.far ?_ NB542_547.out _ | refine IsS62.far ?_ NB542_556.out _) | exact HI542.out))
        (case side2 => repeat (first | (with_reducible first | exact HB.out | apply wA | apply wN | apply wD | refine below_set ?_ (IsS62.ge HI542.out) | refine below_set ?_ GE547.out | refine below_set ?_ GE556.out) | exact HB.out))
        rintro e w22 ⟨v549, rfl, ho0, hi, hb, hk⟩
        refine ⟨_, rfl, ?_⟩
        have n0_ := aM (Kd.N_mono (Kd.N_told (Kd.N_oldK (Kd.N_mono (ok := fun k_ => ((k_ ≠ gb547 ∧ k_ ≠ g542) ∧ k_ ≠ gb556)) (by (with_reducible repeat (first | apply Kd.N_alloc | apply Kd.N_drewN | apply Kd.N_drew)); exact HO_548000.out) (fun k_ hk_ => (⟨hk_, hk_.1.2⟩ : _ ∧ k_ ≠ g542))) hk) (Kd.R_base ho0)) (fun _ h_ => h_.1))
        have n1_ := aM (KeepBut.blk hk (g' := gb547) (o := .cells #[.slice Ao19 x548000_1.length co19] 24 (0, 0)) (by (with_reducible repeat (first | refine bN ?_ _ | refine bD ?_ | refine bA ?_ _)); exact BK547.out) NB547_542.out (by simp))
        have n2_ := aM (KeepBut.blk hk (g' := gb556) (o := .cells #[.slice none 0 0] 24 (0, 0)) (by (with_reducible repeat (first | refine bN ?_ _ | refine bD ?_ | refine bA ?_ _)); exact BK556.out) NB556_542.out (by simp))
        have n3_ := aM (Kd.R_lower ho0 (below_size (by repeat (first | (with_reducible first | exact HB.out | apply wA | apply wN | apply wD | refine below_set ?_ (IsS62.ge HI542.out) | refine below_set ?_ GE547.out | refine below_set ?_ GE556.out) | exact HB.out))))
        have n4_ := aM (hb)
        have n5_ := aM (hi)
        clear HO_548000
        clear BK547
        clear BK556
        clear HB
        clear HI542
        have HO_548000 := n0_
        have BK547 := n1_
        have BK556 := n2_
        have HO550 := n3_
        have HB := n4_
        have HI542 := n5_
        clear n0_ n1_ n2_ n3_ n4_ n5_
        (try clear hb)
        (try clear hb2)
        (try clear hk)
        (try clear hi)
        (try clear ho0)
        obtain ⟨Ao23, co23, eo23⟩ := Kd.R_slice HO550.out
        (first | subst eo23 | (injection eo23 with f1_ f2_ f3_; have f4_ := f1_.symm; have f5_ := f3_.symm; clear f1_ f2_ f3_; subst f4_; subst f5_))
        refine hK.out _ _ ((blk_cell BK547.out 0).trans rfl) (fun hHeld => ?_)
        clear hK K
        refine norm_ (a' := ?_) ?_ ?_
        rotate_left
        ·show Act.put _ (some 41) _ = _
         simp only [Act.put, List.setIfInBounds_toArray, List.set_cons_zero, List.set_cons_succ, i64_w, i32_w]
         rfl
        refine one_ (i := 4) (N := some 42) #[true, true, true, true, true, false, false, false, true, false, false] rfl rfl (one_of HT_.out (by kernel_rfl)) (by decide) (fun K hK => ?_)
        refine goes_ Try.func14 (by kernel_rfl) rfl #[.agg #[.slice Ao19 x548000_1.length co19], .int .i64 x10_1, .slice Ao23 t548.length co23] (by rfl) rfl rfl (by (try simp only [List.map_toArray, List.map_cons, List.map_nil]); first | done | rfl | (simp only [List.length_drop, List.length_take]; rfl)) ?_
        with_reducible refine (disk_Append.calls k1 _ _ x548000_1 x10_1 _ _ t548 t552 t555 _ ?side1 ?side2 ?side3 ?side4 A17.out).mono ?_
        (case side1 => repeat (first | exact (Kd.N_reads' HO_548000.out).2.2 | (with_reducible refine Kd.C_alloc ?_ _) | (with_reducible refine Kd.C_drewN ?_ _) | (with_reducible refine Kd.C_drew ?_)))
        (case side2 => exact (Kd.N_reads' HO_548000.out).2.1)
        (case side3 => repeat (first | exact (Kd.R_reads' HO550.out).2.2 | (with_reducible refine Kd.C_alloc ?_ _) | (with_reducible refine Kd.C_drewN ?_ _) | (with_reducible refine Kd.C_drew ?_)))
        (case side4 => exact (Kd.R_reads' HO550.out).2.1)
        rintro e w24 ⟨v553, rfl, ho0, hb⟩
        refine ⟨_, rfl, ?_⟩
        have n0_ := aM (Kd.N_elder' (by (with_reducible repeat (first | apply Kd.N_alloc | apply Kd.N_drewN | apply Kd.N_drew)); exact HO_548000.out) (by first | exact Kd.N_base ho0 | exact Kd.N_base (Kd.S_N ho0)) hb)
        have n1_ := aM (Kd.R_below (by (with_reducible repeat (first | apply Kd.R_alloc | apply Kd.R_drewN | apply Kd.R_drew)); exact HO550.out) hb)
        have n2_ := aM (Kd.N_lower (Kd.N_mono (ok' := fun k_ => some k_ ≠ (.slice Ao19 x548000_1.length co19 : Value).ownBlock ∧ some k_ ≠ (.slice Ao23 t548.length co23 : Value).ownBlock ∧ k_ ≠ gb547 ∧ k_ ≠ gb556 ∧ k_ ≠ g542) (Kd.S_N (Kd.S_bound ho0)) (fun k_ hk_ => ⟨(Kd.fresh' (Kd.N_lt (by (with_reducible repeat (first | apply Kd.N_alloc | apply Kd.N_drewN | apply Kd.N_drew)); exact HO_548000.out)) k_ hk_.2.1), (Kd.fresh' (Kd.R_lt (by (with_reducible repeat (first | apply Kd.R_alloc | apply Kd.R_drewN | apply Kd.R_drew)); exact HO550.out)) k_ hk_.2.1), (Kd.freshB (g := gb547) (o := .cells #[.slice Ao19 x548000_1.length co19] 24 (0, 0)) (by (with_reducible repeat (first | refine bN ?_ _ | refine bD ?_ | refine bA ?_ _)); exact BK547.out) k_ hk_.2.1), (Kd.freshB (g := gb556) (o := .cells #[.slice none 0 0] 24 (0, 0)) (by (with_reducible repeat (first | refine bN ?_ _ | refine bD ?_ | refine bA ?_ _)); exact BK556.out) k_ hk_.2.1), (IsS62.fresh (by repeat (first | (with_reducible first | exact HI542.out | apply IsS62.alloc | apply IsS62.drewN | apply IsS62.drew | apply IsS62.set_1 | refine IsS62.far ?_ NB542_547.out _ | refine IsS62.far ?_ NB542_556.out _) | exact HI542.out)) k_ hk_.2.1)⟩)) (below_size (by repeat (first | (with_reducible first | exact HB.out | apply wA | apply wN | apply wD | refine below_set ?_ (IsS62.ge HI542.out) | refine below_set ?_ GE547.out | refine below_set ?_ GE556.out) | exact HB.out))))
        have n3_ := aM (blk_below (g := gb547) (o := .cells #[.slice Ao19 x548000_1.length co19] 24 (0, 0)) (by (with_reducible repeat (first | refine bN ?_ _ | refine bD ?_ | refine bA ?_ _)); exact BK547.out) hb)
        have n4_ := aM (IsS62.below (by repeat (first | (with_reducible first | exact HI542.out | apply IsS62.alloc | apply IsS62.drewN | apply IsS62.drew | apply IsS62.set_1 | refine IsS62.far ?_ NB542_547.out _ | refine IsS62.far ?_ NB542_556.out _) | exact HI542.out)) hb)
        have n5_ := aM (blk_below (g := gb556) (o := .cells #[.slice none 0 0] 24 (0, 0)) (by (with_reducible repeat (first | refine bN ?_ _ | refine bD ?_ | refine bA ?_ _)); exact BK556.out) hb)
        have n6_ := aM (below_step (by repeat (first | (with_reducible first | exact HB.out | apply wA | apply wN | apply wD | refine below_set ?_ (IsS62.ge HI542.out) | refine below_set ?_ GE547.out | refine below_set ?_ GE556.out) | exact HB.out)) hb)
        clear HO_548000
        clear HO550
        clear BK547
        clear HI542
        clear BK556
        clear HB
        have HO_548000 := n0_
        have HO550 := n1_
        have HO554 := n2_
        have BK547 := n3_
        have HI542 := n4_
        have BK556 := n5_
        have HB := n6_
        clear n0_ n1_ n2_ n3_ n4_ n5_ n6_
        (try clear hb)
        (try clear hb2)
        (try clear hk)
        (try clear hi)
        (try clear ho0)
        refine hK.out _ _ ((blk_cell BK547.out 0).trans rfl) (fun hHeld => ?_)
        clear hK K
        refine norm_ (a' := ?_) ?_ ?_
        rotate_left
        ·show Act.put _ (some 42) _ = _
         simp only [Act.put, List.setIfInBounds_toArray, List.set_cons_zero, List.set_cons_succ, i64_w, i32_w]
         rfl
        refine pure_ (i := 5) (N := some 37) (v := ?_) (a' := ?_) #[true, true, true, true, true, true, false, false, true, false, false] rfl rfl (any_of HT_.out (by kernel_rfl)) (fun _ _ _ h => h) (Or.inl ⟨by rfl, ?_⟩) ?_ ?_
        rotate_left
        ·intro w'
         go_simp
         with_reducible rfl
        rotate_left
        ·simp only [Act.put, List.setIfInBounds_toArray, List.set_cons_zero, List.set_cons_succ, i64_w, i32_w]
         rfl
        refine pure_ (i := 6) (N := some 43) (v := ?_) (a' := ?_) #[true, true, true, true, true, true, true, false, true, false, false] rfl rfl (any_of HT_.out (by kernel_rfl)) (fun _ _ _ h => h) (Or.inl ⟨by rfl, ?_⟩) ?_ ?_
        rotate_left
        ·intro w'
         go_simp
         with_reducible rfl
        rotate_left
        ·simp only [Act.put, List.setIfInBounds_toArray, List.set_cons_zero, List.set_cons_succ, i64_w, i32_w]
         rfl
        refine pure_ (i := 7) (N := some 44) (v := ?_) (a' := ?_) #[true, true, true, true, true, true, true, true, true, false, false] rfl rfl (any_of HT_.out (by kernel_rfl)) (fun _ _ _ h => h) (Or.inl ⟨by rfl, ?_⟩) ?_ ?_
        rotate_left
        ·intro w'
         go_simp
         with_reducible rfl
        rotate_left
        ·simp only [Act.put, List.setIfInBounds_toArray, List.set_cons_zero, List.set_cons_succ, i64_w, i32_w]
         rfl
        exact norm_ (by simp only [putAll, Act.put, List.setIfInBounds_toArray, List.set_cons_zero, List.set_cons_succ]) (hCont (.slice Ao23 t548.length co23, v553, gb556) _ ⟨hHeld, (by (with_reducible repeat (first | apply Kd.R_alloc | apply Kd.R_drewN | apply Kd.R_drew)); exact HO550.out), (by (with_reducible repeat (first | apply Kd.N_alloc | apply Kd.N_drewN | apply Kd.N_drew)); exact Kd.N_mono HO554.out (fun _ hk => ⟨hk.2.1, ⟨hk.1, ⟨hk.2.2.2.2, ⟨hk.2.2.1, hk.2.2.2.1⟩⟩⟩⟩)), (by (with_reducible repeat (first | apply Kd.N_alloc | apply Kd.N_drewN | apply Kd.N_drew)); exact Kd.N_mono HO_548000.out (fun _ hk => ⟨hk.1.2, ⟨hk.2, ⟨hk.1.1.1.2, ⟨hk.1.1.1.1, hk.1.1.2⟩⟩⟩⟩)), (by (with_reducible repeat (first | refine bN ?_ _ | refine bD ?_ | refine bA ?_ _)); exact BK547.out), (by (with_reducible repeat (first | refine bN ?_ _ | refine bD ?_ | refine bA ?_ _)); exact BK556.out), GW556.out, GE556.out, NB542_556.out, NB556_542.out, NB547_556.out, NB556_547.out, (by repeat (first | (with_reducible first | exact HI542.out | apply IsS62.alloc | apply IsS62.drewN | apply IsS62.drew | apply IsS62.set_1 | refine IsS62.far ?_ NB542_547.out _ | refine IsS62.far ?_ NB542_556.out _) | exact HI542.out)), (by repeat (first | (with_reducible first | exact HB.out | apply wA | apply wN | apply wD | refine below_set ?_ (IsS62.ge HI542.out) | refine below_set ?_ GE547.out | refine below_set ?_ GE556.out) | exact HB.out))⟩)
      rintro ⟨v549, v553, gb556⟩ w25 ⟨hS_, h0_, h1_, h2_, h3_, h4_, h5_, h6_, h7_, h8_, h9_, h10_, h11_, h12_⟩
      have n0_ : Aside0 (Kd.R (Kd.int .u8) 5 w25 w.heap.size (fun _ => True) v549 t548) := ⟨h0_⟩
      have n1_ : Aside0 (Kd.N k48 48 w25 w.heap.size (fun k_ => some k_ ≠ (v549 : Value).ownBlock ∧ some k_ ≠ (.slice Ao19 x548000_1.length co19 : Value).ownBlock ∧ k_ ≠ g542 ∧ k_ ≠ gb547 ∧ k_ ≠ gb556) v553 t552) := ⟨h1_⟩
      have n2_ : Aside0 (Kd.N k48 48 w25 w.heap.size (fun k_ => some k_ ≠ (v549 : Value).ownBlock ∧ some k_ ≠ (v553 : Value).ownBlock ∧ k_ ≠ g542 ∧ k_ ≠ gb547 ∧ k_ ≠ gb556) (.slice Ao19 x548000_1.length co19) x548000_1) := ⟨h2_⟩
      have n3_ : Aside0 (w25.heap[gb547]? = some (.cells #[.slice Ao19 x548000_1.length co19] 24 (0, 0))) := ⟨h3_⟩
      have n4_ : Aside0 (w25.heap[gb556]? = some (.cells #[.slice none 0 0] 24 (0, 0))) := ⟨h4_⟩
      have n5_ : Aside0 (w.heap.size ≤ gb556) := ⟨h5_⟩
      have n6_ : Aside0 (w.heap.size ≤ gb556) := ⟨h6_⟩
      have n7_ : Aside0 (g542 ≠ gb556) := ⟨h7_⟩
      have n8_ : Aside0 (gb556 ≠ g542) := ⟨h8_⟩
      have n9_ : Aside0 (gb547 ≠ gb556) := ⟨h9_⟩
      have n10_ : Aside0 (gb556 ≠ gb547) := ⟨h10_⟩
      have n11_ : Aside0 (IsS62 w w25 g542 t540 t551) := ⟨h11_⟩
      have n12_ : Aside0 (Below w.heap.size w w25) := ⟨h12_⟩
      clear HO_548000
      clear BK547
      clear HI542
      clear HB
      clear h0_ h1_ h2_ h3_ h4_ h5_ h6_ h7_ h8_ h9_ h10_ h11_ h12_
      have HO550 := n0_
      have HO554 := n1_
      have HO_548000 := n2_
      have BK547 := n3_
      have BK556 := n4_
      have GW556 := n5_
      have GE556 := n6_
      have NB542_556 := n7_
      have NB556_542 := n8_
      have NB547_556 := n9_
      have NB556_547 := n10_
      have HI542 := n11_
      have HB := n12_
      clear n0_ n1_ n2_ n3_ n4_ n5_ n6_ n7_ n8_ n9_ n10_ n11_ n12_
      have hHeld : w25.cell? ⟨gb547, 0, none⟩ = some (.slice Ao19 x548000_1.length co19) := hS_
      obtain ⟨Ao26, co26, eo26⟩ := Kd.N_slice HO554.out
      (first | subst eo26 | (injection eo26 with f1_ f2_ f3_; have f4_ := f1_.symm; have f5_ := f3_.symm; clear f1_ f2_ f3_; subst f4_; subst f5_))
      refine norm_ (a' := ?_) ?_ ?_
      rotate_left
      ·simp only [putAll, Act.put, List.setIfInBounds_toArray, List.set_cons_zero, List.set_cons_succ]
       rfl
      refine one_ (i := 9) (N := none) #[true, true, true, true, true, true, true, true, true, true, false] rfl rfl (one_of HT_.out (by kernel_rfl)) (by decide) (fun K hK => ?_)
      have hs27 : w25.cell? ⟨gb556, 0, none⟩ = some (.slice none 0 0) := (blk_cell BK556.out 0).trans rfl
      have hfs27 := blk_frozen BK556.out 0
      have hns27_0 := NB547_556.out
      have hms27_0 := NB556_547.out
      refine skip_ (w1 := ?_) (by rfl) rfl ?_ ?_
      rotate_left
      ·go_simp
       rfl
      refine hK.out _ _ (((cell_far (p := ⟨gb556, _, none⟩) NB547_556.out _).trans (hHeld))) (fun hHeld => ?_)
      clear hK K
      refine pure_ (i := 10) (N := some 12) (v := ?_) (a' := ?_) #[true, true, true, true, true, true, true, true, true, true, true] rfl rfl (any_of HT_.out (by kernel_rfl)) (fun _ _ _ h => h) (Or.inl ⟨by rfl, ?_⟩) ?_ ?_
      rotate_left
      ·intro w'
       go_simp
       with_reducible rfl
      rotate_left
      ·simp only [Act.put, List.setIfInBounds_toArray, List.set_cons_zero, List.set_cons_succ, i64_w, i32_w]
       rfl
      refine done_ (done_of HT_.out (by kernel_rfl)) ?_
      have hnb28 := NB556_547.out
      have hnc28 := NB547_556.out
      have hnb29 := NB556_542.out
      have hnc29 := NB542_556.out
      have hcz30_0 : w25.cell? ⟨gb556, 0, none⟩ = some (.slice none 0 0) := (blk_cell BK556.out 0).trans rfl
      have hfz30_0 := blk_frozen BK556.out 0
      have hnb31 := NB547_542.out
      have hnc31 := NB542_547.out
      have hcz32_0 : w25.cell? ⟨gb547, 0, none⟩ = some (.slice Ao19 x548000_1.length co19) := (blk_cell BK547.out 0).trans rfl
      have hfz32_0 := blk_frozen BK547.out 0
      try go_wp2
      go_roundg k1
      case measure => have := HK1.out; omega
      case rel => exact ⟨(wrap64 (x10_1 + 1)), (t551), (t552), (.slice Ao26 t552.length co26), (by first | rfl | (simp; done) | (simp [*]; done)), H', ⟨by have := HK1.out; omega⟩, ⟨by (with_reducible repeat (first | apply Kd.N_alloc | apply Kd.N_drewN | apply Kd.N_drew)); exact Kd.N_mono (Kd.N_far (p := ⟨gb547, 0, none⟩) (Kd.N_far (p := ⟨gb556, 0, none⟩) (Kd.N_mono (Kd.N_mono HO554.out (fun k_ hk => (⟨hk, hk.2.2.2.2⟩ : _ ∧ k_ ≠ gb556))) (fun k_ hk => (⟨hk, hk.1.2.2.2.1⟩ : _ ∧ k_ ≠ gb547))) (fun _ hk => hk.1.2) (.slice Ao26 t552.length co26)) (fun _ hk => hk.2) (.slice Ao26 t552.length co26)) (fun _ hk => ⟨hk.1.1.2.2.2.1, hk.1.1.2.2.1⟩)⟩, ⟨by (with_reducible repeat (first | refine bN ?_ _ | refine bD ?_ | refine bA ?_ _)); refine blk_put (cs := #[.slice Ao19 x548000_1.length co19]) ?_ 0 _ rfl; (with_reducible repeat (first | refine bN ?_ _ | refine bD ?_ | refine bA ?_ _)); refine blk_far ?_ NB547_556.out _; (with_reducible repeat (first | refine bN ?_ _ | refine bD ?_ | refine bA ?_ _)); exact BK547.out⟩, ⟨by repeat (first | (with_reducible first | exact HI542.out | apply IsS62.alloc | apply IsS62.drewN | apply IsS62.drew | apply IsS62.set_1 | refine IsS62.far ?_ NB542_547.out _ | refine IsS62.far ?_ NB542_556.out _) | exact HI542.out)⟩, ⟨by repeat (first | (with_reducible first | exact HB.out | apply wA | apply wN | apply wD | refine below_set ?_ (IsS62.ge HI542.out) | refine below_set ?_ GE547.out | refine below_set ?_ GE556.out) | exact HB.out)⟩⟩
     ·rw [if_neg c18] at H
      have c18b0 : (t555 == 0) = false := beq_eq_false_iff_ne.mpr c18
      have c18b1 : (t555 != 0) = true := bne_iff_ne.mpr c18
      obtain rfl := Option.some.inj H
      obtain ⟨Ao33, co33, eo33⟩ := Kd.N_slice HO_548000.out
      subst eo33
      try go_wp2
      have n0_ := aM (Kd.N_drew HO_548000.out)
      have n1_ := aM (bD BK547.out)
      have n2_ := aM (IsS62.drew HI542.out)
      have n3_ := aM (wD HB.out)
      clear HO_548000
      clear BK547
      clear HI542
      clear HB
      have HO_548000 := n0_
      have BK547 := n1_
      have HI542 := n2_
      have HB := n3_
      clear n0_ n1_ n2_ n3_
      refine start_ (n := 11) (S := fun w' => w'.cell? ⟨gb547, 0, none⟩ = some (.slice Ao33 x548000_1.length co33)) (ds := []) #[false, false, false, false, false, false, false, false, false, false, false] (by kernel_rfl) rfl rfl ((blk_cell BK547.out 0).trans rfl) (fun hHeld => ?_); refine with_tabW rollbacknetlaw10_DiskApart.tab8 rollbacknetlaw10_DiskApart.bits8 (fun HT_ HW_ => ?_)
      generalize wr.drew = w34 at HO_548000 BK547 HI542 HB hHeld ⊢
      refine pure_ (i := 1) (N := some 39) (v := ?_) (a' := ?_) #[false, true, false, false, false, false, false, false, false, false, false] rfl rfl (any_of HT_.out (by kernel_rfl)) (fun _ _ _ h => h) (Or.inl ⟨by rfl, ?_⟩) ?_ ?_
      rotate_left
      ·intro w'
       go_simp
       with_reducible rfl
      rotate_left
      ·simp only [Act.put, List.setIfInBounds_toArray, List.set_cons_zero, List.set_cons_succ, i64_w, i32_w]
       rfl
      refine pure_ (i := 2) (N := some 40) (v := ?_) (a' := ?_) #[false, true, true, false, false, false, false, false, false, false, false] rfl rfl (any_of HT_.out (by kernel_rfl)) (fun _ _ _ h => h) (Or.inl ⟨by rfl, ?_⟩) ?_ ?_
      rotate_left
      ·intro w'
       go_simp
       with_reducible rfl
      rotate_left
      ·simp only [Act.put, List.setIfInBounds_toArray, List.set_cons_zero, List.set_cons_succ, i64_w, i32_w]
       rfl
      refine take_ (i := 0) (N := some 38) (v := ?_) (a' := ?_) #[true, true, true, false, false, false, false, false, false, false, false] rfl rfl (take_ofW HT_.out HW_.out (by kernel_rfl)) (fun _ _ _ h => h) (Or.inl ⟨by rfl, ?_⟩) hHeld ?_ ?_
      rotate_left
      ·intro w' s0
       go_simp
       with_reducible rfl
      rotate_left
      ·simp only [Act.put, List.setIfInBounds_toArray, List.set_cons_zero, List.set_cons_succ, i64_w, i32_w]
       rfl
      refine join_ (σ := Value × Value × Nat) 2 #[true, true, true, true, true, true, true, true, true, false, false] (fun s_ => [(41, s_.1), (42, .tuple #[.agg #[s_.2.1], .int .i64 t555]), (11, .pointer (some ⟨s_.2.2, 0, none⟩)), (37, .tuple #[.agg #[s_.2.1], .int .i64 t555]), (43, .agg #[s_.2.1]), (44, .int .i64 t555)]) (fun s_ w' => (w'.cell? ⟨gb547, 0, none⟩ = some (.slice Ao33 x548000_1.length co33)) ∧ (Kd.R (Kd.int .u8) 5 w' w.heap.size (fun _ => True) s_.1 t548) ∧ (Kd.N k48 48 w' w.heap.size (fun k_ => some k_ ≠ (s_.1 : Value).ownBlock ∧ some k_ ≠ (.slice Ao33 x548000_1.length co33 : Value).ownBlock ∧ k_ ≠ g542 ∧ k_ ≠ gb547 ∧ k_ ≠ s_.2.2) s_.2.1 t552) ∧ (Kd.N k48 48 w' w.heap.size (fun k_ => some k_ ≠ (s_.1 : Value).ownBlock ∧ some k_ ≠ (s_.2.1 : Value).ownBlock ∧ k_ ≠ g542 ∧ k_ ≠ gb547 ∧ k_ ≠ s_.2.2) (.slice Ao33 x548000_1.length co33) x548000_1) ∧ (w'.heap[gb547]? = some (.cells #[.slice Ao33 x548000_1.length co33] 24 (0, 0))) ∧ (w'.heap[s_.2.2]? = some (.cells #[.slice none 0 0] 24 (0, 0))) ∧ (w.heap.size ≤ s_.2.2) ∧ (w.heap.size ≤ s_.2.2) ∧ (g542 ≠ s_.2.2) ∧ (s_.2.2 ≠ g542) ∧ (gb547 ≠ s_.2.2) ∧ (s_.2.2 ≠ gb547) ∧ (IsS62 w w' g542 t540 t551) ∧ (Below w.heap.size w w')) ?_ ?_
      rotate_left
      ·intro hCont
       refine two_ (i := 3) (j := 8) (Ni := some 41) (Nj := some 11) #[true, true, true, true, false, false, false, false, false, false, false] #[true, true, true, false, false, false, false, false, true, false, false] rfl rfl rfl rfl (two_of HT_.out (by kernel_rfl)) (by decide) (by decide) (fun K hK => ?_) (fun K hK => ?_)
       ·skip
        refine goes_ Try.func23 (by kernel_rfl) rfl #[.pointer (some ⟨g542, 0, none⟩), .int .i64 20] (by rfl) rfl rfl (by (try simp only [List.map_toArray, List.map_cons, List.map_nil]); first | done | rfl | (simp only [List.length_drop, List.length_take]; rfl)) ?_
        with_reducible refine (rollbacknetmake_Codes_Bytes.calls k1 g542 t540 x543001_1 20 t548 t551 w _ ?side1 ?side2 A16.out).mono ?_
        (case side1 => repeat (first | (with_reducible first | exact HI542.out | apply IsS62.alloc | apply IsS62.drewN | apply IsS62.drew | apply IsS62.set_1 | refine IsS62.far ?_ NB542_547.out _) | exact HI542.out))
        (case side2 => repeat (first | (with_reducible first | exact HB.out | apply wA | apply wN | apply wD | refine below_set ?_ (IsS62.ge HI542.out) | refine below_set ?_ GE547.out) | exact HB.out))
        rintro e w35 ⟨v549, rfl, ho0, hi, hb, hk⟩
        refine ⟨_, rfl, ?_⟩
        have n0_ := aM (Kd.N_mono (Kd.N_told (Kd.N_oldK (Kd.N_mono (ok := fun k_ => (k_ ≠ gb547 ∧ k_ ≠ g542)) (by (with_reducible repeat (first | apply Kd.N_alloc | apply Kd.N_drewN | apply Kd.N_drew)); exact HO_548000.out) (fun k_ hk_ => (⟨hk_, hk_.2⟩ : _ ∧ k_ ≠ g542))) hk) (Kd.R_base ho0)) (fun _ h_ => h_.1))
        have n1_ := aM (KeepBut.blk hk (g' := gb547) (o := .cells #[.slice Ao33 x548000_1.length co33] 24 (0, 0)) (by (with_reducible repeat (first | refine bN ?_ _ | refine bD ?_ | refine bA ?_ _)); exact BK547.out) NB547_542.out (by simp))
        have n2_ := aM (Kd.R_lower ho0 (below_size (by repeat (first | (with_reducible first | exact HB.out | apply wA | apply wN | apply wD | refine below_set ?_ (IsS62.ge HI542.out) | refine below_set ?_ GE547.out) | exact HB.out))))
        have n3_ := aM (hb)
        have n4_ := aM (hi)
        clear HO_548000
        clear BK547
        clear HB
        clear HI542
        have HO_548000 := n0_
        have BK547 := n1_
        have HO550 := n2_
        have HB := n3_
        have HI542 := n4_
        clear n0_ n1_ n2_ n3_ n4_
        (try clear hb)
        (try clear hb2)
        (try clear hk)
        (try clear hi)
        (try clear ho0)
        obtain ⟨Ao36, co36, eo36⟩ := Kd.R_slice HO550.out
        (first | subst eo36 | (injection eo36 with f1_ f2_ f3_; have f4_ := f1_.symm; have f5_ := f3_.symm; clear f1_ f2_ f3_; subst f4_; subst f5_))
        refine hK.out _ _ ((blk_cell BK547.out 0).trans rfl) (fun hHeld => ?_)
        clear hK K
        refine norm_ (a' := ?_) ?_ ?_
        rotate_left
        ·show Act.put _ (some 41) _ = _
         simp only [Act.put, List.setIfInBounds_toArray, List.set_cons_zero, List.set_cons_succ, i64_w, i32_w]
         rfl
        refine two_ (i := 4) (j := 8) (Ni := some 42) (Nj := some 11) #[true, true, true, true, true, false, false, false, false, false, false] #[true, true, true, true, false, false, false, false, true, false, false] rfl rfl rfl rfl (two_of HT_.out (by kernel_rfl)) (by decide) (by decide) (fun K hK => ?_) (fun K hK => ?_)
        ·skip
         refine goes_ Try.func14 (by kernel_rfl) rfl #[.agg #[.slice Ao33 x548000_1.length co33], .int .i64 x10_1, .slice Ao36 t548.length co36] (by rfl) rfl rfl (by (try simp only [List.map_toArray, List.map_cons, List.map_nil]); first | done | rfl | (simp only [List.length_drop, List.length_take]; rfl)) ?_
         with_reducible refine (disk_Append.calls k1 _ _ x548000_1 x10_1 _ _ t548 t552 t555 _ ?side1 ?side2 ?side3 ?side4 A17.out).mono ?_
         (case side1 => repeat (first | exact (Kd.N_reads' HO_548000.out).2.2 | (with_reducible refine Kd.C_alloc ?_ _) | (with_reducible refine Kd.C_drewN ?_ _) | (with_reducible refine Kd.C_drew ?_)))
         (case side2 => exact (Kd.N_reads' HO_548000.out).2.1)
         (case side3 => repeat (first | exact (Kd.R_reads' HO550.out).2.2 | (with_reducible refine Kd.C_alloc ?_ _) | (with_reducible refine Kd.C_drewN ?_ _) | (with_reducible refine Kd.C_drew ?_)))
         (case side4 => exact (Kd.R_reads' HO550.out).2.1)
         rintro e w37 ⟨v553, rfl, ho0, hb⟩
         refine ⟨_, rfl, ?_⟩
         have n0_ := aM (Kd.N_elder' (by (with_reducible repeat (first | apply Kd.N_alloc | apply Kd.N_drewN | apply Kd.N_drew)); exact HO_548000.out) (by first | exact Kd.N_base ho0 | exact Kd.N_base (Kd.S_N ho0)) hb)
         have n1_ := aM (Kd.R_below (by (with_reducible repeat (first | apply Kd.R_alloc | apply Kd.R_drewN | apply Kd.R_drew)); exact HO550.out) hb)
         have n2_ := aM (Kd.N_lower (Kd.N_mono (ok' := fun k_ => some k_ ≠ (.slice Ao33 x548000_1.length co33 : Value).ownBlock ∧ some k_ ≠ (.slice Ao36 t548.length co36 : Value).ownBlock ∧ k_ ≠ gb547 ∧ k_ ≠ g542) (Kd.S_N (Kd.S_bound ho0)) (fun k_ hk_ => ⟨(Kd.fresh' (Kd.N_lt (by (with_reducible repeat (first | apply Kd.N_alloc | apply Kd.N_drewN | apply Kd.N_drew)); exact HO_548000.out)) k_ hk_.2.1), (Kd.fresh' (Kd.R_lt (by (with_reducible repeat (first | apply Kd.R_alloc | apply Kd.R_drewN | apply Kd.R_drew)); exact HO550.out)) k_ hk_.2.1), (Kd.freshB (g := gb547) (o := .cells #[.slice Ao33 x548000_1.length co33] 24 (0, 0)) (by (with_reducible repeat (first | refine bN ?_ _ | refine bD ?_ | refine bA ?_ _)); exact BK547.out) k_ hk_.2.1), (IsS62.fresh (by repeat (first | (with_reducible first | exact HI542.out | apply IsS62.alloc | apply IsS62.drewN | apply IsS62.drew | apply IsS62.set_1 | refine IsS62.far ?_ NB542_547.out _) | exact HI542.out)) k_ hk_.2.1)⟩)) (below_size (by repeat (first | (with_reducible first | exact HB.out | apply wA | apply wN | apply wD | refine below_set ?_ (IsS62.ge HI542.out) | refine below_set ?_ GE547.out) | exact HB.out))))
         have n3_ := aM (blk_below (g := gb547) (o := .cells #[.slice Ao33 x548000_1.length co33] 24 (0, 0)) (by (with_reducible repeat (first | refine bN ?_ _ | refine bD ?_ | refine bA ?_ _)); exact BK547.out) hb)
         have n4_ := aM (IsS62.below (by repeat (first | (with_reducible first | exact HI542.out | apply IsS62.alloc | apply IsS62.drewN | apply IsS62.drew | apply IsS62.set_1 | refine IsS62.far ?_ NB542_547.out _) | exact HI542.out)) hb)
         have n5_ := aM (below_step (by repeat (first | (with_reducible first | exact HB.out | apply wA | apply wN | apply wD | refine below_set ?_ (IsS62.ge HI542.out) | refine below_set ?_ GE547.out) | exact HB.out)) hb)
         clear HO_548000
         clear HO550
         clear BK547
         clear HI542
         clear HB
         have HO_548000 := n0_
         have HO550 := n1_
         have HO554 := n2_
         have BK547 := n3_
         have HI542 := n4_
         have HB := n5_
         clear n0_ n1_ n2_ n3_ n4_ n5_
         (try clear hb)
         (try clear hb2)
         (try clear hk)
         (try clear hi)
         (try clear ho0)
         refine hK.out _ _ ((blk_cell BK547.out 0).trans rfl) (fun hHeld => ?_)
         clear hK K
         refine norm_ (a' := ?_) ?_ ?_
         rotate_left
         ·show Act.put _ (some 42) _ = _
          simp only [Act.put, List.setIfInBounds_toArray, List.set_cons_zero, List.set_cons_succ, i64_w, i32_w]
          rfl
         refine pure_ (i := 5) (N := some 37) (v := ?_) (a' := ?_) #[true, true, true, true, true, true, false, false, false, false, false] rfl rfl (any_of HT_.out (by kernel_rfl)) (fun _ _ _ h => h) (Or.inl ⟨by rfl, ?_⟩) ?_ ?_
         rotate_left
         ·intro w'
          go_simp
          with_reducible rfl
         rotate_left
         ·simp only [Act.put, List.setIfInBounds_toArray, List.set_cons_zero, List.set_cons_succ, i64_w, i32_w]
          rfl
         refine pure_ (i := 6) (N := some 43) (v := ?_) (a' := ?_) #[true, true, true, true, true, true, true, false, false, false, false] rfl rfl (any_of HT_.out (by kernel_rfl)) (fun _ _ _ h => h) (Or.inl ⟨by rfl, ?_⟩) ?_ ?_
         rotate_left
         ·intro w'
          go_simp
          with_reducible rfl
         rotate_left
         ·simp only [Act.put, List.setIfInBounds_toArray, List.set_cons_zero, List.set_cons_succ, i64_w, i32_w]
          rfl
         refine pure_ (i := 7) (N := some 44) (v := ?_) (a' := ?_) #[true, true, true, true, true, true, true, true, false, false, false] rfl rfl (any_of HT_.out (by kernel_rfl)) (fun _ _ _ h => h) (Or.inl ⟨by rfl, ?_⟩) ?_ ?_
         rotate_left
         ·intro w'
          go_simp
          with_reducible rfl
         rotate_left
         ·simp only [Act.put, List.setIfInBounds_toArray, List.set_cons_zero, List.set_cons_succ, i64_w, i32_w]
          rfl
         refine one_ (i := 8) (N := some 11) #[true, true, true, true, true, true, true, true, true, false, false] rfl rfl (one_of HT_.out (by kernel_rfl)) (by decide) (fun K hK => ?_)
         refine box_step ?hg (N := 11) ?hd (cs := #[.slice none 0 0]) (t := 24) ?hr ?_; (case hd => rfl); (case hg => rfl); (case hr => first | (go_simp; done) | (go_simp; rfl))
         intro gb556 hg w38 hbox hb
         have n0_ := aM (Kd.N_below (Kd.N_elderB (by (with_reducible repeat (first | apply Kd.N_alloc | apply Kd.N_drewN | apply Kd.N_drew)); exact HO_548000.out) gb556 (Nat.le_of_eq hg.symm)) hb)
         have n1_ := aM (Kd.R_below (by (with_reducible repeat (first | apply Kd.R_alloc | apply Kd.R_drewN | apply Kd.R_drew)); exact HO550.out) hb)
         have n2_ := aM (Kd.N_below (Kd.N_elderB (by (with_reducible repeat (first | apply Kd.N_alloc | apply Kd.N_drewN | apply Kd.N_drew)); exact HO554.out) gb556 (Nat.le_of_eq hg.symm)) hb)
         have n3_ := aM (blk_below (g := gb547) (o := .cells #[.slice Ao33 x548000_1.length co33] 24 (0, 0)) (by (with_reducible repeat (first | refine bN ?_ _ | refine bD ?_ | refine bA ?_ _)); exact BK547.out) hb)
         have n4_ := aM (IsS62.below (by repeat (first | (with_reducible first | exact HI542.out | apply IsS62.alloc | apply IsS62.drewN | apply IsS62.drew | apply IsS62.set_1 | refine IsS62.far ?_ NB542_547.out _) | exact HI542.out)) hb)
         have n5_ := aM (below_step (by repeat (first | (with_reducible first | exact HB.out | apply wA | apply wN | apply wD | refine below_set ?_ (IsS62.ge HI542.out) | refine below_set ?_ GE547.out) | exact HB.out)) hb)
         have n6_ := aM (hbox)
         have n7_ := aM ((by rw [hg]; exact (below_size (by repeat (first | (with_reducible first | exact HB.out | apply wA | apply wN | apply wD | refine below_set ?_ (IsS62.ge HI542.out) | refine below_set ?_ GE547.out) | exact HB.out))) : w.heap.size ≤ gb556))
         have n8_ := aM ((by rw [hg]; exact (below_size (by repeat (first | (with_reducible first | exact HB.out | apply wA | apply wN | apply wD | refine below_set ?_ (IsS62.ge HI542.out) | refine below_set ?_ GE547.out) | exact HB.out))) : w.heap.size ≤ gb556))
         have n9_ := aM ((by rw [hg]; exact Nat.ne_of_lt (blk_lt (g := gb547) (o := .cells #[.slice Ao33 x548000_1.length co33] 24 (0, 0)) (by (with_reducible repeat (first | refine bN ?_ _ | refine bD ?_ | refine bA ?_ _)); exact BK547.out)) : gb547 ≠ gb556))
         have n10_ := aM ((by rw [hg]; exact Nat.ne_of_gt (blk_lt (g := gb547) (o := .cells #[.slice Ao33 x548000_1.length co33] 24 (0, 0)) (by (with_reducible repeat (first | refine bN ?_ _ | refine bD ?_ | refine bA ?_ _)); exact BK547.out)) : gb556 ≠ gb547))
         have n11_ := aM ((by rw [hg]; exact Nat.ne_of_lt (IsS62.lt (show IsS62 w _ g542 t540 t551 from by repeat (first | (with_reducible first | exact HI542.out | apply IsS62.alloc | apply IsS62.drewN | apply IsS62.drew | apply IsS62.set_1 | refine IsS62.far ?_ NB542_547.out _) | exact HI542.out))) : g542 ≠ gb556))
         have n12_ := aM ((by rw [hg]; exact Nat.ne_of_gt (IsS62.lt (show IsS62 w _ g542 t540 t551 from by repeat (first | (with_reducible first | exact HI542.out | apply IsS62.alloc | apply IsS62.drewN | apply IsS62.drew | apply IsS62.set_1 | refine IsS62.far ?_ NB542_547.out _) | exact HI542.out))) : gb556 ≠ g542))
         clear HO_548000
         clear HO550
         clear HO554
         clear BK547
         clear HI542
         clear HB
         have HO_548000 := n0_
         have HO550 := n1_
         have HO554 := n2_
         have BK547 := n3_
         have HI542 := n4_
         have HB := n5_
         have BK556 := n6_
         have GW556 := n7_
         have GE556 := n8_
         have NB547_556 := n9_
         have NB556_547 := n10_
         have NB542_556 := n11_
         have NB556_542 := n12_
         clear n0_ n1_ n2_ n3_ n4_ n5_ n6_ n7_ n8_ n9_ n10_ n11_ n12_
         clear hb hbox hg
         refine hK.out _ _ ((blk_cell BK547.out 0).trans rfl) (fun hHeld => ?_)
         clear hK K
         refine norm_ (a' := ?_) ?_ ?_
         rotate_left
         ·show Act.put _ (some 11) _ = _
          simp only [Act.put, List.setIfInBounds_toArray, List.set_cons_zero, List.set_cons_succ, i64_w, i32_w]
          rfl
         exact norm_ (by simp only [putAll, Act.put, List.setIfInBounds_toArray, List.set_cons_zero, List.set_cons_succ]) (hCont (.slice Ao36 t548.length co36, v553, gb556) _ ⟨hHeld, (by (with_reducible repeat (first | apply Kd.R_alloc | apply Kd.R_drewN | apply Kd.R_drew)); exact HO550.out), (by (with_reducible repeat (first | apply Kd.N_alloc | apply Kd.N_drewN | apply Kd.N_drew)); exact Kd.N_mono HO554.out (fun _ hk => ⟨hk.1.2.1, ⟨hk.1.1, ⟨hk.1.2.2.2, ⟨hk.1.2.2.1, hk.2⟩⟩⟩⟩)), (by (with_reducible repeat (first | apply Kd.N_alloc | apply Kd.N_drewN | apply Kd.N_drew)); exact Kd.N_mono HO_548000.out (fun _ hk => ⟨hk.1.1.2, ⟨hk.1.2, ⟨hk.1.1.1.2, ⟨hk.1.1.1.1, hk.2⟩⟩⟩⟩)), (by (with_reducible repeat (first | refine bN ?_ _ | refine bD ?_ | refine bA ?_ _)); exact BK547.out), (by (with_reducible repeat (first | refine bN ?_ _ | refine bD ?_ | refine bA ?_ _)); exact BK556.out), GW556.out, GE556.out, NB542_556.out, NB556_542.out, NB547_556.out, NB556_547.out, (by repeat (first | (with_reducible first | exact HI542.out | apply IsS62.alloc | apply IsS62.drewN | apply IsS62.drew | apply IsS62.set_1 | refine IsS62.far ?_ NB542_547.out _ | refine IsS62.far ?_ NB542_556.out _) | exact HI542.out)), (by repeat (first | (with_reducible first | exact HB.out | apply wA | apply wN | apply wD | refine below_set ?_ (IsS62.ge HI542.out) | refine below_set ?_ GE547.out | refine below_set ?_ GE556.out) | exact HB.out))⟩)
        ·skip
         refine box_step ?hg (N := 11) ?hd (cs := #[.slice none 0 0]) (t := 24) ?hr ?_; (case hd => rfl); (case hg => rfl); (case hr => first | (go_simp; done) | (go_simp; rfl))
         intro gb556 hg w36 hbox hb
         have n0_ := aM (Kd.N_below (Kd.N_elderB (by (with_reducible repeat (first | apply Kd.N_alloc | apply Kd.N_drewN | apply Kd.N_drew)); exact HO_548000.out) gb556 (Nat.le_of_eq hg.symm)) hb)
         have n1_ := aM (Kd.R_below (by (with_reducible repeat (first | apply Kd.R_alloc | apply Kd.R_drewN | apply Kd.R_drew)); exact HO550.out) hb)
         have n2_ := aM (blk_below (g := gb547) (o := .cells #[.slice Ao33 x548000_1.length co33] 24 (0, 0)) (by (with_reducible repeat (first | refine bN ?_ _ | refine bD ?_ | refine bA ?_ _)); exact BK547.out) hb)
         have n3_ := aM (IsS62.below (by repeat (first | (with_reducible first | exact HI542.out | apply IsS62.alloc | apply IsS62.drewN | apply IsS62.drew | apply IsS62.set_1 | refine IsS62.far ?_ NB542_547.out _) | exact HI542.out)) hb)
         have n4_ := aM (below_step (by repeat (first | (with_reducible first | exact HB.out | apply wA | apply wN | apply wD | refine below_set ?_ (IsS62.ge HI542.out) | refine below_set ?_ GE547.out) | exact HB.out)) hb)
         have n5_ := aM (hbox)
         have n6_ := aM ((by rw [hg]; exact (below_size (by repeat (first | (with_reducible first | exact HB.out | apply wA | apply wN | apply wD | refine below_set ?_ (IsS62.ge HI542.out) | refine below_set ?_ GE547.out) | exact HB.out))) : w.heap.size ≤ gb556))
         have n7_ := aM ((by rw [hg]; exact (below_size (by repeat (first | (with_reducible first | exact HB.out | apply wA | apply wN | apply wD | refine below_set ?_ (IsS62.ge HI542.out) | refine below_set ?_ GE547.out) | exact HB.out))) : w.heap.size ≤ gb556))
         have n8_ := aM ((by rw [hg]; exact Nat.ne_of_lt (blk_lt (g := gb547) (o := .cells #[.slice Ao33 x548000_1.length co33] 24 (0, 0)) (by (with_reducible repeat (first | refine bN ?_ _ | refine bD ?_ | refine bA ?_ _)); exact BK547.out)) : gb547 ≠ gb556))
         have n9_ := aM ((by rw [hg]; exact Nat.ne_of_gt (blk_lt (g := gb547) (o := .cells #[.slice Ao33 x548000_1.length co33] 24 (0, 0)) (by (with_reducible repeat (first | refine bN ?_ _ | refine bD ?_ | refine bA ?_ _)); exact BK547.out)) : gb556 ≠ gb547))
         have n10_ := aM ((by rw [hg]; exact Nat.ne_of_lt (IsS62.lt (show IsS62 w _ g542 t540 t551 from by repeat (first | (with_reducible first | exact HI542.out | apply IsS62.alloc | apply IsS62.drewN | apply IsS62.drew | apply IsS62.set_1 | refine IsS62.far ?_ NB542_547.out _) | exact HI542.out))) : g542 ≠ gb556))
         have n11_ := aM ((by rw [hg]; exact Nat.ne_of_gt (IsS62.lt (show IsS62 w _ g542 t540 t551 from by repeat (first | (with_reducible first | exact HI542.out | apply IsS62.alloc | apply IsS62.drewN | apply IsS62.drew | apply IsS62.set_1 | refine IsS62.far ?_ NB542_547.out _) | exact HI542.out))) : gb556 ≠ g542))
         clear HO_548000
         clear HO550
         clear BK547
         clear HI542
         clear HB
         have HO_548000 := n0_
         have HO550 := n1_
         have BK547 := n2_
         have HI542 := n3_
         have HB := n4_
         have BK556 := n5_
         have GW556 := n6_
         have GE556 := n7_
         have NB547_556 := n8_
         have NB556_547 := n9_
         have NB542_556 := n10_
         have NB556_542 := n11_
         clear n0_ n1_ n2_ n3_ n4_ n5_ n6_ n7_ n8_ n9_ n10_ n11_
         clear hb hbox hg
         obtain ⟨Ao37, co37, eo37⟩ := Kd.R_slice HO550.out
         (first | subst eo37 | (injection eo37 with f1_ f2_ f3_; have f4_ := f1_.symm; have f5_ := f3_.symm; clear f1_ f2_ f3_; subst f4_; subst f5_))
         refine hK.out _ _ ((blk_cell BK547.out 0).trans rfl) (fun hHeld => ?_)
         clear hK K
         refine norm_ (a' := ?_) ?_ ?_
         rotate_left
         ·show Act.put _ (some 11) _ = _
          simp only [Act.put, List.setIfInBounds_toArray, List.set_cons_zero, List.set_cons_succ, i64_w, i32_w]
          rfl
         refine one_ (i := 4) (N := some 42) #[true, true, true, true, true, false, false, false, true, false, false] rfl rfl (one_of HT_.out (by kernel_rfl)) (by decide) (fun K hK => ?_)
         refine goes_ Try.func14 (by kernel_rfl) rfl #[.agg #[.slice Ao33 x548000_1.length co33], .int .i64 x10_1, .slice Ao37 t548.length co37] (by rfl) rfl rfl (by (try simp only [List.map_toArray, List.map_cons, List.map_nil]); first | done | rfl | (simp only [List.length_drop, List.length_take]; rfl)) ?_
         with_reducible refine (disk_Append.calls k1 _ _ x548000_1 x10_1 _ _ t548 t552 t555 _ ?side1 ?side2 ?side3 ?side4 A17.out).mono ?_
         (case side1 => repeat (first | exact (Kd.N_reads' HO_548000.out).2.2 | (with_reducible refine Kd.C_alloc ?_ _) | (with_reducible refine Kd.C_drewN ?_ _) | (with_reducible refine Kd.C_drew ?_)))
         (case side2 => exact (Kd.N_reads' HO_548000.out).2.1)
         (case side3 => repeat (first | exact (Kd.R_reads' HO550.out).2.2 | (with_reducible refine Kd.C_alloc ?_ _) | (with_reducible refine Kd.C_drewN ?_ _) | (with_reducible refine Kd.C_drew ?_)))
         (case side4 => exact (Kd.R_reads' HO550.out).2.1)
         rintro e w38 ⟨v553, rfl, ho0, hb⟩
         refine ⟨_, rfl, ?_⟩
         have n0_ := aM (Kd.N_elder' (by (with_reducible repeat (first | apply Kd.N_alloc | apply Kd.N_drewN | apply Kd.N_drew)); exact HO_548000.out) (by first | exact Kd.N_base ho0 | exact Kd.N_base (Kd.S_N ho0)) hb)
         have n1_ := aM (Kd.R_below (by (with_reducible repeat (first | apply Kd.R_alloc | apply Kd.R_drewN | apply Kd.R_drew)); exact HO550.out) hb)
         have n2_ := aM (Kd.N_lower (Kd.N_mono (ok' := fun k_ => some k_ ≠ (.slice Ao33 x548000_1.length co33 : Value).ownBlock ∧ some k_ ≠ (.slice Ao37 t548.length co37 : Value).ownBlock ∧ k_ ≠ gb547 ∧ k_ ≠ gb556 ∧ k_ ≠ g542) (Kd.S_N (Kd.S_bound ho0)) (fun k_ hk_ => ⟨(Kd.fresh' (Kd.N_lt (by (with_reducible repeat (first | apply Kd.N_alloc | apply Kd.N_drewN | apply Kd.N_drew)); exact HO_548000.out)) k_ hk_.2.1), (Kd.fresh' (Kd.R_lt (by (with_reducible repeat (first | apply Kd.R_alloc | apply Kd.R_drewN | apply Kd.R_drew)); exact HO550.out)) k_ hk_.2.1), (Kd.freshB (g := gb547) (o := .cells #[.slice Ao33 x548000_1.length co33] 24 (0, 0)) (by (with_reducible repeat (first | refine bN ?_ _ | refine bD ?_ | refine bA ?_ _)); exact BK547.out) k_ hk_.2.1), (Kd.freshB (g := gb556) (o := .cells #[.slice none 0 0] 24 (0, 0)) (by (with_reducible repeat (first | refine bN ?_ _ | refine bD ?_ | refine bA ?_ _)); exact BK556.out) k_ hk_.2.1), (IsS62.fresh (by repeat (first | (with_reducible first | exact HI542.out | apply IsS62.alloc | apply IsS62.drewN | apply IsS62.drew | apply IsS62.set_1 | refine IsS62.far ?_ NB542_547.out _ | refine IsS62.far ?_ NB542_556.out _) | exact HI542.out)) k_ hk_.2.1)⟩)) (below_size (by repeat (first | (with_reducible first | exact HB.out | apply wA | apply wN | apply wD | refine below_set ?_ (IsS62.ge HI542.out) | refine below_set ?_ GE547.out | refine below_set ?_ GE556.out) | exact HB.out))))
         have n3_ := aM (blk_below (g := gb547) (o := .cells #[.slice Ao33 x548000_1.length co33] 24 (0, 0)) (by (with_reducible repeat (first | refine bN ?_ _ | refine bD ?_ | refine bA ?_ _)); exact BK547.out) hb)
         have n4_ := aM (IsS62.below (by repeat (first | (with_reducible first | exact HI542.out | apply IsS62.alloc | apply IsS62.drewN | apply IsS62.drew | apply IsS62.set_1 | refine IsS62.far ?_ NB542_547.out _ | refine IsS62.far ?_ NB542_556.out _) | exact HI542.out)) hb)
         have n5_ := aM (blk_below (g := gb556) (o := .cells #[.slice none 0 0] 24 (0, 0)) (by (with_reducible repeat (first | refine bN ?_ _ | refine bD ?_ | refine bA ?_ _)); exact BK556.out) hb)
         have n6_ := aM (below_step (by repeat (first | (with_reducible first | exact HB.out | apply wA | apply wN | apply wD | refine below_set ?_ (IsS62.ge HI542.out) | refine below_set ?_ GE547.out | refine below_set ?_ GE556.out) | exact HB.out)) hb)
         clear HO_548000
         clear HO550
         clear BK547
         clear HI542
         clear BK556
         clear HB
         have HO_548000 := n0_
         have HO550 := n1_
         have HO554 := n2_
         have BK547 := n3_
         have HI542 := n4_
         have BK556 := n5_
         have HB := n6_
         clear n0_ n1_ n2_ n3_ n4_ n5_ n6_
         (try clear hb)
         (try clear hb2)
         (try clear hk)
         (try clear hi)
         (try clear ho0)
         refine hK.out _ _ ((blk_cell BK547.out 0).trans rfl) (fun hHeld => ?_)
         clear hK K
         refine norm_ (a' := ?_) ?_ ?_
         rotate_left
         ·show Act.put _ (some 42) _ = _
          simp only [Act.put, List.setIfInBounds_toArray, List.set_cons_zero, List.set_cons_succ, i64_w, i32_w]
          rfl
         refine pure_ (i := 5) (N := some 37) (v := ?_) (a' := ?_) #[true, true, true, true, true, true, false, false, true, false, false] rfl rfl (any_of HT_.out (by kernel_rfl)) (fun _ _ _ h => h) (Or.inl ⟨by rfl, ?_⟩) ?_ ?_
         rotate_left
         ·intro w'
          go_simp
          with_reducible rfl
         rotate_left
         ·simp only [Act.put, List.setIfInBounds_toArray, List.set_cons_zero, List.set_cons_succ, i64_w, i32_w]
          rfl
         refine pure_ (i := 6) (N := some 43) (v := ?_) (a' := ?_) #[true, true, true, true, true, true, true, false, true, false, false] rfl rfl (any_of HT_.out (by kernel_rfl)) (fun _ _ _ h => h) (Or.inl ⟨by rfl, ?_⟩) ?_ ?_
         rotate_left
         ·intro w'
          go_simp
          with_reducible rfl
         rotate_left
         ·simp only [Act.put, List.setIfInBounds_toArray, List.set_cons_zero, List.set_cons_succ, i64_w, i32_w]
          rfl
         refine pure_ (i := 7) (N := some 44) (v := ?_) (a' := ?_) #[true, true, true, true, true, true, true, true, true, false, false] rfl rfl (any_of HT_.out (by kernel_rfl)) (fun _ _ _ h => h) (Or.inl ⟨by rfl, ?_⟩) ?_ ?_
         rotate_left
         ·intro w'
          go_simp
          with_reducible rfl
         rotate_left
         ·simp only [Act.put, List.setIfInBounds_toArray, List.set_cons_zero, List.set_cons_succ, i64_w, i32_w]
          rfl
         exact norm_ (by simp only [putAll, Act.put, List.setIfInBounds_toArray, List.set_cons_zero, List.set_cons_succ]) (hCont (.slice Ao37 t548.length co37, v553, gb556) _ ⟨hHeld, (by (with_reducible repeat (first | apply Kd.R_alloc | apply Kd.R_drewN | apply Kd.R_drew)); exact HO550.out), (by (with_reducible repeat (first | apply Kd.N_alloc | apply Kd.N_drewN | apply Kd.N_drew)); exact Kd.N_mono HO554.out (fun _ hk => ⟨hk.2.1, ⟨hk.1, ⟨hk.2.2.2.2, ⟨hk.2.2.1, hk.2.2.2.1⟩⟩⟩⟩)), (by (with_reducible repeat (first | apply Kd.N_alloc | apply Kd.N_drewN | apply Kd.N_drew)); exact Kd.N_mono HO_548000.out (fun _ hk => ⟨hk.1.1.2, ⟨hk.2, ⟨hk.1.1.1.2, ⟨hk.1.1.1.1, hk.1.2⟩⟩⟩⟩)), (by (with_reducible repeat (first | refine bN ?_ _ | refine bD ?_ | refine bA ?_ _)); exact BK547.out), (by (with_reducible repeat (first | refine bN ?_ _ | refine bD ?_ | refine bA ?_ _)); exact BK556.out), GW556.out, GE556.out, NB542_556.out, NB556_542.out, NB547_556.out, NB556_547.out, (by repeat (first | (with_reducible first | exact HI542.out | apply IsS62.alloc | apply IsS62.drewN | apply IsS62.drew | apply IsS62.set_1 | refine IsS62.far ?_ NB542_547.out _ | refine IsS62.far ?_ NB542_556.out _) | exact HI542.out)), (by repeat (first | (with_reducible first | exact HB.out | apply wA | apply wN | apply wD | refine below_set ?_ (IsS62.ge HI542.out) | refine below_set ?_ GE547.out | refine below_set ?_ GE556.out) | exact HB.out))⟩)
       ·skip
        refine box_step ?hg (N := 11) ?hd (cs := #[.slice none 0 0]) (t := 24) ?hr ?_; (case hd => rfl); (case hg => rfl); (case hr => first | (go_simp; done) | (go_simp; rfl))
        intro gb556 hg w35 hbox hb
        have n0_ := aM (Kd.N_below (Kd.N_elderB (by (with_reducible repeat (first | apply Kd.N_alloc | apply Kd.N_drewN | apply Kd.N_drew)); exact HO_548000.out) gb556 (Nat.le_of_eq hg.symm)) hb)
        have n1_ := aM (blk_below (g := gb547) (o := .cells #[.slice Ao33 x548000_1.length co33] 24 (0, 0)) (by (with_reducible repeat (first | refine bN ?_ _ | refine bD ?_ | refine bA ?_ _)); exact BK547.out) hb)
        have n2_ := aM (IsS62.below (by repeat (first | (with_reducible first | exact HI542.out | apply IsS62.alloc | apply IsS62.drewN | apply IsS62.drew | apply IsS62.set_1 | refine IsS62.far ?_ NB542_547.out _) | exact HI542.out)) hb)
        have n3_ := aM (below_step (by repeat (first | (with_reducible first | exact HB.out | apply wA | apply wN | apply wD | refine below_set ?_ (IsS62.ge HI542.out) | refine below_set ?_ GE547.out) | exact HB.out)) hb)
        have n4_ := aM (hbox)
        have n5_ := aM ((by rw [hg]; exact (below_size (by repeat (first | (with_reducible first | exact HB.out | apply wA | apply wN | apply wD | refine below_set ?_ (IsS62.ge HI542.out) | refine below_set ?_ GE547.out) | exact HB.out))) : w.heap.size ≤ gb556))
        have n6_ := aM ((by rw [hg]; exact (below_size (by repeat (first | (with_reducible first | exact HB.out | apply wA | apply wN | apply wD | refine below_set ?_ (IsS62.ge HI542.out) | refine below_set ?_ GE547.out) | exact HB.out))) : w.heap.size ≤ gb556))
        have n7_ := aM ((by rw [hg]; exact Nat.ne_of_lt (blk_lt (g := gb547) (o := .cells #[.slice Ao33 x548000_1.length co33] 24 (0, 0)) (by (with_reducible repeat (first | refine bN ?_ _ | refine bD ?_ | refine bA ?_ _)); exact BK547.out)) : gb547 ≠ gb556))
        have n8_ := aM ((by rw [hg]; exact Nat.ne_of_gt (blk_lt (g := gb547) (o := .cells #[.slice Ao33 x548000_1.length co33] 24 (0, 0)) (by (with_reducible repeat (first | refine bN ?_ _ | refine bD ?_ | refine bA ?_ _)); exact BK547.out)) : gb556 ≠ gb547))
        have n9_ := aM ((by rw [hg]; exact Nat.ne_of_lt (IsS62.lt (show IsS62 w _ g542 t540 x543001_1 from by repeat (first | (with_reducible first | exact HI542.out | apply IsS62.alloc | apply IsS62.drewN | apply IsS62.drew | apply IsS62.set_1 | refine IsS62.far ?_ NB542_547.out _) | exact HI542.out))) : g542 ≠ gb556))
        have n10_ := aM ((by rw [hg]; exact Nat.ne_of_gt (IsS62.lt (show IsS62 w _ g542 t540 x543001_1 from by repeat (first | (with_reducible first | exact HI542.out | apply IsS62.alloc | apply IsS62.drewN | apply IsS62.drew | apply IsS62.set_1 | refine IsS62.far ?_ NB542_547.out _) | exact HI542.out))) : gb556 ≠ g542))
        clear HO_548000
        clear BK547
        clear HI542
        clear HB
        have HO_548000 := n0_
        have BK547 := n1_
        have HI542 := n2_
        have HB := n3_
        have BK556 := n4_
        have GW556 := n5_
        have GE556 := n6_
        have NB547_556 := n7_
        have NB556_547 := n8_
        have NB542_556 := n9_
        have NB556_542 := n10_
        clear n0_ n1_ n2_ n3_ n4_ n5_ n6_ n7_ n8_ n9_ n10_
        clear hb hbox hg
        refine hK.out _ _ ((blk_cell BK547.out 0).trans rfl) (fun hHeld => ?_)
        clear hK K
        refine norm_ (a' := ?_) ?_ ?_
        rotate_left
        ·show Act.put _ (some 11) _ = _
         simp only [Act.put, List.setIfInBounds_toArray, List.set_cons_zero, List.set_cons_succ, i64_w, i32_w]
         rfl
        refine one_ (i := 3) (N := some 41) #[true, true, true, true, false, false, false, false, true, false, false] rfl rfl (one_of HT_.out (by kernel_rfl)) (by decide) (fun K hK => ?_)
        refine goes_ Try.func23 (by kernel_rfl) rfl #[.pointer (some ⟨g542, 0, none⟩), .int .i64 20] (by rfl) rfl rfl (by (try simp only [List.map_toArray, List.map_cons, List.map_nil]); first | done | rfl | (simp only [List.length_drop, List.length_take]; rfl)) ?_
        with_reducible refine (rollbacknetmake_Codes_Bytes.calls k1 g542 t540 x543001_1 20 t548 t551 w _ ?side1 ?side2 A16.out).mono ?_
        (case side1 => repeat (first | (with_reducible first | exact HI542.out | apply IsS62.alloc | apply IsS62.drewN | apply IsS62.drew | apply IsS62.set_1 | refine IsS62.far ?_ NB542_547.out _ | refine IsS62.far ?_ NB542_556.out _) | exact HI542.out))
        (case side2 => repeat (first | (with_reducible first | exact HB.out | apply wA | apply wN | apply wD | refine below_set ?_ (IsS62.ge HI542.out) | refine below_set ?_ GE547.out | refine below_set ?_ GE556.out) | exact HB.out))
        rintro e w36 ⟨v549, rfl, ho0, hi, hb, hk⟩
        refine ⟨_, rfl, ?_⟩
        have n0_ := aM (Kd.N_mono (Kd.N_told (Kd.N_oldK (Kd.N_mono (ok := fun k_ => ((k_ ≠ gb547 ∧ k_ ≠ g542) ∧ k_ ≠ gb556)) (by (with_reducible repeat (first | apply Kd.N_alloc | apply Kd.N_drewN | apply Kd.N_drew)); exact HO_548000.out) (fun k_ hk_ => (⟨hk_, hk_.1.2⟩ : _ ∧ k_ ≠ g542))) hk) (Kd.R_base ho0)) (fun _ h_ => h_.1))
        have n1_ := aM (KeepBut.blk hk (g' := gb547) (o := .cells #[.slice Ao33 x548000_1.length co33] 24 (0, 0)) (by (with_reducible repeat (first | refine bN ?_ _ | refine bD ?_ | refine bA ?_ _)); exact BK547.out) NB547_542.out (by simp))
        have n2_ := aM (KeepBut.blk hk (g' := gb556) (o := .cells #[.slice none 0 0] 24 (0, 0)) (by (with_reducible repeat (first | refine bN ?_ _ | refine bD ?_ | refine bA ?_ _)); exact BK556.out) NB556_542.out (by simp))
        have n3_ := aM (Kd.R_lower ho0 (below_size (by repeat (first | (with_reducible first | exact HB.out | apply wA | apply wN | apply wD | refine below_set ?_ (IsS62.ge HI542.out) | refine below_set ?_ GE547.out | refine below_set ?_ GE556.out) | exact HB.out))))
        have n4_ := aM (hb)
        have n5_ := aM (hi)
        clear HO_548000
        clear BK547
        clear BK556
        clear HB
        clear HI542
        have HO_548000 := n0_
        have BK547 := n1_
        have BK556 := n2_
        have HO550 := n3_
        have HB := n4_
        have HI542 := n5_
        clear n0_ n1_ n2_ n3_ n4_ n5_
        (try clear hb)
        (try clear hb2)
        (try clear hk)
        (try clear hi)
        (try clear ho0)
        obtain ⟨Ao37, co37, eo37⟩ := Kd.R_slice HO550.out
        (first | subst eo37 | (injection eo37 with f1_ f2_ f3_; have f4_ := f1_.symm; have f5_ := f3_.symm; clear f1_ f2_ f3_; subst f4_; subst f5_))
        refine hK.out _ _ ((blk_cell BK547.out 0).trans rfl) (fun hHeld => ?_)
        clear hK K
        refine norm_ (a' := ?_) ?_ ?_
        rotate_left
        ·show Act.put _ (some 41) _ = _
         simp only [Act.put, List.setIfInBounds_toArray, List.set_cons_zero, List.set_cons_succ, i64_w, i32_w]
         rfl
        refine one_ (i := 4) (N := some 42) #[true, true, true, true, true, false, false, false, true, false, false] rfl rfl (one_of HT_.out (by kernel_rfl)) (by decide) (fun K hK => ?_)
        refine goes_ Try.func14 (by kernel_rfl) rfl #[.agg #[.slice Ao33 x548000_1.length co33], .int .i64 x10_1, .slice Ao37 t548.length co37] (by rfl) rfl rfl (by (try simp only [List.map_toArray, List.map_cons, List.map_nil]); first | done | rfl | (simp only [List.length_drop, List.length_take]; rfl)) ?_
        with_reducible refine (disk_Append.calls k1 _ _ x548000_1 x10_1 _ _ t548 t552 t555 _ ?side1 ?side2 ?side3 ?side4 A17.out).mono ?_
        (case side1 => repeat (first | exact (Kd.N_reads' HO_548000.out).2.2 | (with_reducible refine Kd.C_alloc ?_ _) | (with_reducible refine Kd.C_drewN ?_ _) | (with_reducible refine Kd.C_drew ?_)))
        (case side2 => exact (Kd.N_reads' HO_548000.out).2.1)
        (case side3 => repeat (first | exact (Kd.R_reads' HO550.out).2.2 | (with_reducible refine Kd.C_alloc ?_ _) | (with_reducible refine Kd.C_drewN ?_ _) | (with_reducible refine Kd.C_drew ?_)))
        (case side4 => exact (Kd.R_reads' HO550.out).2.1)
        rintro e w38 ⟨v553, rfl, ho0, hb⟩
        refine ⟨_, rfl, ?_⟩
        have n0_ := aM (Kd.N_elder' (by (with_reducible repeat (first | apply Kd.N_alloc | apply Kd.N_drewN | apply Kd.N_drew)); exact HO_548000.out) (by first | exact Kd.N_base ho0 | exact Kd.N_base (Kd.S_N ho0)) hb)
        have n1_ := aM (Kd.R_below (by (with_reducible repeat (first | apply Kd.R_alloc | apply Kd.R_drewN | apply Kd.R_drew)); exact HO550.out) hb)
        have n2_ := aM (Kd.N_lower (Kd.N_mono (ok' := fun k_ => some k_ ≠ (.slice Ao33 x548000_1.length co33 : Value).ownBlock ∧ some k_ ≠ (.slice Ao37 t548.length co37 : Value).ownBlock ∧ k_ ≠ gb547 ∧ k_ ≠ gb556 ∧ k_ ≠ g542) (Kd.S_N (Kd.S_bound ho0)) (fun k_ hk_ => ⟨(Kd.fresh' (Kd.N_lt (by (with_reducible repeat (first | apply Kd.N_alloc | apply Kd.N_drewN | apply Kd.N_drew)); exact HO_548000.out)) k_ hk_.2.1), (Kd.fresh' (Kd.R_lt (by (with_reducible repeat (first | apply Kd.R_alloc | apply Kd.R_drewN | apply Kd.R_drew)); exact HO550.out)) k_ hk_.2.1), (Kd.freshB (g := gb547) (o := .cells #[.slice Ao33 x548000_1.length co33] 24 (0, 0)) (by (with_reducible repeat (first | refine bN ?_ _ | refine bD ?_ | refine bA ?_ _)); exact BK547.out) k_ hk_.2.1), (Kd.freshB (g := gb556) (o := .cells #[.slice none 0 0] 24 (0, 0)) (by (with_reducible repeat (first | refine bN ?_ _ | refine bD ?_ | refine bA ?_ _)); exact BK556.out) k_ hk_.2.1), (IsS62.fresh (by repeat (first | (with_reducible first | exact HI542.out | apply IsS62.alloc | apply IsS62.drewN | apply IsS62.drew | apply IsS62.set_1 | refine IsS62.far ?_ NB542_547.out _ | refine IsS62.far ?_ NB542_556.out _) | exact HI542.out)) k_ hk_.2.1)⟩)) (below_size (by repeat (first | (with_reducible first | exact HB.out | apply wA | apply wN | apply wD | refine below_set ?_ (IsS62.ge HI542.out) | refine below_set ?_ GE547.out | refine below_set ?_ GE556.out) | exact HB.out))))
        have n3_ := aM (blk_below (g := gb547) (o := .cells #[.slice Ao33 x548000_1.length co33] 24 (0, 0)) (by (with_reducible repeat (first | refine bN ?_ _ | refine bD ?_ | refine bA ?_ _)); exact BK547.out) hb)
        have n4_ := aM (IsS62.below (by repeat (first | (with_reducible first | exact HI542.out | apply IsS62.alloc | apply IsS62.drewN | apply IsS62.drew | apply IsS62.set_1 | refine IsS62.far ?_ NB542_547.out _ | refine IsS62.far ?_ NB542_556.out _) | exact HI542.out)) hb)
        have n5_ := aM (blk_below (g := gb556) (o := .cells #[.slice none 0 0] 24 (0, 0)) (by (with_reducible repeat (first | refine bN ?_ _ | refine bD ?_ | refine bA ?_ _)); exact BK556.out) hb)
        have n6_ := aM (below_step (by repeat (first | (with_reducible first | exact HB.out | apply wA | apply wN | apply wD | refine below_set ?_ (IsS62.ge HI542.out) | refine below_set ?_ GE547.out | refine below_set ?_ GE556.out) | exact HB.out)) hb)
        clear HO_548000
        clear HO550
        clear BK547
        clear HI542
        clear BK556
        clear HB
        have HO_548000 := n0_
        have HO550 := n1_
        have HO554 := n2_
        have BK547 := n3_
        have HI542 := n4_
        have BK556 := n5_
        have HB := n6_
        clear n0_ n1_ n2_ n3_ n4_ n5_ n6_
        (try clear hb)
        (try clear hb2)
        (try clear hk)
        (try clear hi)
        (try clear ho0)
        refine hK.out _ _ ((blk_cell BK547.out 0).trans rfl) (fun hHeld => ?_)
        clear hK K
        refine norm_ (a' := ?_) ?_ ?_
        rotate_left
        ·show Act.put _ (some 42) _ = _
         simp only [Act.put, List.setIfInBounds_toArray, List.set_cons_zero, List.set_cons_succ, i64_w, i32_w]
         rfl
        refine pure_ (i := 5) (N := some 37) (v := ?_) (a' := ?_) #[true, true, true, true, true, true, false, false, true, false, false] rfl rfl (any_of HT_.out (by kernel_rfl)) (fun _ _ _ h => h) (Or.inl ⟨by rfl, ?_⟩) ?_ ?_
        rotate_left
        ·intro w'
         go_simp
         with_reducible rfl
        rotate_left
        ·simp only [Act.put, List.setIfInBounds_toArray, List.set_cons_zero, List.set_cons_succ, i64_w, i32_w]
         rfl
        refine pure_ (i := 6) (N := some 43) (v := ?_) (a' := ?_) #[true, true, true, true, true, true, true, false, true, false, false] rfl rfl (any_of HT_.out (by kernel_rfl)) (fun _ _ _ h => h) (Or.inl ⟨by rfl, ?_⟩) ?_ ?_
        rotate_left
        ·intro w'
         go_simp
         with_reducible rfl
        rotate_left
        ·simp only [Act.put, List.setIfInBounds_toArray, List.set_cons_zero, List.set_cons_succ, i64_w, i32_w]
         rfl
        refine pure_ (i := 7) (N := some 44) (v := ?_) (a' := ?_) #[true, true, true, true, true, true, true, true, true, false, false] rfl rfl (any_of HT_.out (by kernel_rfl)) (fun _ _ _ h => h) (Or.inl ⟨by rfl, ?_⟩) ?_ ?_
        rotate_left
        ·intro w'
         go_simp
         with_reducible rfl
        rotate_left
        ·simp only [Act.put, List.setIfInBounds_toArray, List.set_cons_zero, List.set_cons_succ, i64_w, i32_w]
         rfl
        exact norm_ (by simp only [putAll, Act.put, List.setIfInBounds_toArray, List.set_cons_zero, List.set_cons_succ]) (hCont (.slice Ao37 t548.length co37, v553, gb556) _ ⟨hHeld, (by (with_reducible repeat (first | apply Kd.R_alloc | apply Kd.R_drewN | apply Kd.R_drew)); exact HO550.out), (by (with_reducible repeat (first | apply Kd.N_alloc | apply Kd.N_drewN | apply Kd.N_drew)); exact Kd.N_mono HO554.out (fun _ hk => ⟨hk.2.1, ⟨hk.1, ⟨hk.2.2.2.2, ⟨hk.2.2.1, hk.2.2.2.1⟩⟩⟩⟩)), (by (with_reducible repeat (first | apply Kd.N_alloc | apply Kd.N_drewN | apply Kd.N_drew)); exact Kd.N_mono HO_548000.out (fun _ hk => ⟨hk.1.2, ⟨hk.2, ⟨hk.1.1.1.2, ⟨hk.1.1.1.1, hk.1.1.2⟩⟩⟩⟩)), (by (with_reducible repeat (first | refine bN ?_ _ | refine bD ?_ | refine bA ?_ _)); exact BK547.out), (by (with_reducible repeat (first | refine bN ?_ _ | refine bD ?_ | refine bA ?_ _)); exact BK556.out), GW556.out, GE556.out, NB542_556.out, NB556_542.out, NB547_556.out, NB556_547.out, (by repeat (first | (with_reducible first | exact HI542.out | apply IsS62.alloc | apply IsS62.drewN | apply IsS62.drew | apply IsS62.set_1 | refine IsS62.far ?_ NB542_547.out _ | refine IsS62.far ?_ NB542_556.out _) | exact HI542.out)), (by repeat (first | (with_reducible first | exact HB.out | apply wA | apply wN | apply wD | refine below_set ?_ (IsS62.ge HI542.out) | refine below_set ?_ GE547.out | refine below_set ?_ GE556.out) | exact HB.out))⟩)
      rintro ⟨v549, v553, gb556⟩ w39 ⟨hS_, h0_, h1_, h2_, h3_, h4_, h5_, h6_, h7_, h8_, h9_, h10_, h11_, h12_⟩
      have n0_ : Aside0 (Kd.R (Kd.int .u8) 5 w39 w.heap.size (fun _ => True) v549 t548) := ⟨h0_⟩
      have n1_ : Aside0 (Kd.N k48 48 w39 w.heap.size (fun k_ => some k_ ≠ (v549 : Value).ownBlock ∧ some k_ ≠ (.slice Ao33 x548000_1.length co33 : Value).ownBlock ∧ k_ ≠ g542 ∧ k_ ≠ gb547 ∧ k_ ≠ gb556) v553 t552) := ⟨h1_⟩
      have n2_ : Aside0 (Kd.N k48 48 w39 w.heap.size (fun k_ => some k_ ≠ (v549 : Value).ownBlock ∧ some k_ ≠ (v553 : Value).ownBlock ∧ k_ ≠ g542 ∧ k_ ≠ gb547 ∧ k_ ≠ gb556) (.slice Ao33 x548000_1.length co33) x548000_1) := ⟨h2_⟩
      have n3_ : Aside0 (w39.heap[gb547]? = some (.cells #[.slice Ao33 x548000_1.length co33] 24 (0, 0))) := ⟨h3_⟩
      have n4_ : Aside0 (w39.heap[gb556]? = some (.cells #[.slice none 0 0] 24 (0, 0))) := ⟨h4_⟩
      have n5_ : Aside0 (w.heap.size ≤ gb556) := ⟨h5_⟩
      have n6_ : Aside0 (w.heap.size ≤ gb556) := ⟨h6_⟩
      have n7_ : Aside0 (g542 ≠ gb556) := ⟨h7_⟩
      have n8_ : Aside0 (gb556 ≠ g542) := ⟨h8_⟩
      have n9_ : Aside0 (gb547 ≠ gb556) := ⟨h9_⟩
      have n10_ : Aside0 (gb556 ≠ gb547) := ⟨h10_⟩
      have n11_ : Aside0 (IsS62 w w39 g542 t540 t551) := ⟨h11_⟩
      have n12_ : Aside0 (Below w.heap.size w w39) := ⟨h12_⟩
      clear HO_548000
      clear BK547
      clear HI542
      clear HB
      clear h0_ h1_ h2_ h3_ h4_ h5_ h6_ h7_ h8_ h9_ h10_ h11_ h12_
      have HO550 := n0_
      have HO554 := n1_
      have HO_548000 := n2_
      have BK547 := n3_
      have BK556 := n4_
      have GW556 := n5_
      have GE556 := n6_
      have NB542_556 := n7_
      have NB556_542 := n8_
      have NB547_556 := n9_
      have NB556_547 := n10_
      have HI542 := n11_
      have HB := n12_
      clear n0_ n1_ n2_ n3_ n4_ n5_ n6_ n7_ n8_ n9_ n10_ n11_ n12_
      have hHeld : w39.cell? ⟨gb547, 0, none⟩ = some (.slice Ao33 x548000_1.length co33) := hS_
      obtain ⟨Ao40, co40, eo40⟩ := Kd.N_slice HO554.out
      (first | subst eo40 | (injection eo40 with f1_ f2_ f3_; have f4_ := f1_.symm; have f5_ := f3_.symm; clear f1_ f2_ f3_; subst f4_; subst f5_))
      refine norm_ (a' := ?_) ?_ ?_
      rotate_left
      ·simp only [putAll, Act.put, List.setIfInBounds_toArray, List.set_cons_zero, List.set_cons_succ]
       rfl
      refine one_ (i := 9) (N := none) #[true, true, true, true, true, true, true, true, true, true, false] rfl rfl (one_of HT_.out (by kernel_rfl)) (by decide) (fun K hK => ?_)
      have hs41 : w39.cell? ⟨gb556, 0, none⟩ = some (.slice none 0 0) := (blk_cell BK556.out 0).trans rfl
      have hfs41 := blk_frozen BK556.out 0
      have hns41_0 := NB547_556.out
      have hms41_0 := NB556_547.out
      refine skip_ (w1 := ?_) (by rfl) rfl ?_ ?_
      rotate_left
      ·go_simp
       rfl
      refine hK.out _ _ (((cell_far (p := ⟨gb556, _, none⟩) NB547_556.out _).trans (hHeld))) (fun hHeld => ?_)
      clear hK K
      refine pure_ (i := 10) (N := some 12) (v := ?_) (a' := ?_) #[true, true, true, true, true, true, true, true, true, true, true] rfl rfl (any_of HT_.out (by kernel_rfl)) (fun _ _ _ h => h) (Or.inl ⟨by rfl, ?_⟩) ?_ ?_
      rotate_left
      ·intro w'
       go_simp
       with_reducible rfl
      rotate_left
      ·simp only [Act.put, List.setIfInBounds_toArray, List.set_cons_zero, List.set_cons_succ, i64_w, i32_w]
       rfl
      refine done_ (done_of HT_.out (by kernel_rfl)) ?_
      try go_wp2
      go_ret
      exact ⟨by first | rfl | (simp [errW_none, errW_some] <;> rfl) | (simp [*, errW_none, errW_some] <;> rfl), by repeat (first | (with_reducible first | exact HB.out | apply wA | apply wN | apply wD | refine below_set ?_ (IsS62.ge HI542.out) | refine below_set ?_ GE547.out | refine below_set ?_ GE556.out) | exact HB.out)⟩
    ·rw [if_neg c15] at H
     have c15b0 : decide (x10_1 < 4) = false := decide_eq_false c15
     clear c15
     replace H := Option.bind_eq_some_iff.mp H
     obtain ⟨⟨t557, t560⟩, A420, H⟩ := H
     replace H : ((rollbacknetmake_Codes_Bytes.f k1 t540 x543001_1 20).bind fun bt561 => ((disk_Append.f k1 x548000_1 (Int.tmod (wrap64 (a1)) 4) bt561.1).bind fun bt565 => ((disk_Sync.f k1 bt565.1 (Int.tmod (wrap64 (a1)) 4)).bind fun bt570 => ((rollbacknetmake_Codes_Bytes.f k1 t540 bt561.2 20).bind fun bt575 => ((disk_Replace.f k1 bt570.1 (Int.tmod (wrap64 (a1)) 4) bt575.1).bind fun bt579 => ((disk_Read.f bt579.1 (Int.tmod (wrap64 (a2)) 4)).bind fun bt584 => (if bt579.2 = 0 then (if bt584.2 = 0 then (if (Int.tmod (wrap64 (a1)) 4) = (Int.tmod (wrap64 (a2)) 4) then (some true) else ((rollbacknetref08_SameBytes.f k1 t557 bt584.1).bind fun t588 => (some t588))) else (some false)) else (some false)))))))) = some r := H
     have A42 := aM A420
     clear A420
     replace H := Option.bind_eq_some_iff.mp H
     obtain ⟨⟨t561, t564⟩, A430, H⟩ := H
     replace H : ((disk_Append.f k1 x548000_1 (Int.tmod (wrap64 (a1)) 4) t561).bind fun bt565 => ((disk_Sync.f k1 bt565.1 (Int.tmod (wrap64 (a1)) 4)).bind fun bt570 => ((rollbacknetmake_Codes_Bytes.f k1 t540 t564 20).bind fun bt575 => ((disk_Replace.f k1 bt570.1 (Int.tmod (wrap64 (a1)) 4) bt575.1).bind fun bt579 => ((disk_Read.f bt579.1 (Int.tmod (wrap64 (a2)) 4)).bind fun bt584 => (if bt579.2 = 0 then (if bt584.2 = 0 then (if (Int.tmod (wrap64 (a1)) 4) = (Int.tmod (wrap64 (a2)) 4) then (some true) else ((rollbacknetref08_SameBytes.f k1 t557 bt584.1).bind fun t588 => (some t588))) else (some false)) else (some false))))))) = some r := H
     have A43 := aM A430
     clear A430
     replace H := Option.bind_eq_some_iff.mp H
     obtain ⟨⟨t565, t568⟩, A440, H⟩ := H
     replace H : ((disk_Sync.f k1 t565 (Int.tmod (wrap64 (a1)) 4)).bind fun bt570 => ((rollbacknetmake_Codes_Bytes.f k1 t540 t564 20).bind fun bt575 => ((disk_Replace.f k1 bt570.1 (Int.tmod (wrap64 (a1)) 4) bt575.1).bind fun bt579 => ((disk_Read.f bt579.1 (Int.tmod (wrap64 (a2)) 4)).bind fun bt584 => (if bt579.2 = 0 then (if bt584.2 = 0 then (if (Int.tmod (wrap64 (a1)) 4) = (Int.tmod (wrap64 (a2)) 4) then (some true) else ((rollbacknetref08_SameBytes.f k1 t557 bt584.1).bind fun t588 => (some t588))) else (some false)) else (some false)))))) = some r := H
     have A44 := aM A440
     clear A440
     replace H := Option.bind_eq_some_iff.mp H
     obtain ⟨⟨t570, t573⟩, A450, H⟩ := H
     replace H : ((rollbacknetmake_Codes_Bytes.f k1 t540 t564 20).bind fun bt575 => ((disk_Replace.f k1 t570 (Int.tmod (wrap64 (a1)) 4) bt575.1).bind fun bt579 => ((disk_Read.f bt579.1 (Int.tmod (wrap64 (a2)) 4)).bind fun bt584 => (if bt579.2 = 0 then (if bt584.2 = 0 then (if (Int.tmod (wrap64 (a1)) 4) = (Int.tmod (wrap64 (a2)) 4) then (some true) else ((rollbacknetref08_SameBytes.f k1 t557 bt584.1).bind fun t588 => (some t588))) else (some false)) else (some false))))) = some r := H
     have A45 := aM A450
     clear A450
     replace H := Option.bind_eq_some_iff.mp H
     obtain ⟨⟨t575, t578⟩, A460, H⟩ := H
     replace H : ((disk_Replace.f k1 t570 (Int.tmod (wrap64 (a1)) 4) t575).bind fun bt579 => ((disk_Read.f bt579.1 (Int.tmod (wrap64 (a2)) 4)).bind fun bt584 => (if bt579.2 = 0 then (if bt584.2 = 0 then (if (Int.tmod (wrap64 (a1)) 4) = (Int.tmod (wrap64 (a2)) 4) then (some true) else ((rollbacknetref08_SameBytes.f k1 t557 bt584.1).bind fun t588 => (some t588))) else (some false)) else (some false)))) = some r := H
     have A46 := aM A460
     clear A460
     replace H := Option.bind_eq_some_iff.mp H
     obtain ⟨⟨t579, t582⟩, A470, H⟩ := H
     replace H : ((disk_Read.f t579 (Int.tmod (wrap64 (a2)) 4)).bind fun bt584 => (if t582 = 0 then (if bt584.2 = 0 then (if (Int.tmod (wrap64 (a1)) 4) = (Int.tmod (wrap64 (a2)) 4) then (some true) else ((rollbacknetref08_SameBytes.f k1 t557 bt584.1).bind fun t588 => (some t588))) else (some false)) else (some false))) = some r := H
     have A47 := aM A470
     clear A470
     replace H := Option.bind_eq_some_iff.mp H
     obtain ⟨⟨t584, t587⟩, A480, H⟩ := H
     replace H : (if t582 = 0 then (if t587 = 0 then (if (Int.tmod (wrap64 (a1)) 4) = (Int.tmod (wrap64 (a2)) 4) then (some true) else ((rollbacknetref08_SameBytes.f k1 t557 t584).bind fun t588 => (some t588))) else (some false)) else (some false)) = some r := H
     have A48 := aM A480
     clear A480
     have HC49 := aM H
     clear H
     have hnb50 := NB547_542.out
     have hnc50 := NB542_547.out
     have hcz51_0 : wr.cell? ⟨gb547, 0, none⟩ = some (u548000) := (blk_cell BK547.out 0).trans rfl
     have hfz51_0 := blk_frozen BK547.out 0
     obtain ⟨Ao52, co52, eo52⟩ := Kd.N_slice HO_548000.out
     subst eo52
     try go_wp2_with (first | ((with_reducible refine gate_callee (f := 15) rfl ?_); refine goesL_ (some 57) rfl rfl Try.func15 (by kernel_rfl) rfl #[.agg #[.slice Ao52 x548000_1.length co52], .int .i64 (Int.tmod (wrap64 (a2)) 4)] rfl (by (try simp only [List.map_toArray, List.map_cons, List.map_nil]); first | done | rfl | (simp only [List.length_drop, List.length_take]; rfl)) ?_; (with_reducible refine (disk_Read.calls (fun k_ => (k_ ≠ gb547 ∧ k_ ≠ g542)) _ _ x548000_1 (Int.tmod (wrap64 (a2)) 4) t557 t560 _ ?side1 A42.out).mono ?_); (case side1 => exact Kd.N_V (HO_548000.out)); rintro e w53 ⟨v558, rfl, ho0, hb⟩; refine ⟨_, rfl, ?_⟩; have n0_ := aM (Kd.N_elder' (by (with_reducible repeat (first | apply Kd.N_alloc | apply Kd.N_drewN | apply Kd.N_drew)); exact HO_548000.out) (Kd.R_base ho0) hb); have n1_ := aM (Kd.R_lower (Kd.R_mono (ok' := fun k_ => True) ho0 (fun _ hk_ => trivial)) (below_size (by repeat (first | (with_reducible first | exact HB.out | apply wA | apply wN | apply wD | refine below_set ?_ (IsS62.ge HI542.out) | refine below_set ?_ GE547.out) | exact HB.out)))); have n2_ := aM (blk_below (g := gb547) (o := .cells #[.slice Ao52 x548000_1.length co52] 24 (0, 0)) (by (with_reducible repeat (first | refine bN ?_ _ | refine bD ?_ | refine bA ?_ _)); exact BK547.out) hb); have n3_ := aM (IsS62.below (by repeat (first | (with_reducible first | exact HI542.out | apply IsS62.alloc | apply IsS62.drewN | apply IsS62.drew | apply IsS62.set_1 | refine IsS62.far ?_ NB542_547.out _) | exact HI542.out)) hb); have n4_ := aM (below_step (by repeat (first | (with_reducible first | exact HB.out | apply wA | apply wN | apply wD | refine below_set ?_ (IsS62.ge HI542.out) | refine below_set ?_ GE547.out) | exact HB.out)) hb); clear HO_548000; clear BK547; clear HI542; clear HB; have HO_548000 := n0_; have HO559 := n1_; have BK547 := n2_; have HI542 := n3_; have HB := n4_; clear n0_ n1_ n2_ n3_ n4_; (try clear hb); (try clear hb2); (try clear hk); (try clear hi); (try clear ho0)))
     have n0_ := aM (Kd.N_drew HO_548000.out)
     have n1_ := aM (Kd.R_drew HO559.out)
     have n2_ := aM (bD BK547.out)
     have n3_ := aM (IsS62.drew HI542.out)
     have n4_ := aM (wD HB.out)
     clear HO_548000
     clear HO559
     clear BK547
     clear HI542
     clear HB
     have HO_548000 := n0_
     have HO559 := n1_
     have BK547 := n2_
     have HI542 := n3_
     have HB := n4_
     clear n0_ n1_ n2_ n3_ n4_
     refine start_ (n := 11) (S := fun w' => w'.cell? ⟨gb547, 0, none⟩ = some (.slice Ao52 x548000_1.length co52)) (ds := []) #[false, false, false, false, false, false, false, false, false, false, false] (by kernel_rfl) rfl rfl ((blk_cell BK547.out 0).trans rfl) (fun hHeld => ?_); refine with_tabW rollbacknetlaw10_DiskApart.tab14 rollbacknetlaw10_DiskApart.bits14 (fun HT_ HW_ => ?_)
     generalize w53.drew = w54 at HO_548000 HO559 BK547 HI542 HB hHeld ⊢
     refine pure_ (i := 1) (N := some 62) (v := ?_) (a' := ?_) #[false, true, false, false, false, false, false, false, false, false, false] rfl rfl (any_of HT_.out (by kernel_rfl)) (fun _ _ _ h => h) (Or.inl ⟨by rfl, ?_⟩) ?_ ?_
     rotate_left
     ·intro w'
      go_simp
      with_reducible rfl
     rotate_left
     ·simp only [Act.put, List.setIfInBounds_toArray, List.set_cons_zero, List.set_cons_succ, i64_w, i32_w]
      rfl
     refine pure_ (i := 2) (N := some 63) (v := ?_) (a' := ?_) #[false, true, true, false, false, false, false, false, false, false, false] rfl rfl (any_of HT_.out (by kernel_rfl)) (fun _ _ _ h => h) (Or.inl ⟨by rfl, ?_⟩) ?_ ?_
     rotate_left
     ·intro w'
      go_simp
      with_reducible rfl
     rotate_left
     ·simp only [Act.put, List.setIfInBounds_toArray, List.set_cons_zero, List.set_cons_succ, i64_w, i32_w]
      rfl
     refine take_ (i := 0) (N := some 61) (v := ?_) (a' := ?_) #[true, true, true, false, false, false, false, false, false, false, false] rfl rfl (take_ofW HT_.out HW_.out (by kernel_rfl)) (fun _ _ _ h => h) (Or.inl ⟨by rfl, ?_⟩) hHeld ?_ ?_
     rotate_left
     ·intro w' s0
      go_simp
      with_reducible rfl
     rotate_left
     ·simp only [Act.put, List.setIfInBounds_toArray, List.set_cons_zero, List.set_cons_succ, i64_w, i32_w]
      rfl
     refine join_ (σ := Value × Value × Nat) 2 #[true, true, true, true, true, true, true, true, true, false, false] (fun s_ => [(64, s_.1), (65, .tuple #[.agg #[s_.2.1], .int .i64 t568]), (17, .pointer (some ⟨s_.2.2, 0, none⟩)), (60, .tuple #[.agg #[s_.2.1], .int .i64 t568]), (66, .agg #[s_.2.1]), (67, .int .i64 t568)]) (fun s_ w' => (w'.cell? ⟨gb547, 0, none⟩ = some (.slice Ao52 x548000_1.length co52)) ∧ (Kd.R (Kd.int .u8) 5 w' w.heap.size (fun k_ => some k_ ≠ (s_.1 : Value).ownBlock) v558 t557) ∧ (Kd.R (Kd.int .u8) 5 w' w.heap.size (fun k_ => some k_ ≠ (v558 : Value).ownBlock) s_.1 t561) ∧ (Kd.N k48 48 w' w.heap.size (fun k_ => some k_ ≠ (v558 : Value).ownBlock ∧ some k_ ≠ (s_.1 : Value).ownBlock ∧ some k_ ≠ (.slice Ao52 x548000_1.length co52 : Value).ownBlock ∧ k_ ≠ g542 ∧ k_ ≠ gb547 ∧ k_ ≠ s_.2.2) s_.2.1 t565) ∧ (Kd.N k48 48 w' w.heap.size (fun k_ => some k_ ≠ (v558 : Value).ownBlock ∧ some k_ ≠ (s_.1 : Value).ownBlock ∧ some k_ ≠ (s_.2.1 : Value).ownBlock ∧ k_ ≠ g542 ∧ k_ ≠ gb547 ∧ k_ ≠ s_.2.2) (.slice Ao52 x548000_1.length co52) x548000_1) ∧ (w'.heap[gb547]? = some (.cells #[.slice Ao52 x548000_1.length co52] 24 (0, 0))) ∧ (w'.heap[s_.2.2]? = some (.cells #[.slice none 0 0] 24 (0, 0))) ∧ (w.heap.size ≤ s_.2.2) ∧ (w.heap.size ≤ s_.2.2) ∧ (g542 ≠ s_.2.2) ∧ (s_.2.2 ≠ g542) ∧ (gb547 ≠ s_.2.2) ∧ (s_.2.2 ≠ gb547) ∧ (IsS62 w w' g542 t540 t564) ∧ (Below w.heap.size w w')) ?_ ?_
     rotate_left
     ·intro hCont
      refine two_ (i := 3) (j := 8) (Ni := some 64) (Nj := some 17) #[true, true, true, true, false, false, false, false, false, false, false] #[true, true, true, false, false, false, false, false, true, false, false] rfl rfl rfl rfl (two_of HT_.out (by kernel_rfl)) (by decide) (by decide) (fun K hK => ?_) (fun K hK => ?_)
      ·skip
       refine goes_ Try.func23 (by kernel_rfl) rfl #[.pointer (some ⟨g542, 0, none⟩), .int .i64 20] (by rfl) rfl rfl (by (try simp only [List.map_toArray, List.map_cons, List.map_nil]); first | done | rfl | (simp only [List.length_drop, List.length_take]; rfl)) ?_
       with_reducible refine (rollbacknetmake_Codes_Bytes.calls k1 g542 t540 x543001_1 20 t561 t564 w _ ?side1 ?side2 A43.out).mono ?_
       (case side1 => repeat (first | (with_reducible first | exact HI542.out | apply IsS62.alloc | apply IsS62.drewN | apply IsS62.drew | apply IsS62.set_1 | refine IsS62.far ?_ NB542_547.out _) | exact HI542.out))
       (case side2 => repeat (first | (with_reducible first | exact HB.out | apply wA | apply wN | apply wD | refine below_set ?_ (IsS62.ge HI542.out) | refine below_set ?_ GE547.out) | exact HB.out))
       rintro e w55 ⟨v562, rfl, ho0, hi, hb, hk⟩
       refine ⟨_, rfl, ?_⟩
       have n0_ := aM (Kd.N_mono (Kd.N_told (Kd.N_oldK (Kd.N_mono (ok := fun k_ => ((k_ ≠ gb547 ∧ k_ ≠ g542) ∧ some k_ ≠ (v558 : Value).ownBlock)) (by (with_reducible repeat (first | apply Kd.N_alloc | apply Kd.N_drewN | apply Kd.N_drew)); exact HO_548000.out) (fun k_ hk_ => (⟨hk_, hk_.1.2⟩ : _ ∧ k_ ≠ g542))) hk) (Kd.R_base ho0)) (fun _ h_ => h_.1))
       have n1_ := aM (KeepBut.blk hk (g' := gb547) (o := .cells #[.slice Ao52 x548000_1.length co52] 24 (0, 0)) (by (with_reducible repeat (first | refine bN ?_ _ | refine bD ?_ | refine bA ?_ _)); exact BK547.out) NB547_542.out (by simp))
       have n2_ := aM (Kd.R_mono (Kd.R_told (Kd.R_oldK (IsS62.apart (show IsS62 w _ g542 t540 x543001_1 from by repeat (first | (with_reducible first | exact HI542.out | apply IsS62.alloc | apply IsS62.drewN | apply IsS62.drew | apply IsS62.set_1 | refine IsS62.far ?_ NB542_547.out _) | exact HI542.out)) (by (with_reducible repeat (first | apply Kd.R_alloc | apply Kd.R_drewN | apply Kd.R_drew)); exact HO559.out) (by decide)) hk) (Kd.R_base ho0)) (fun _ h_ => h_.1))
       have n3_ := aM (Kd.R_lower (Kd.R_new' ho0 (Kd.R_lt (by (with_reducible repeat (first | apply Kd.R_alloc | apply Kd.R_drewN | apply Kd.R_drew)); exact HO559.out))) (below_size (by repeat (first | (with_reducible first | exact HB.out | apply wA | apply wN | apply wD | refine below_set ?_ (IsS62.ge HI542.out) | refine below_set ?_ GE547.out) | exact HB.out))))
       have n4_ := aM (hb)
       have n5_ := aM (hi)
       clear HO_548000
       clear BK547
       clear HO559
       clear HB
       clear HI542
       have HO_548000 := n0_
       have BK547 := n1_
       have HO559 := n2_
       have HO563 := n3_
       have HB := n4_
       have HI542 := n5_
       clear n0_ n1_ n2_ n3_ n4_ n5_
       (try clear hb)
       (try clear hb2)
       (try clear hk)
       (try clear hi)
       (try clear ho0)
       obtain ⟨Ao56, co56, eo56⟩ := Kd.R_slice HO563.out
       (first | subst eo56 | (injection eo56 with f1_ f2_ f3_; have f4_ := f1_.symm; have f5_ := f3_.symm; clear f1_ f2_ f3_; subst f4_; subst f5_))
       refine hK.out _ _ ((blk_cell BK547.out 0).trans rfl) (fun hHeld => ?_)
       clear hK K
       refine norm_ (a' := ?_) ?_ ?_
       rotate_left
       ·show Act.put _ (some 64) _ = _
        simp only [Act.put, List.setIfInBounds_toArray, List.set_cons_zero, List.set_cons_succ, i64_w, i32_w]
        rfl
       refine two_ (i := 4) (j := 8) (Ni := some 65) (Nj := some 17) #[true, true, true, true, true, false, false, false, false, false, false] #[true, true, true, true, false, false, false, false, true, false, false] rfl rfl rfl rfl (two_of HT_.out (by kernel_rfl)) (by decide) (by decide) (fun K hK => ?_) (fun K hK => ?_)
       ·skip
        refine goes_ Try.func14 (by kernel_rfl) rfl #[.agg #[.slice Ao52 x548000_1.length co52], .int .i64 (Int.tmod (wrap64 (a1)) 4), .slice Ao56 t561.length co56] (by rfl) rfl rfl (by (try simp only [List.map_toArray, List.map_cons, List.map_nil]); first | done | rfl | (simp only [List.length_drop, List.length_take]; rfl)) ?_
        with_reducible refine (disk_Append.calls k1 _ _ x548000_1 (Int.tmod (wrap64 (a1)) 4) _ _ t561 t565 t568 _ ?side1 ?side2 ?side3 ?side4 A44.out).mono ?_
        (case side1 => repeat (first | exact (Kd.N_reads' HO_548000.out).2.2 | (with_reducible refine Kd.C_alloc ?_ _) | (with_reducible refine Kd.C_drewN ?_ _) | (with_reducible refine Kd.C_drew ?_)))
        (case side2 => exact (Kd.N_reads' HO_548000.out).2.1)
        (case side3 => repeat (first | exact (Kd.R_reads' HO563.out).2.2 | (with_reducible refine Kd.C_alloc ?_ _) | (with_reducible refine Kd.C_drewN ?_ _) | (with_reducible refine Kd.C_drew ?_)))
        (case side4 => exact (Kd.R_reads' HO563.out).2.1)
        rintro e w57 ⟨v566, rfl, ho0, hb⟩
        refine ⟨_, rfl, ?_⟩
        have n0_ := aM (Kd.N_elder' (by (with_reducible repeat (first | apply Kd.N_alloc | apply Kd.N_drewN | apply Kd.N_drew)); exact HO_548000.out) (by first | exact Kd.N_base ho0 | exact Kd.N_base (Kd.S_N ho0)) hb)
        have n1_ := aM (Kd.R_below (by (with_reducible repeat (first | apply Kd.R_alloc | apply Kd.R_drewN | apply Kd.R_drew)); exact HO559.out) hb)
        have n2_ := aM (Kd.R_below (by (with_reducible repeat (first | apply Kd.R_alloc | apply Kd.R_drewN | apply Kd.R_drew)); exact HO563.out) hb)
        have n3_ := aM (Kd.N_lower (Kd.N_mono (ok' := fun k_ => some k_ ≠ (.slice Ao52 x548000_1.length co52 : Value).ownBlock ∧ some k_ ≠ (v558 : Value).ownBlock ∧ some k_ ≠ (.slice Ao56 t561.length co56 : Value).ownBlock ∧ k_ ≠ gb547 ∧ k_ ≠ g542) (Kd.S_N (Kd.S_bound ho0)) (fun k_ hk_ => ⟨(Kd.fresh' (Kd.N_lt (by (with_reducible repeat (first | apply Kd.N_alloc | apply Kd.N_drewN | apply Kd.N_drew)); exact HO_548000.out)) k_ hk_.2.1), (Kd.fresh' (Kd.R_lt (by (with_reducible repeat (first | apply Kd.R_alloc | apply Kd.R_drewN | apply Kd.R_drew)); exact HO559.out)) k_ hk_.2.1), (Kd.fresh' (Kd.R_lt (by (with_reducible repeat (first | apply Kd.R_alloc | apply Kd.R_drewN | apply Kd.R_drew)); exact HO563.out)) k_ hk_.2.1), (Kd.freshB (g := gb547) (o := .cells #[.slice Ao52 x548000_1.length co52] 24 (0, 0)) (by (with_reducible repeat (first | refine bN ?_ _ | refine bD ?_ | refine bA ?_ _)); exact BK547.out) k_ hk_.2.1), (IsS62.fresh (by repeat (first | (with_reducible first | exact HI542.out | apply IsS62.alloc | apply IsS62.drewN | apply IsS62.drew | apply IsS62.set_1 | refine IsS62.far ?_ NB542_547.out _) | exact HI542.out)) k_ hk_.2.1)⟩)) (below_size (by repeat (first | (with_reducible first | exact HB.out | apply wA | apply wN | apply wD | refine below_set ?_ (IsS62.ge HI542.out) | refine below_set ?_ GE547.out) | exact HB.out))))
        have n4_ := aM (blk_below (g := gb547) (o := .cells #[.slice Ao52 x548000_1.length co52] 24 (0, 0)) (by (with_reducible repeat (first | refine bN ?_ _ | refine bD ?_ | refine bA ?_ _)); exact BK547.out) hb)
        have n5_ := aM (IsS62.below (by repeat (first | (with_reducible first | exact HI542.out | apply IsS62.alloc | apply IsS62.drewN | apply IsS62.drew | apply IsS62.set_1 | refine IsS62.far ?_ NB542_547.out _) | exact HI542.out)) hb)
        have n6_ := aM (below_step (by repeat (first | (with_reducible first | exact HB.out | apply wA | apply wN | apply wD | refine below_set ?_ (IsS62.ge HI542.out) | refine below_set ?_ GE547.out) | exact HB.out)) hb)
        clear HO_548000
        clear HO559
        clear HO563
        clear BK547
        clear HI542
        clear HB
        have HO_548000 := n0_
        have HO559 := n1_
        have HO563 := n2_
        have HO567 := n3_
        have BK547 := n4_
        have HI542 := n5_
        have HB := n6_
        clear n0_ n1_ n2_ n3_ n4_ n5_ n6_
        (try clear hb)
        (try clear hb2)
        (try clear hk)
        (try clear hi)
        (try clear ho0)
        refine hK.out _ _ ((blk_cell BK547.out 0).trans rfl) (fun hHeld => ?_)
        clear hK K
        refine norm_ (a' := ?_) ?_ ?_
        rotate_left
        ·show Act.put _ (some 65) _ = _
         simp only [Act.put, List.setIfInBounds_toArray, List.set_cons_zero, List.set_cons_succ, i64_w, i32_w]
         rfl
        refine pure_ (i := 5) (N := some 60) (v := ?_) (a' := ?_) #[true, true, true, true, true, true, false, false, false, false, false] rfl rfl (any_of HT_.out (by kernel_rfl)) (fun _ _ _ h => h) (Or.inl ⟨by rfl, ?_⟩) ?_ ?_
        rotate_left
        ·intro w'
         go_simp
         with_reducible rfl
        rotate_left
        ·simp only [Act.put, List.setIfInBounds_toArray, List.set_cons_zero, List.set_cons_succ, i64_w, i32_w]
         rfl
        refine pure_ (i := 6) (N := some 66) (v := ?_) (a' := ?_) #[true, true, true, true, true, true, true, false, false, false, false] rfl rfl (any_of HT_.out (by kernel_rfl)) (fun _ _ _ h => h) (Or.inl ⟨by rfl, ?_⟩) ?_ ?_
        rotate_left
        ·intro w'
         go_simp
         with_reducible rfl
        rotate_left
        ·simp only [Act.put, List.setIfInBounds_toArray, List.set_cons_zero, List.set_cons_succ, i64_w, i32_w]
         rfl
        refine pure_ (i := 7) (N := some 67) (v := ?_) (a' := ?_) #[true, true, true, true, true, true, true, true, false, false, false] rfl rfl (any_of HT_.out (by kernel_rfl)) (fun _ _ _ h => h) (Or.inl ⟨by rfl, ?_⟩) ?_ ?_
        rotate_left
        ·intro w'
         go_simp
         with_reducible rfl
        rotate_left
        ·simp only [Act.put, List.setIfInBounds_toArray, List.set_cons_zero, List.set_cons_succ, i64_w, i32_w]
         rfl
        refine one_ (i := 8) (N := some 17) #[true, true, true, true, true, true, true, true, true, false, false] rfl rfl (one_of HT_.out (by kernel_rfl)) (by decide) (fun K hK => ?_)
        refine box_step ?hg (N := 17) ?hd (cs := #[.slice none 0 0]) (t := 24) ?hr ?_; (case hd => rfl); (case hg => rfl); (case hr => first | (go_simp; done) | (go_simp; rfl))
        intro gb569 hg w58 hbox hb
        have n0_ := aM (Kd.N_below (Kd.N_elderB (by (with_reducible repeat (first | apply Kd.N_alloc | apply Kd.N_drewN | apply Kd.N_drew)); exact HO_548000.out) gb569 (Nat.le_of_eq hg.symm)) hb)
        have n1_ := aM (Kd.R_below (by (with_reducible repeat (first | apply Kd.R_alloc | apply Kd.R_drewN | apply Kd.R_drew)); exact HO559.out) hb)
        have n2_ := aM (Kd.R_below (by (with_reducible repeat (first | apply Kd.R_alloc | apply Kd.R_drewN | apply Kd.R_drew)); exact HO563.out) hb)
        have n3_ := aM (Kd.N_below (Kd.N_elderB (by (with_reducible repeat (first | apply Kd.N_alloc | apply Kd.N_drewN | apply Kd.N_drew)); exact HO567.out) gb569 (Nat.le_of_eq hg.symm)) hb)
        have n4_ := aM (blk_below (g := gb547) (o := .cells #[.slice Ao52 x548000_1.length co52] 24 (0, 0)) (by (with_reducible repeat (first | refine bN ?_ _ | refine bD ?_ | refine bA ?_ _)); exact BK547.out) hb)
        have n5_ := aM (IsS62.below (by repeat (first | (with_reducible first | exact HI542.out | apply IsS62.alloc | apply IsS62.drewN | apply IsS62.drew | apply IsS62.set_1 | refine IsS62.far ?_ NB542_547.out _) | exact HI542.out)) hb)
        have n6_ := aM (below_step (by repeat (first | (with_reducible first | exact HB.out | apply wA | apply wN | apply wD | refine below_set ?_ (IsS62.ge HI542.out) | refine below_set ?_ GE547.out) | exact HB.out)) hb)
        have n7_ := aM (hbox)
        have n8_ := aM ((by rw [hg]; exact (below_size (by repeat (first | (with_reducible first | exact HB.out | apply wA | apply wN | apply wD | refine below_set ?_ (IsS62.ge HI542.out) | refine below_set ?_ GE547.out) | exact HB.out))) : w.heap.size ≤ gb569))
        have n9_ := aM ((by rw [hg]; exact (below_size (by repeat (first | (with_reducible first | exact HB.out | apply wA | apply wN | apply wD | refine below_set ?_ (IsS62.ge HI542.out) | refine below_set ?_ GE547.out) | exact HB.out))) : w.heap.size ≤ gb569))
        have n10_ := aM ((by rw [hg]; exact Nat.ne_of_lt (blk_lt (g := gb547) (o := .cells #[.slice Ao52 x548000_1.length co52] 24 (0, 0)) (by (with_reducible repeat (first | refine bN ?_ _ | refine bD ?_ | refine bA ?_ _)); exact BK547.out)) : gb547 ≠ gb569))
        have n11_ := aM ((by rw [hg]; exact Nat.ne_of_gt (blk_lt (g := gb547) (o := .cells #[.slice Ao52 x548000_1.length co52] 24 (0, 0)) (by (with_reducible repeat (first | refine bN ?_ _ | refine bD ?_ | refine bA ?_ _)); exact BK547.out)) : gb569 ≠ gb547))
        have n12_ := aM ((by rw [hg]; exact Nat.ne_of_lt (IsS62.lt (show IsS62 w _ g542 t540 t564 from by repeat (first | (with_reducible first | exact HI542.out | apply IsS62.alloc | apply IsS62.drewN | apply IsS62.drew | apply IsS62.set_1 | refine IsS62.far ?_ NB542_547.out _) | exact HI542.out))) : g542 ≠ gb569))
        have n13_ := aM ((by rw [hg]; exact Nat.ne_of_gt (IsS62.lt (show IsS62 w _ g542 t540 t564 from by repeat (first | (with_reducible first | exact HI542.out | apply IsS62.alloc | apply IsS62.drewN | apply IsS62.drew | apply IsS62.set_1 | refine IsS62.far ?_ NB542_547.out _) | exact HI542.out))) : gb569 ≠ g542))
        clear HO_548000
        clear HO559
        clear HO563
        clear HO567
        clear BK547
        clear HI542
        clear HB
        have HO_548000 := n0_
        have HO559 := n1_
        have HO563 := n2_
        have HO567 := n3_
        have BK547 := n4_
        have HI542 := n5_
        have HB := n6_
        have BK569 := n7_
        have GW569 := n8_
        have GE569 := n9_
        have NB547_569 := n10_
        have NB569_547 := n11_
        have NB542_569 := n12_
        have NB569_542 := n13_
        clear n0_ n1_ n2_ n3_ n4_ n5_ n6_ n7_ n8_ n9_ n10_ n11_ n12_ n13_
        clear hb hbox hg
        refine hK.out _ _ ((blk_cell BK547.out 0).trans rfl) (fun hHeld => ?_)
        clear hK K
        refine norm_ (a' := ?_) ?_ ?_
        rotate_left
        ·show Act.put _ (some 17) _ = _
         simp only [Act.put, List.setIfInBounds_toArray, List.set_cons_zero, List.set_cons_succ, i64_w, i32_w]
         rfl
        exact norm_ (by simp only [putAll, Act.put, List.setIfInBounds_toArray, List.set_cons_zero, List.set_cons_succ]) (hCont (.slice Ao56 t561.length co56, v566, gb569) _ ⟨hHeld, (by (with_reducible repeat (first | apply Kd.R_alloc | apply Kd.R_drewN | apply Kd.R_drew)); exact Kd.R_mono HO559.out (fun _ hk => hk.2)), (by (with_reducible repeat (first | apply Kd.R_alloc | apply Kd.R_drewN | apply Kd.R_drew)); exact Kd.R_mono HO563.out (fun _ hk => hk.2)), (by (with_reducible repeat (first | apply Kd.N_alloc | apply Kd.N_drewN | apply Kd.N_drew)); exact Kd.N_mono HO567.out (fun _ hk => ⟨hk.1.2.1, ⟨hk.1.2.2.1, ⟨hk.1.1, ⟨hk.1.2.2.2.2, ⟨hk.1.2.2.2.1, hk.2⟩⟩⟩⟩⟩)), (by (with_reducible repeat (first | apply Kd.N_alloc | apply Kd.N_drewN | apply Kd.N_drew)); exact Kd.N_mono HO_548000.out (fun _ hk => ⟨hk.1.1.1.2, ⟨hk.1.1.2, ⟨hk.1.2, ⟨hk.1.1.1.1.2, ⟨hk.1.1.1.1.1, hk.2⟩⟩⟩⟩⟩)), (by (with_reducible repeat (first | refine bN ?_ _ | refine bD ?_ | refine bA ?_ _)); exact BK547.out), (by (with_reducible repeat (first | refine bN ?_ _ | refine bD ?_ | refine bA ?_ _)); exact BK569.out), GW569.out, GE569.out, NB542_569.out, NB569_542.out, NB547_569.out, NB569_547.out, (by repeat (first | (with_reducible first | exact HI542.out | apply IsS62.alloc | apply IsS62.drewN | apply IsS62.drew | apply IsS62.set_1 | refine IsS62.far ?_ NB542_547.out _ | refine IsS62.far ?_ NB542_569.out _) | exact HI542.out)), (by repeat (first | (with_reducible first | exact HB.out | apply wA | apply wN | apply wD | refine below_set ?_ (IsS62.ge HI542.out) | refine below_set ?_ GE547.out | refine below_set ?_ GE569.out) | exact HB.out))⟩)
       ·skip
        refine box_step ?hg (N := 17) ?hd (cs := #[.slice none 0 0]) (t := 24) ?hr ?_; (case hd => rfl); (case hg => rfl); (case hr => first | (go_simp; done) | (go_simp; rfl))
        intro gb569 hg w56 hbox hb
        have n0_ := aM (Kd.N_below (Kd.N_elderB (by (with_reducible repeat (first | apply Kd.N_alloc | apply Kd.N_drewN | apply Kd.N_drew)); exact HO_548000.out) gb569 (Nat.le_of_eq hg.symm)) hb)
        have n1_ := aM (Kd.R_below (by (with_reducible repeat (first | apply Kd.R_alloc | apply Kd.R_drewN | apply Kd.R_drew)); exact HO559.out) hb)
        have n2_ := aM (Kd.R_below (by (with_reducible repeat (first | apply Kd.R_alloc | apply Kd.R_drewN | apply Kd.R_drew)); exact HO563.out) hb)
        have n3_ := aM (blk_below (g := gb547) (o := .cells #[.slice Ao52 x548000_1.length co52] 24 (0, 0)) (by (with_reducible repeat (first | refine bN ?_ _ | refine bD ?_ | refine bA ?_ _)); exact BK547.out) hb)
        have n4_ := aM (IsS62.below (by repeat (first | (with_reducible first | exact HI542.out | apply IsS62.alloc | apply IsS62.drewN | apply IsS62.drew | apply IsS62.set_1 | refine IsS62.far ?_ NB542_547.out _) | exact HI542.out)) hb)
        have n5_ := aM (below_step (by repeat (first | (with_reducible first | exact HB.out | apply wA | apply wN | apply wD | refine below_set ?_ (IsS62.ge HI542.out) | refine below_set ?_ GE547.out) | exact HB.out)) hb)
        have n6_ := aM (hbox)
        have n7_ := aM ((by rw [hg]; exact (below_size (by repeat (first | (with_reducible first | exact HB.out | apply wA | apply wN | apply wD | refine below_set ?_ (IsS62.ge HI542.out) | refine below_set ?_ GE547.out) | exact HB.out))) : w.heap.size ≤ gb569))
        have n8_ := aM ((by rw [hg]; exact (below_size (by repeat (first | (with_reducible first | exact HB.out | apply wA | apply wN | apply wD | refine below_set ?_ (IsS62.ge HI542.out) | refine below_set ?_ GE547.out) | exact HB.out))) : w.heap.size ≤ gb569))
        have n9_ := aM ((by rw [hg]; exact Nat.ne_of_lt (blk_lt (g := gb547) (o := .cells #[.slice Ao52 x548000_1.length co52] 24 (0, 0)) (by (with_reducible repeat (first | refine bN ?_ _ | refine bD ?_ | refine bA ?_ _)); exact BK547.out)) : gb547 ≠ gb569))
        have n10_ := aM ((by rw [hg]; exact Nat.ne_of_gt (blk_lt (g := gb547) (o := .cells #[.slice Ao52 x548000_1.length co52] 24 (0, 0)) (by (with_reducible repeat (first | refine bN ?_ _ | refine bD ?_ | refine bA ?_ _)); exact BK547.out)) : gb569 ≠ gb547))
        have n11_ := aM ((by rw [hg]; exact Nat.ne_of_lt (IsS62.lt (show IsS62 w _ g542 t540 t564 from by repeat (first | (with_reducible first | exact HI542.out | apply IsS62.alloc | apply IsS62.drewN | apply IsS62.drew | apply IsS62.set_1 | refine IsS62.far ?_ NB542_547.out _) | exact HI542.out))) : g542 ≠ gb569))
        have n12_ := aM ((by rw [hg]; exact Nat.ne_of_gt (IsS62.lt (show IsS62 w _ g542 t540 t564 from by repeat (first | (with_reducible first | exact HI542.out | apply IsS62.alloc | apply IsS62.drewN | apply IsS62.drew | apply IsS62.set_1 | refine IsS62.far ?_ NB542_547.out _) | exact HI542.out))) : gb569 ≠ g542))
        clear HO_548000
        clear HO559
        clear HO563
        clear BK547
        clear HI542
        clear HB
        have HO_548000 := n0_
        have HO559 := n1_
        have HO563 := n2_
        have BK547 := n3_
        have HI542 := n4_
        have HB := n5_
        have BK569 := n6_
        have GW569 := n7_
        have GE569 := n8_
        have NB547_569 := n9_
        have NB569_547 := n10_
        have NB542_569 := n11_
        have NB569_542 := n12_
        clear n0_ n1_ n2_ n3_ n4_ n5_ n6_ n7_ n8_ n9_ n10_ n11_ n12_
        clear hb hbox hg
        obtain ⟨Ao57, co57, eo57⟩ := Kd.R_slice HO563.out
        (first | subst eo57 | (injection eo57 with f1_ f2_ f3_; have f4_ := f1_.symm; have f5_ := f3_.symm; clear f1_ f2_ f3_; subst f4_; subst f5_))
        refine hK.out _ _ ((blk_cell BK547.out 0).trans rfl) (fun hHeld => ?_)
        clear hK K
        refine norm_ (a' := ?_) ?_ ?_
        rotate_left
        ·show Act.put _ (some 17) _ = _
         simp only [Act.put, List.setIfInBounds_toArray, List.set_cons_zero, List.set_cons_succ, i64_w, i32_w]
         rfl
        refine one_ (i := 4) (N := some 65) #[true, true, true, true, true, false, false, false, true, false, false] rfl rfl (one_of HT_.out (by kernel_rfl)) (by decide) (fun K hK => ?_)
        refine goes_ Try.func14 (by kernel_rfl) rfl #[.agg #[.slice Ao52 x548000_1.length co52], .int .i64 (Int.tmod (wrap64 (a1)) 4), .slice Ao57 t561.length co57] (by rfl) rfl rfl (by (try simp only [List.map_toArray, List.map_cons, List.map_nil]); first | done | rfl | (simp only [List.length_drop, List.length_take]; rfl)) ?_
        with_reducible refine (disk_Append.calls k1 _ _ x548000_1 (Int.tmod (wrap64 (a1)) 4) _ _ t561 t565 t568 _ ?side1 ?side2 ?side3 ?side4 A44.out).mono ?_
        (case side1 => repeat (first | exact (Kd.N_reads' HO_548000.out).2.2 | (with_reducible refine Kd.C_alloc ?_ _) | (with_reducible refine Kd.C_drewN ?_ _) | (with_reducible refine Kd.C_drew ?_)))
        (case side2 => exact (Kd.N_reads' HO_548000.out).2.1)
        (case side3 => repeat (first | exact (Kd.R_reads' HO563.out).2.2 | (with_reducible refine Kd.C_alloc ?_ _) | (with_reducible refine Kd.C_drewN ?_ _) | (with_reducible refine Kd.C_drew ?_)))
        (case side4 => exact (Kd.R_reads' HO563.out).2.1)
        rintro e w58 ⟨v566, rfl, ho0, hb⟩
        refine ⟨_, rfl, ?_⟩
        have n0_ := aM (Kd.N_elder' (by (with_reducible repeat (first | apply Kd.N_alloc | apply Kd.N_drewN | apply Kd.N_drew)); exact HO_548000.out) (by first | exact Kd.N_base ho0 | exact Kd.N_base (Kd.S_N ho0)) hb)
        have n1_ := aM (Kd.R_below (by (with_reducible repeat (first | apply Kd.R_alloc | apply Kd.R_drewN | apply Kd.R_drew)); exact HO559.out) hb)
        have n2_ := aM (Kd.R_below (by (with_reducible repeat (first | apply Kd.R_alloc | apply Kd.R_drewN | apply Kd.R_drew)); exact HO563.out) hb)
        have n3_ := aM (Kd.N_lower (Kd.N_mono (ok' := fun k_ => some k_ ≠ (.slice Ao52 x548000_1.length co52 : Value).ownBlock ∧ some k_ ≠ (v558 : Value).ownBlock ∧ some k_ ≠ (.slice Ao57 t561.length co57 : Value).ownBlock ∧ k_ ≠ gb547 ∧ k_ ≠ gb569 ∧ k_ ≠ g542) (Kd.S_N (Kd.S_bound ho0)) (fun k_ hk_ => ⟨(Kd.fresh' (Kd.N_lt (by (with_reducible repeat (first | apply Kd.N_alloc | apply Kd.N_drewN | apply Kd.N_drew)); exact HO_548000.out)) k_ hk_.2.1), (Kd.fresh' (Kd.R_lt (by (with_reducible repeat (first | apply Kd.R_alloc | apply Kd.R_drewN | apply Kd.R_drew)); exact HO559.out)) k_ hk_.2.1), (Kd.fresh' (Kd.R_lt (by (with_reducible repeat (first | apply Kd.R_alloc | apply Kd.R_drewN | apply Kd.R_drew)); exact HO563.out)) k_ hk_.2.1), (Kd.freshB (g := gb547) (o := .cells #[.slice Ao52 x548000_1.length co52] 24 (0, 0)) (by (with_reducible repeat (first | refine bN ?_ _ | refine bD ?_ | refine bA ?_ _)); exact BK547.out) k_ hk_.2.1), (Kd.freshB (g := gb569) (o := .cells #[.slice none 0 0] 24 (0, 0)) (by (with_reducible repeat (first | refine bN ?_ _ | refine bD ?_ | refine bA ?_ _)); exact BK569.out) k_ hk_.2.1), (IsS62.fresh (by repeat (first | (with_reducible first | exact HI542.out | apply IsS62.alloc | apply IsS62.drewN | apply IsS62.drew | apply IsS62.set_1 | refine IsS62.far ?_ NB542_547.out _ | refine IsS62.far ?_ NB542_569.out _) | exact HI542.out)) k_ hk_.2.1)⟩)) (below_size (by repeat (first | (with_reducible first | exact HB.out | apply wA | apply wN | apply wD | refine below_set ?_ (IsS62.ge HI542.out) | refine below_set ?_ GE547.out | refine below_set ?_ GE569.out) | exact HB.out))))
        have n4_ := aM (blk_below (g := gb547) (o := .cells #[.slice Ao52 x548000_1.length co52] 24 (0, 0)) (by (with_reducible repeat (first | refine bN ?_ _ | refine bD ?_ | refine bA ?_ _)); exact BK547.out) hb)
        have n5_ := aM (IsS62.below (by repeat (first | (with_reducible first | exact HI542.out | apply IsS62.alloc | apply IsS62.drewN | apply IsS62.drew | apply IsS62.set_1 | refine IsS62.far ?_ NB542_547.out _ | refine IsS62.far ?_ NB542_569.out _) | exact HI542.out)) hb)
        have n6_ := aM (blk_below (g := gb569) (o := .cells #[.slice none 0 0] 24 (0, 0)) (by (with_reducible repeat (first | refine bN ?_ _ | refine bD ?_ | refine bA ?_ _)); exact BK569.out) hb)
        have n7_ := aM (below_step (by repeat (first | (with_reducible first | exact HB.out | apply wA | apply wN | apply wD | refine below_set ?_ (IsS62.ge HI542.out) | refine below_set ?_ GE547.out | refine below_set ?_ GE569.out) | exact HB.out)) hb)
        clear HO_548000
        clear HO559
        clear HO563
        clear BK547
        clear HI542
        clear BK569
        clear HB
        have HO_548000 := n0_
        have HO559 := n1_
        have HO563 := n2_
        have HO567 := n3_
        have BK547 := n4_
        have HI542 := n5_
        have BK569 := n6_
        have HB := n7_
        clear n0_ n1_ n2_ n3_ n4_ n5_ n6_ n7_
        (try clear hb)
        (try clear hb2)
        (try clear hk)
        (try clear hi)
        (try clear ho0)
        refine hK.out _ _ ((blk_cell BK547.out 0).trans rfl) (fun hHeld => ?_)
        clear hK K
        refine norm_ (a' := ?_) ?_ ?_
        rotate_left
        ·show Act.put _ (some 65) _ = _
         simp only [Act.put, List.setIfInBounds_toArray, List.set_cons_zero, List.set_cons_succ, i64_w, i32_w]
         rfl
        refine pure_ (i := 5) (N := some 60) (v := ?_) (a' := ?_) #[true, true, true, true, true, true, false, false, true, false, false] rfl rfl (any_of HT_.out (by kernel_rfl)) (fun _ _ _ h => h) (Or.inl ⟨by rfl, ?_⟩) ?_ ?_
        rotate_left
        ·intro w'
         go_simp
         with_reducible rfl
        rotate_left
        ·simp only [Act.put, List.setIfInBounds_toArray, List.set_cons_zero, List.set_cons_succ, i64_w, i32_w]
         rfl
        refine pure_ (i := 6) (N := some 66) (v := ?_) (a' := ?_) #[true, true, true, true, true, true, true, false, true, false, false] rfl rfl (any_of HT_.out (by kernel_rfl)) (fun _ _ _ h => h) (Or.inl ⟨by rfl, ?_⟩) ?_ ?_
        rotate_left
        ·intro w'
         go_simp
         with_reducible rfl
        rotate_left
        ·simp only [Act.put, List.setIfInBounds_toArray, List.set_cons_zero, List.set_cons_succ, i64_w, i32_w]
         rfl
        refine pure_ (i := 7) (N := some 67) (v := ?_) (a' := ?_) #[true, true, true, true, true, true, true, true, true, false, false] rfl rfl (any_of HT_.out (by kernel_rfl)) (fun _ _ _ h => h) (Or.inl ⟨by rfl, ?_⟩) ?_ ?_
        rotate_left
        ·intro w'
         go_simp
         with_reducible rfl
        rotate_left
        ·simp only [Act.put, List.setIfInBounds_toArray, List.set_cons_zero, List.set_cons_succ, i64_w, i32_w]
         rfl
        exact norm_ (by simp only [putAll, Act.put, List.setIfInBounds_toArray, List.set_cons_zero, List.set_cons_succ]) (hCont (.slice Ao57 t561.length co57, v566, gb569) _ ⟨hHeld, (by (with_reducible repeat (first | apply Kd.R_alloc | apply Kd.R_drewN | apply Kd.R_drew)); exact Kd.R_mono HO559.out (fun _ hk => hk.2)), (by (with_reducible repeat (first | apply Kd.R_alloc | apply Kd.R_drewN | apply Kd.R_drew)); exact Kd.R_mono HO563.out (fun _ hk => hk.2)), (by (with_reducible repeat (first | apply Kd.N_alloc | apply Kd.N_drewN | apply Kd.N_drew)); exact Kd.N_mono HO567.out (fun _ hk => ⟨hk.2.1, ⟨hk.2.2.1, ⟨hk.1, ⟨hk.2.2.2.2.2, ⟨hk.2.2.2.1, hk.2.2.2.2.1⟩⟩⟩⟩⟩)), (by (with_reducible repeat (first | apply Kd.N_alloc | apply Kd.N_drewN | apply Kd.N_drew)); exact Kd.N_mono HO_548000.out (fun _ hk => ⟨hk.1.1.1.2, ⟨hk.1.1.2, ⟨hk.2, ⟨hk.1.1.1.1.2, ⟨hk.1.1.1.1.1, hk.1.2⟩⟩⟩⟩⟩)), (by (with_reducible repeat (first | refine bN ?_ _ | refine bD ?_ | refine bA ?_ _)); exact BK547.out), (by (with_reducible repeat (first | refine bN ?_ _ | refine bD ?_ | refine bA ?_ _)); exact BK569.out), GW569.out, GE569.out, NB542_569.out, NB569_542.out, NB547_569.out, NB569_547.out, (by repeat (first | (with_reducible first | exact HI542.out | apply IsS62.alloc | apply IsS62.drewN | apply IsS62.drew | apply IsS62.set_1 | refine IsS62.far ?_ NB542_547.out _ | refine IsS62.far ?_ NB542_569.out _) | exact HI542.out)), (by repeat (first | (with_reducible first | exact HB.out | apply wA | apply wN | apply wD | refine below_set ?_ (IsS62.ge HI542.out) | refine below_set ?_ GE547.out | refine below_set ?_ GE569.out) | exact HB.out))⟩)
      ·skip
       refine box_step ?hg (N := 17) ?hd (cs := #[.slice none 0 0]) (t := 24) ?hr ?_; (case hd => rfl); (case hg => rfl); (case hr => first | (go_simp; done) | (go_simp; rfl))
       intro gb569 hg w55 hbox hb
       have n0_ := aM (Kd.N_below (Kd.N_elderB (by (with_reducible repeat (first | apply Kd.N_alloc | apply Kd.N_drewN | apply Kd.N_drew)); exact HO_548000.out) gb569 (Nat.le_of_eq hg.symm)) hb)
       have n1_ := aM (Kd.R_below (by (with_reducible repeat (first | apply Kd.R_alloc | apply Kd.R_drewN | apply Kd.R_drew)); exact HO559.out) hb)
       have n2_ := aM (blk_below (g := gb547) (o := .cells #[.slice Ao52 x548000_1.length co52] 24 (0, 0)) (by (with_reducible repeat (first | refine bN ?_ _ | refine bD ?_ | refine bA ?_ _)); exact BK547.out) hb)
       have n3_ := aM (IsS62.below (by repeat (first | (with_reducible first | exact HI542.out | apply IsS62.alloc | apply IsS62.drewN | apply IsS62.drew | apply IsS62.set_1 | refine IsS62.far ?_ NB542_547.out _) | exact HI542.out)) hb)
       have n4_ := aM (below_step (by repeat (first | (with_reducible first | exact HB.out | apply wA | apply wN | apply wD | refine below_set ?_ (IsS62.ge HI542.out) | refine below_set ?_ GE547.out) | exact HB.out)) hb)
       have n5_ := aM (hbox)
       have n6_ := aM ((by rw [hg]; exact (below_size (by repeat (first | (with_reducible first | exact HB.out | apply wA | apply wN | apply wD | refine below_set ?_ (IsS62.ge HI542.out) | refine below_set ?_ GE547.out) | exact HB.out))) : w.heap.size ≤ gb569))
       have n7_ := aM ((by rw [hg]; exact (below_size (by repeat (first | (with_reducible first | exact HB.out | apply wA | apply wN | apply wD | refine below_set ?_ (IsS62.ge HI542.out) | refine below_set ?_ GE547.out) | exact HB.out))) : w.heap.size ≤ gb569))
       have n8_ := aM ((by rw [hg]; exact Nat.ne_of_lt (blk_lt (g := gb547) (o := .cells #[.slice Ao52 x548000_1.length co52] 24 (0, 0)) (by (with_reducible repeat (first | refine bN ?_ _ | refine bD ?_ | refine bA ?_ _)); exact BK547.out)) : gb547 ≠ gb569))
       have n9_ := aM ((by rw [hg]; exact Nat.ne_of_gt (blk_lt (g := gb547) (o := .cells #[.slice Ao52 x548000_1.length co52] 24 (0, 0)) (by (with_reducible repeat (first | refine bN ?_ _ | refine bD ?_ | refine bA ?_ _)); exact BK547.out)) : gb569 ≠ gb547))
       have n10_ := aM ((by rw [hg]; exact Nat.ne_of_lt (IsS62.lt (show IsS62 w _ g542 t540 x543001_1 from by repeat (first | (with_reducible first | exact HI542.out | apply IsS62.alloc | apply IsS62.drewN | apply IsS62.drew | apply IsS62.set_1 | refine IsS62.far ?_ NB542_547.out _) | exact HI542.out))) : g542 ≠ gb569))
       have n11_ := aM ((by rw [hg]; exact Nat.ne_of_gt (IsS62.lt (show IsS62 w _ g542 t540 x543001_1 from by repeat (first | (with_reducible first | exact HI542.out | apply IsS62.alloc | apply IsS62.drewN | apply IsS62.drew | apply IsS62.set_1 | refine IsS62.far ?_ NB542_547.out _) | exact HI542.out))) : gb569 ≠ g542))
       clear HO_548000
       clear HO559
       clear BK547
       clear HI542
       clear HB
       have HO_548000 := n0_
       have HO559 := n1_
       have BK547 := n2_
       have HI542 := n3_
       have HB := n4_
       have BK569 := n5_
       have GW569 := n6_
       have GE569 := n7_
       have NB547_569 := n8_
       have NB569_547 := n9_
       have NB542_569 := n10_
       have NB569_542 := n11_
       clear n0_ n1_ n2_ n3_ n4_ n5_ n6_ n7_ n8_ n9_ n10_ n11_
       clear hb hbox hg
       refine hK.out _ _ ((blk_cell BK547.out 0).trans rfl) (fun hHeld => ?_)
       clear hK K
       refine norm_ (a' := ?_) ?_ ?_
       rotate_left
       ·show Act.put _ (some 17) _ = _
        simp only [Act.put, List.setIfInBounds_toArray, List.set_cons_zero, List.set_cons_succ, i64_w, i32_w]
        rfl
       refine one_ (i := 3) (N := some 64) #[true, true, true, true, false, false, false, false, true, false, false] rfl rfl (one_of HT_.out (by kernel_rfl)) (by decide) (fun K hK => ?_)
       refine goes_ Try.func23 (by kernel_rfl) rfl #[.pointer (some ⟨g542, 0, none⟩), .int .i64 20] (by rfl) rfl rfl (by (try simp only [List.map_toArray, List.map_cons, List.map_nil]); first | done | rfl | (simp only [List.length_drop, List.length_take]; rfl)) ?_
       with_reducible refine (rollbacknetmake_Codes_Bytes.calls k1 g542 t540 x543001_1 20 t561 t564 w _ ?side1 ?side2 A43.out).mono ?_
       (case side1 => repeat (first | (with_reducible first | exact HI542.out | apply IsS62.alloc | apply IsS62.drewN | apply IsS62.drew | apply IsS62.set_1 | refine IsS62.far ?_ NB542_547.out _ | refine IsS62.far ?_ NB542_569.out _) | exact HI542.out))
       (case side2 => repeat (first | (with_reducible first | exact HB.out | apply wA | apply wN | apply wD | refine below_set ?_ (IsS62.ge HI542.out) | refine below_set ?_ GE547.out | refine below_set ?_ GE569.out) | exact HB.out))
       rintro e w56 ⟨v562, rfl, ho0, hi, hb, hk⟩
       refine ⟨_, rfl, ?_⟩
       have n0_ := aM (Kd.N_mono (Kd.N_told (Kd.N_oldK (Kd.N_mono (ok := fun k_ => (((k_ ≠ gb547 ∧ k_ ≠ g542) ∧ some k_ ≠ (v558 : Value).ownBlock) ∧ k_ ≠ gb569)) (by (with_reducible repeat (first | apply Kd.N_alloc | apply Kd.N_drewN | apply Kd.N_drew)); exact HO_548000.out) (fun k_ hk_ => (⟨hk_, hk_.1.1.2⟩ : _ ∧ k_ ≠ g542))) hk) (Kd.R_base ho0)) (fun _ h_ => h_.1))
       have n1_ := aM (KeepBut.blk hk (g' := gb547) (o := .cells #[.slice Ao52 x548000_1.length co52] 24 (0, 0)) (by (with_reducible repeat (first | refine bN ?_ _ | refine bD ?_ | refine bA ?_ _)); exact BK547.out) NB547_542.out (by simp))
       have n2_ := aM (Kd.R_mono (Kd.R_told (Kd.R_oldK (IsS62.apart (show IsS62 w _ g542 t540 x543001_1 from by repeat (first | (with_reducible first | exact HI542.out | apply IsS62.alloc | apply IsS62.drewN | apply IsS62.drew | apply IsS62.set_1 | refine IsS62.far ?_ NB542_547.out _ | refine IsS62.far ?_ NB542_569.out _) | exact HI542.out)) (by (with_reducible repeat (first | apply Kd.R_alloc | apply Kd.R_drewN | apply Kd.R_drew)); exact HO559.out) (by decide)) hk) (Kd.R_base ho0)) (fun _ h_ => h_.1))
       have n3_ := aM (KeepBut.blk hk (g' := gb569) (o := .cells #[.slice none 0 0] 24 (0, 0)) (by (with_reducible repeat (first | refine bN ?_ _ | refine bD ?_ | refine bA ?_ _)); exact BK569.out) NB569_542.out (by simp))
       have n4_ := aM (Kd.R_lower (Kd.R_new' ho0 (Kd.R_lt (by (with_reducible repeat (first | apply Kd.R_alloc | apply Kd.R_drewN | apply Kd.R_drew)); exact HO559.out))) (below_size (by repeat (first | (with_reducible first | exact HB.out | apply wA | apply wN | apply wD | refine below_set ?_ (IsS62.ge HI542.out) | refine below_set ?_ GE547.out | refine below_set ?_ GE569.out) | exact HB.out))))
       have n5_ := aM (hb)
       have n6_ := aM (hi)
       clear HO_548000
       clear BK547
       clear HO559
       clear BK569
       clear HB
       clear HI542
       have HO_548000 := n0_
       have BK547 := n1_
       have HO559 := n2_
       have BK569 := n3_
       have HO563 := n4_
       have HB := n5_
       have HI542 := n6_
       clear n0_ n1_ n2_ n3_ n4_ n5_ n6_
       (try clear hb)
       (try clear hb2)
       (try clear hk)
       (try clear hi)
       (try clear ho0)
       obtain ⟨Ao57, co57, eo57⟩ := Kd.R_slice HO563.out
       (first | subst eo57 | (injection eo57 with f1_ f2_ f3_; have f4_ := f1_.symm; have f5_ := f3_.symm; clear f1_ f2_ f3_; subst f4_; subst f5_))
       refine hK.out _ _ ((blk_cell BK547.out 0).trans rfl) (fun hHeld => ?_)
       clear hK K
       refine norm_ (a' := ?_) ?_ ?_
       rotate_left
       ·show Act.put _ (some 64) _ = _
        simp only [Act.put, List.setIfInBounds_toArray, List.set_cons_zero, List.set_cons_succ, i64_w, i32_w]
        rfl
       refine one_ (i := 4) (N := some 65) #[true, true, true, true, true, false, false, false, true, false, false] rfl rfl (one_of HT_.out (by kernel_rfl)) (by decide) (fun K hK => ?_)
       refine goes_ Try.func14 (by kernel_rfl) rfl #[.agg #[.slice Ao52 x548000_1.length co52], .int .i64 (Int.tmod (wrap64 (a1)) 4), .slice Ao57 t561.length co57] (by rfl) rfl rfl (by (try simp only [List.map_toArray, List.map_cons, List.map_nil]); first | done | rfl | (simp only [List.length_drop, List.length_take]; rfl)) ?_
       with_reducible refine (disk_Append.calls k1 _ _ x548000_1 (Int.tmod (wrap64 (a1)) 4) _ _ t561 t565 t568 _ ?side1 ?side2 ?side3 ?side4 A44.out).mono ?_
       (case side1 => repeat (first | exact (Kd.N_reads' HO_548000.out).2.2 | (with_reducible refine Kd.C_alloc ?_ _) | (with_reducible refine Kd.C_drewN ?_ _) | (with_reducible refine Kd.C_drew ?_)))
       (case side2 => exact (Kd.N_reads' HO_548000.out).2.1)
       (case side3 => repeat (first | exact (Kd.R_reads' HO563.out).2.2 | (with_reducible refine Kd.C_alloc ?_ _) | (with_reducible refine Kd.C_drewN ?_ _) | (with_reducible refine Kd.C_drew ?_)))
       (case side4 => exact (Kd.R_reads' HO563.out).2.1)
       rintro e w58 ⟨v566, rfl, ho0, hb⟩
       refine ⟨_, rfl, ?_⟩
       have n0_ := aM (Kd.N_elder' (by (with_reducible repeat (first | apply Kd.N_alloc | apply Kd.N_drewN | apply Kd.N_drew)); exact HO_548000.out) (by first | exact Kd.N_base ho0 | exact Kd.N_base (Kd.S_N ho0)) hb)
       have n1_ := aM (Kd.R_below (by (with_reducible repeat (first | apply Kd.R_alloc | apply Kd.R_drewN | apply Kd.R_drew)); exact HO559.out) hb)
       have n2_ := aM (Kd.R_below (by (with_reducible repeat (first | apply Kd.R_alloc | apply Kd.R_drewN | apply Kd.R_drew)); exact HO563.out) hb)
       have n3_ := aM (Kd.N_lower (Kd.N_mono (ok' := fun k_ => some k_ ≠ (.slice Ao52 x548000_1.length co52 : Value).ownBlock ∧ some k_ ≠ (v558 : Value).ownBlock ∧ some k_ ≠ (.slice Ao57 t561.length co57 : Value).ownBlock ∧ k_ ≠ gb547 ∧ k_ ≠ gb569 ∧ k_ ≠ g542) (Kd.S_N (Kd.S_bound ho0)) (fun k_ hk_ => ⟨(Kd.fresh' (Kd.N_lt (by (with_reducible repeat (first | apply Kd.N_alloc | apply Kd.N_drewN | apply Kd.N_drew)); exact HO_548000.out)) k_ hk_.2.1), (Kd.fresh' (Kd.R_lt (by (with_reducible repeat (first | apply Kd.R_alloc | apply Kd.R_drewN | apply Kd.R_drew)); exact HO559.out)) k_ hk_.2.1), (Kd.fresh' (Kd.R_lt (by (with_reducible repeat (first | apply Kd.R_alloc | apply Kd.R_drewN | apply Kd.R_drew)); exact HO563.out)) k_ hk_.2.1), (Kd.freshB (g := gb547) (o := .cells #[.slice Ao52 x548000_1.length co52] 24 (0, 0)) (by (with_reducible repeat (first | refine bN ?_ _ | refine bD ?_ | refine bA ?_ _)); exact BK547.out) k_ hk_.2.1), (Kd.freshB (g := gb569) (o := .cells #[.slice none 0 0] 24 (0, 0)) (by (with_reducible repeat (first | refine bN ?_ _ | refine bD ?_ | refine bA ?_ _)); exact BK569.out) k_ hk_.2.1), (IsS62.fresh (by repeat (first | (with_reducible first | exact HI542.out | apply IsS62.alloc | apply IsS62.drewN | apply IsS62.drew | apply IsS62.set_1 | refine IsS62.far ?_ NB542_547.out _ | refine IsS62.far ?_ NB542_569.out _) | exact HI542.out)) k_ hk_.2.1)⟩)) (below_size (by repeat (first | (with_reducible first | exact HB.out | apply wA | apply wN | apply wD | refine below_set ?_ (IsS62.ge HI542.out) | refine below_set ?_ GE547.out | refine below_set ?_ GE569.out) | exact HB.out))))
       have n4_ := aM (blk_below (g := gb547) (o := .cells #[.slice Ao52 x548000_1.length co52] 24 (0, 0)) (by (with_reducible repeat (first | refine bN ?_ _ | refine bD ?_ | refine bA ?_ _)); exact BK547.out) hb)
       have n5_ := aM (IsS62.below (by repeat (first | (with_reducible first | exact HI542.out | apply IsS62.alloc | apply IsS62.drewN | apply IsS62.drew | apply IsS62.set_1 | refine IsS62.far ?_ NB542_547.out _ | refine IsS62.far ?_ NB542_569.out _) | exact HI542.out)) hb)
       have n6_ := aM (blk_below (g := gb569) (o := .cells #[.slice none 0 0] 24 (0, 0)) (by (with_reducible repeat (first | refine bN ?_ _ | refine bD ?_ | refine bA ?_ _)); exact BK569.out) hb)
       have n7_ := aM (below_step (by repeat (first | (with_reducible first | exact HB.out | apply wA | apply wN | apply wD | refine below_set ?_ (IsS62.ge HI542.out) | refine below_set ?_ GE547.out | refine below_set ?_ GE569.out) | exact HB.out)) hb)
       clear HO_548000
       clear HO559
       clear HO563
       clear BK547
       clear HI542
       clear BK569
       clear HB
       have HO_548000 := n0_
       have HO559 := n1_
       have HO563 := n2_
       have HO567 := n3_
       have BK547 := n4_
       have HI542 := n5_
       have BK569 := n6_
       have HB := n7_
       clear n0_ n1_ n2_ n3_ n4_ n5_ n6_ n7_
       (try clear hb)
       (try clear hb2)
       (try clear hk)
       (try clear hi)
       (try clear ho0)
       refine hK.out _ _ ((blk_cell BK547.out 0).trans rfl) (fun hHeld => ?_)
       clear hK K
       refine norm_ (a' := ?_) ?_ ?_
       rotate_left
       ·show Act.put _ (some 65) _ = _
        simp only [Act.put, List.setIfInBounds_toArray, List.set_cons_zero, List.set_cons_succ, i64_w, i32_w]
        rfl
       refine pure_ (i := 5) (N := some 60) (v := ?_) (a' := ?_) #[true, true, true, true, true, true, false, false, true, false, false] rfl rfl (any_of HT_.out (by kernel_rfl)) (fun _ _ _ h => h) (Or.inl ⟨by rfl, ?_⟩) ?_ ?_
       rotate_left
       ·intro w'
        go_simp
        with_reducible rfl
       rotate_left
       ·simp only [Act.put, List.setIfInBounds_toArray, List.set_cons_zero, List.set_cons_succ, i64_w, i32_w]
        rfl
       refine pure_ (i := 6) (N := some 66) (v := ?_) (a' := ?_) #[true, true, true, true, true, true, true, false, true, false, false] rfl rfl (any_of HT_.out (by kernel_rfl)) (fun _ _ _ h => h) (Or.inl ⟨by rfl, ?_⟩) ?_ ?_
       rotate_left
       ·intro w'
        go_simp
        with_reducible rfl
       rotate_left
       ·simp only [Act.put, List.setIfInBounds_toArray, List.set_cons_zero, List.set_cons_succ, i64_w, i32_w]
        rfl
       refine pure_ (i := 7) (N := some 67) (v := ?_) (a' := ?_) #[true, true, true, true, true, true, true, true, true, false, false] rfl rfl (any_of HT_.out (by kernel_rfl)) (fun _ _ _ h => h) (Or.inl ⟨by rfl, ?_⟩) ?_ ?_
       rotate_left
       ·intro w'
        go_simp
        with_reducible rfl
       rotate_left
       ·simp only [Act.put, List.setIfInBounds_toArray, List.set_cons_zero, List.set_cons_succ, i64_w, i32_w]
        rfl
       exact norm_ (by simp only [putAll, Act.put, List.setIfInBounds_toArray, List.set_cons_zero, List.set_cons_succ]) (hCont (.slice Ao57 t561.length co57, v566, gb569) _ ⟨hHeld, (by (with_reducible repeat (first | apply Kd.R_alloc | apply Kd.R_drewN | apply Kd.R_drew)); exact Kd.R_mono HO559.out (fun _ hk => hk.2)), (by (with_reducible repeat (first | apply Kd.R_alloc | apply Kd.R_drewN | apply Kd.R_drew)); exact Kd.R_mono HO563.out (fun _ hk => hk.2)), (by (with_reducible repeat (first | apply Kd.N_alloc | apply Kd.N_drewN | apply Kd.N_drew)); exact Kd.N_mono HO567.out (fun _ hk => ⟨hk.2.1, ⟨hk.2.2.1, ⟨hk.1, ⟨hk.2.2.2.2.2, ⟨hk.2.2.2.1, hk.2.2.2.2.1⟩⟩⟩⟩⟩)), (by (with_reducible repeat (first | apply Kd.N_alloc | apply Kd.N_drewN | apply Kd.N_drew)); exact Kd.N_mono HO_548000.out (fun _ hk => ⟨hk.1.1.1.2, ⟨hk.1.2, ⟨hk.2, ⟨hk.1.1.1.1.2, ⟨hk.1.1.1.1.1, hk.1.1.2⟩⟩⟩⟩⟩)), (by (with_reducible repeat (first | refine bN ?_ _ | refine bD ?_ | refine bA ?_ _)); exact BK547.out), (by (with_reducible repeat (first | refine bN ?_ _ | refine bD ?_ | refine bA ?_ _)); exact BK569.out), GW569.out, GE569.out, NB542_569.out, NB569_542.out, NB547_569.out, NB569_547.out, (by repeat (first | (with_reducible first | exact HI542.out | apply IsS62.alloc | apply IsS62.drewN | apply IsS62.drew | apply IsS62.set_1 | refine IsS62.far ?_ NB542_547.out _ | refine IsS62.far ?_ NB542_569.out _) | exact HI542.out)), (by repeat (first | (with_reducible first | exact HB.out | apply wA | apply wN | apply wD | refine below_set ?_ (IsS62.ge HI542.out) | refine below_set ?_ GE547.out | refine below_set ?_ GE569.out) | exact HB.out))⟩)
     rintro ⟨v562, v566, gb569⟩ w59 ⟨hS_, h0_, h1_, h2_, h3_, h4_, h5_, h6_, h7_, h8_, h9_, h10_, h11_, h12_, h13_⟩
     have n0_ : Aside0 (Kd.R (Kd.int .u8) 5 w59 w.heap.size (fun k_ => some k_ ≠ (v562 : Value).ownBlock) v558 t557) := ⟨h0_⟩
     have n1_ : Aside0 (Kd.R (Kd.int .u8) 5 w59 w.heap.size (fun k_ => some k_ ≠ (v558 : Value).ownBlock) v562 t561) := ⟨h1_⟩
     have n2_ : Aside0 (Kd.N k48 48 w59 w.heap.size (fun k_ => some k_ ≠ (v558 : Value).ownBlock ∧ some k_ ≠ (v562 : Value).ownBlock ∧ some k_ ≠ (.slice Ao52 x548000_1.length co52 : Value).ownBlock ∧ k_ ≠ g542 ∧ k_ ≠ gb547 ∧ k_ ≠ gb569) v566 t565) := ⟨h2_⟩
     have n3_ : Aside0 (Kd.N k48 48 w59 w.heap.size (fun k_ => some k_ ≠ (v558 : Value).ownBlock ∧ some k_ ≠ (v562 : Value).ownBlock ∧ some k_ ≠ (v566 : Value).ownBlock ∧ k_ ≠ g542 ∧ k_ ≠ gb547 ∧ k_ ≠ gb569) (.slice Ao52 x548000_1.length co52) x548000_1) := ⟨h3_⟩
     have n4_ : Aside0 (w59.heap[gb547]? = some (.cells #[.slice Ao52 x548000_1.length co52] 24 (0, 0))) := ⟨h4_⟩
     have n5_ : Aside0 (w59.heap[gb569]? = some (.cells #[.slice none 0 0] 24 (0, 0))) := ⟨h5_⟩
     have n6_ : Aside0 (w.heap.size ≤ gb569) := ⟨h6_⟩
     have n7_ : Aside0 (w.heap.size ≤ gb569) := ⟨h7_⟩
     have n8_ : Aside0 (g542 ≠ gb569) := ⟨h8_⟩
     have n9_ : Aside0 (gb569 ≠ g542) := ⟨h9_⟩
     have n10_ : Aside0 (gb547 ≠ gb569) := ⟨h10_⟩
     have n11_ : Aside0 (gb569 ≠ gb547) := ⟨h11_⟩
     have n12_ : Aside0 (IsS62 w w59 g542 t540 t564) := ⟨h12_⟩
     have n13_ : Aside0 (Below w.heap.size w w59) := ⟨h13_⟩
     clear HO_548000
     clear HO559
     clear BK547
     clear HI542
     clear HB
     clear h0_ h1_ h2_ h3_ h4_ h5_ h6_ h7_ h8_ h9_ h10_ h11_ h12_ h13_
     have HO559 := n0_
     have HO563 := n1_
     have HO567 := n2_
     have HO_548000 := n3_
     have BK547 := n4_
     have BK569 := n5_
     have GW569 := n6_
     have GE569 := n7_
     have NB542_569 := n8_
     have NB569_542 := n9_
     have NB547_569 := n10_
     have NB569_547 := n11_
     have HI542 := n12_
     have HB := n13_
     clear n0_ n1_ n2_ n3_ n4_ n5_ n6_ n7_ n8_ n9_ n10_ n11_ n12_ n13_
     have hHeld : w59.cell? ⟨gb547, 0, none⟩ = some (.slice Ao52 x548000_1.length co52) := hS_
     obtain ⟨Ao60, co60, eo60⟩ := Kd.N_slice HO567.out
     (first | subst eo60 | (injection eo60 with f1_ f2_ f3_; have f4_ := f1_.symm; have f5_ := f3_.symm; clear f1_ f2_ f3_; subst f4_; subst f5_))
     refine norm_ (a' := ?_) ?_ ?_
     rotate_left
     ·simp only [putAll, Act.put, List.setIfInBounds_toArray, List.set_cons_zero, List.set_cons_succ]
      rfl
     refine one_ (i := 9) (N := none) #[true, true, true, true, true, true, true, true, true, true, false] rfl rfl (one_of HT_.out (by kernel_rfl)) (by decide) (fun K hK => ?_)
     have hs61 : w59.cell? ⟨gb569, 0, none⟩ = some (.slice none 0 0) := (blk_cell BK569.out 0).trans rfl
     have hfs61 := blk_frozen BK569.out 0
     have hns61_0 := NB547_569.out
     have hms61_0 := NB569_547.out
     refine skip_ (w1 := ?_) (by rfl) rfl ?_ ?_
     rotate_left
     ·go_simp
      rfl
     refine hK.out _ _ (((cell_far (p := ⟨gb569, _, none⟩) NB547_569.out _).trans (hHeld))) (fun hHeld => ?_)
     clear hK K
     refine pure_ (i := 10) (N := some 18) (v := ?_) (a' := ?_) #[true, true, true, true, true, true, true, true, true, true, true] rfl rfl (any_of HT_.out (by kernel_rfl)) (fun _ _ _ h => h) (Or.inl ⟨by rfl, ?_⟩) ?_ ?_
     rotate_left
     ·intro w'
      go_simp
      with_reducible rfl
     rotate_left
     ·simp only [Act.put, List.setIfInBounds_toArray, List.set_cons_zero, List.set_cons_succ, i64_w, i32_w]
      rfl
     refine done_ (done_of HT_.out (by kernel_rfl)) ?_
     have hnb62 := NB569_547.out
     have hnc62 := NB547_569.out
     have hnb63 := NB569_542.out
     have hnc63 := NB542_569.out
     have hcz64_0 : w59.cell? ⟨gb569, 0, none⟩ = some (.slice none 0 0) := (blk_cell BK569.out 0).trans rfl
     have hfz64_0 := blk_frozen BK569.out 0
     try go_wp2_with (first | ((with_reducible refine gate_callee (f := 17) rfl ?_); refine goesL_ (some 71) rfl rfl Try.func17 (by kernel_rfl) rfl #[.agg #[.slice Ao60 t565.length co60], .int .i64 (Int.tmod (wrap64 (a1)) 4)] rfl (by (try simp only [List.map_toArray, List.map_cons, List.map_nil]); first | done | rfl | (simp only [List.length_drop, List.length_take]; rfl)) ?_; (with_reducible refine (disk_Sync.calls k1 _ _ t565 (Int.tmod (wrap64 (a1)) 4) t570 t573 _ ?side1 ?side2 A45.out).mono ?_); (case side1 => refine (Kd.N_reads' (e := 48) (base := w.heap.size) (ok := fun k_ => (some k_ ≠ (v558 : Value).ownBlock ∧ (some k_ ≠ (v562 : Value).ownBlock ∧ (some k_ ≠ (.slice Ao52 x548000_1.length co52 : Value).ownBlock ∧ (k_ ≠ g542 ∧ (k_ ≠ gb547 ∧ k_ ≠ gb569)))))) (n := t565.length) (c := co60) ?_).2.2; exact (by (with_reducible repeat (first | apply Kd.N_alloc | apply Kd.N_drewN | apply Kd.N_drew)); exact (Kd.N_mono (Kd.N_far (p := ⟨gb569, 0, none⟩) (Kd.N_mono HO567.out (fun k_ hk => (⟨hk, hk.2.2.2.2.2⟩ : _ ∧ k_ ≠ gb569))) (fun _ hk => hk.2) (.slice Ao60 t565.length co60)) (fun _ h_ => h_.1)))); (case side2 => exact (Kd.N_reads' HO567.out).2.1); rintro e w65 ⟨v571, rfl, ho0, hb⟩; refine ⟨_, rfl, ?_⟩; have n0_ := aM (Kd.N_elder' (by (with_reducible repeat (first | apply Kd.N_alloc | apply Kd.N_drewN | apply Kd.N_drew)); exact (Kd.N_mono (Kd.N_far (p := ⟨gb569, 0, none⟩) (Kd.N_mono HO_548000.out (fun k_ hk => (⟨hk, hk.2.2.2.2.2⟩ : _ ∧ k_ ≠ gb569))) (fun _ hk => hk.2) (.slice Ao60 t565.length co60)) (fun _ h_ => h_.1))) (by first | exact Kd.N_base ho0 | exact Kd.N_base (Kd.S_N ho0)) hb); have n1_ := aM (Kd.R_below (by (with_reducible repeat (first | apply Kd.R_alloc | apply Kd.R_drewN | apply Kd.R_drew)); exact (Kd.R_mono (Kd.R_far (p := ⟨gb569, 0, none⟩) (Kd.R_types HO559.out BK569.out (by decide)) (fun _ hk => hk.2) (.slice Ao60 t565.length co60)) (fun _ h_ => h_.1))) hb); have n2_ := aM (Kd.R_below (by (with_reducible repeat (first | apply Kd.R_alloc | apply Kd.R_drewN | apply Kd.R_drew)); exact (Kd.R_mono (Kd.R_far (p := ⟨gb569, 0, none⟩) (Kd.R_types HO563.out BK569.out (by decide)) (fun _ hk => hk.2) (.slice Ao60 t565.length co60)) (fun _ h_ => h_.1))) hb); have n3_ := aM (Kd.N_elder' (by (with_reducible repeat (first | apply Kd.N_alloc | apply Kd.N_drewN | apply Kd.N_drew)); exact (Kd.N_mono (Kd.N_far (p := ⟨gb569, 0, none⟩) (Kd.N_mono HO567.out (fun k_ hk => (⟨hk, hk.2.2.2.2.2⟩ : _ ∧ k_ ≠ gb569))) (fun _ hk => hk.2) (.slice Ao60 t565.length co60)) (fun _ h_ => h_.1))) (by first | exact Kd.N_base ho0 | exact Kd.N_base (Kd.S_N ho0)) hb); have n4_ := aM (Kd.N_lower (Kd.N_mono (ok' := fun k_ => some k_ ≠ (.slice Ao52 x548000_1.length co52 : Value).ownBlock ∧ some k_ ≠ (v558 : Value).ownBlock ∧ some k_ ≠ (v562 : Value).ownBlock ∧ some k_ ≠ (.slice Ao60 t565.length co60 : Value).ownBlock ∧ k_ ≠ gb547 ∧ k_ ≠ gb569 ∧ k_ ≠ g542) (Kd.S_N (Kd.S_bound ho0)) (fun k_ hk_ => ⟨(Kd.fresh' (Kd.N_lt (by (with_reducible repeat (first | apply Kd.N_alloc | apply Kd.N_drewN | apply Kd.N_drew)); exact (Kd.N_mono (Kd.N_far (p := ⟨gb569, 0, none⟩) (Kd.N_mono HO_548000.out (fun k_ hk => (⟨hk, hk.2.2.2.2.2⟩ : _ ∧ k_ ≠ gb569))) (fun _ hk => hk.2) (.slice Ao60 t565.length co60)) (fun _ h_ => h_.1)))) k_ hk_.2.1), (Kd.fresh' (Kd.R_lt (by (with_reducible repeat (first | apply Kd.R_alloc | apply Kd.R_drewN | apply Kd.R_drew)); exact (Kd.R_mono (Kd.R_far (p := ⟨gb569, 0, none⟩) (Kd.R_types HO559.out BK569.out (by decide)) (fun _ hk => hk.2) (.slice Ao60 t565.length co60)) (fun _ h_ => h_.1)))) k_ hk_.2.1), (Kd.fresh' (Kd.R_lt (by (with_reducible repeat (first | apply Kd.R_alloc | apply Kd.R_drewN | apply Kd.R_drew)); exact (Kd.R_mono (Kd.R_far (p := ⟨gb569, 0, none⟩) (Kd.R_types HO563.out BK569.out (by decide)) (fun _ hk => hk.2) (.slice Ao60 t565.length co60)) (fun _ h_ => h_.1)))) k_ hk_.2.1), (Kd.fresh' (Kd.N_lt (by (with_reducible repeat (first | apply Kd.N_alloc | apply Kd.N_drewN | apply Kd.N_drew)); exact (Kd.N_mono (Kd.N_far (p := ⟨gb569, 0, none⟩) (Kd.N_mono HO567.out (fun k_ hk => (⟨hk, hk.2.2.2.2.2⟩ : _ ∧ k_ ≠ gb569))) (fun _ hk => hk.2) (.slice Ao60 t565.length co60)) (fun _ h_ => h_.1)))) k_ hk_.2.1), (Kd.freshB (g := gb547) (o := .cells #[.slice Ao52 x548000_1.length co52] 24 (0, 0)) (by (with_reducible repeat (first | refine bN ?_ _ | refine bD ?_ | refine bA ?_ _)); refine blk_far ?_ NB547_569.out _; (with_reducible repeat (first | refine bN ?_ _ | refine bD ?_ | refine bA ?_ _)); exact BK547.out) k_ hk_.2.1), (Kd.freshB (g := gb569) (o := .cells #[.slice Ao60 t565.length co60] 24 (0, 0)) (by (with_reducible repeat (first | refine bN ?_ _ | refine bD ?_ | refine bA ?_ _)); refine blk_put (cs := #[.slice none 0 0]) ?_ 0 _ rfl; (with_reducible repeat (first | refine bN ?_ _ | refine bD ?_ | refine bA ?_ _)); exact BK569.out) k_ hk_.2.1), (IsS62.fresh (by repeat (first | (with_reducible first | exact HI542.out | apply IsS62.alloc | apply IsS62.drewN | apply IsS62.drew | apply IsS62.set_1 | refine IsS62.far ?_ NB542_547.out _ | refine IsS62.far ?_ NB542_569.out _) | exact HI542.out)) k_ hk_.2.1)⟩)) (below_size (by repeat (first | (with_reducible first | exact HB.out | apply wA | apply wN | apply wD | refine below_set ?_ (IsS62.ge HI542.out) | refine below_set ?_ GE547.out | refine below_set ?_ GE569.out) | exact HB.out)))); have n5_ := aM (blk_below (g := gb547) (o := .cells #[.slice Ao52 x548000_1.length co52] 24 (0, 0)) (by (with_reducible repeat (first | refine bN ?_ _ | refine bD ?_ | refine bA ?_ _)); refine blk_far ?_ NB547_569.out _; (with_reducible repeat (first | refine bN ?_ _ | refine bD ?_ | refine bA ?_ _)); exact BK547.out) hb); have n6_ := aM (IsS62.below (show IsS62 w (w59.setCell ⟨gb569, 0, none⟩ (.slice Ao60 t565.length co60)) g542 t540 t564 from by repeat (first | (with_reducible first | exact HI542.out | apply IsS62.alloc | apply IsS62.drewN | apply IsS62.drew | apply IsS62.set_1 | refine IsS62.far ?_ NB542_547.out _ | refine IsS62.far ?_ NB542_569.out _) | exact HI542.out)) hb); have n7_ := aM (blk_below (g := gb569) (o := .cells #[.slice Ao60 t565.length co60] 24 (0, 0)) (by (with_reducible repeat (first | refine bN ?_ _ | refine bD ?_ | refine bA ?_ _)); refine blk_put (cs := #[.slice none 0 0]) ?_ 0 _ rfl; (with_reducible repeat (first | refine bN ?_ _ | refine bD ?_ | refine bA ?_ _)); exact BK569.out) hb); have n8_ := aM (below_step (by repeat (first | (with_reducible first | exact HB.out | apply wA | apply wN | apply wD | refine below_set ?_ (IsS62.ge HI542.out) | refine below_set ?_ GE547.out | refine below_set ?_ GE569.out) | exact HB.out)) hb); clear HO_548000; clear HO559; clear HO563; clear HO567; clear BK547; clear HI542; clear BK569; clear HB; have HO_548000 := n0_; have HO559 := n1_; have HO563 := n2_; have HO567 := n3_; have HO572 := n4_; have BK547 := n5_; have HI542 := n6_; have BK569 := n7_; have HB := n8_; clear n0_ n1_ n2_ n3_ n4_ n5_ n6_ n7_ n8_; (try clear hb); (try clear hb2); (try clear hk); (try clear hi); (try clear ho0)) | ((with_reducible refine gate_dst (N := 19) rfl ?_); refine box_event ?hg (N := 19) ?hd (cs := #[.slice none 0 0]) (t := 24) ?hr ?_; (case hd => rfl); (case hg => rfl); (case hr => first | (go_simp; done) | (go_simp; rfl)); intro gb574 hg w66 hbox hb; have n0_ := aM (Kd.N_below (Kd.N_elderB (by (with_reducible repeat (first | apply Kd.N_alloc | apply Kd.N_drewN | apply Kd.N_drew)); exact HO_548000.out) gb574 (Nat.le_of_eq hg.symm)) hb); have n1_ := aM (Kd.R_below (by (with_reducible repeat (first | apply Kd.R_alloc | apply Kd.R_drewN | apply Kd.R_drew)); exact HO559.out) hb); have n2_ := aM (Kd.R_below (by (with_reducible repeat (first | apply Kd.R_alloc | apply Kd.R_drewN | apply Kd.R_drew)); exact HO563.out) hb); have n3_ := aM (Kd.N_below (Kd.N_elderB (by (with_reducible repeat (first | apply Kd.N_alloc | apply Kd.N_drewN | apply Kd.N_drew)); exact HO567.out) gb574 (Nat.le_of_eq hg.symm)) hb); have n4_ := aM (Kd.N_below (Kd.N_elderB (by (with_reducible repeat (first | apply Kd.N_alloc | apply Kd.N_drewN | apply Kd.N_drew)); exact HO572.out) gb574 (Nat.le_of_eq hg.symm)) hb); have n5_ := aM (blk_below (g := gb547) (o := .cells #[.slice Ao52 x548000_1.length co52] 24 (0, 0)) (by (with_reducible repeat (first | refine bN ?_ _ | refine bD ?_ | refine bA ?_ _)); exact BK547.out) hb); have n6_ := aM (IsS62.below (by repeat (first | (with_reducible first | exact HI542.out | apply IsS62.alloc | apply IsS62.drewN | apply IsS62.drew | apply IsS62.set_1 | refine IsS62.far ?_ NB542_547.out _ | refine IsS62.far ?_ NB542_569.out _) | exact HI542.out)) hb); have n7_ := aM (blk_below (g := gb569) (o := .cells #[.slice Ao60 t565.length co60] 24 (0, 0)) (by (with_reducible repeat (first | refine bN ?_ _ | refine bD ?_ | refine bA ?_ _)); exact BK569.out) hb); have n8_ := aM (below_step (by repeat (first | (with_reducible first | exact HB.out | apply wA | apply wN | apply wD | refine below_set ?_ (IsS62.ge HI542.out) | refine below_set ?_ GE547.out | refine below_set ?_ GE569.out) | exact HB.out)) hb); have n9_ := aM (hbox); have n10_ := aM ((by rw [hg]; exact (below_size (by repeat (first | (with_reducible first | exact HB.out | apply wA | apply wN | apply wD | refine below_set ?_ (IsS62.ge HI542.out) | refine below_set ?_ GE547.out | refine below_set ?_ GE569.out) | exact HB.out))) : w.heap.size ≤ gb574)); have n11_ := aM ((by rw [hg]; exact (below_size (by repeat (first | (with_reducible first | exact HB.out | apply wA | apply wN | apply wD | refine below_set ?_ (IsS62.ge HI542.out) | refine below_set ?_ GE547.out | refine below_set ?_ GE569.out) | exact HB.out))) : w.heap.size ≤ gb574)); have n12_ := aM ((by rw [hg]; exact Nat.ne_of_lt (blk_lt (g := gb547) (o := .cells #[.slice Ao52 x548000_1.length co52] 24 (0, 0)) (by (with_reducible repeat (first | refine bN ?_ _ | refine bD ?_ | refine bA ?_ _)); exact BK547.out)) : gb547 ≠ gb574)); have n13_ := aM ((by rw [hg]; exact Nat.ne_of_gt (blk_lt (g := gb547) (o := .cells #[.slice Ao52 x548000_1.length co52] 24 (0, 0)) (by (with_reducible repeat (first | refine bN ?_ _ | refine bD ?_ | refine bA ?_ _)); exact BK547.out)) : gb574 ≠ gb547)); have n14_ := aM ((by rw [hg]; exact Nat.ne_of_lt (blk_lt (g := gb569) (o := .cells #[.slice Ao60 t565.length co60] 24 (0, 0)) (by (with_reducible repeat (first | refine bN ?_ _ | refine bD ?_ | refine bA ?_ _)); exact BK569.out)) : gb569 ≠ gb574)); have n15_ := aM ((by rw [hg]; exact Nat.ne_of_gt (blk_lt (g := gb569) (o := .cells #[.slice Ao60 t565.length co60] 24 (0, 0)) (by (with_reducible repeat (first | refine bN ?_ _ | refine bD ?_ | refine bA ?_ _)); exact BK569.out)) : gb574 ≠ gb569)); have n16_ := aM ((by rw [hg]; exact Nat.ne_of_lt (IsS62.lt (show IsS62 w _ g542 t540 t564 from by repeat (first | (with_reducible first | exact HI542.out | apply IsS62.alloc | apply IsS62.drewN | apply IsS62.drew | apply IsS62.set_1 | refine IsS62.far ?_ NB542_547.out _ | refine IsS62.far ?_ NB542_569.out _) | exact HI542.out))) : g542 ≠ gb574)); have n17_ := aM ((by rw [hg]; exact Nat.ne_of_gt (IsS62.lt (show IsS62 w _ g542 t540 t564 from by repeat (first | (with_reducible first | exact HI542.out | apply IsS62.alloc | apply IsS62.drewN | apply IsS62.drew | apply IsS62.set_1 | refine IsS62.far ?_ NB542_547.out _ | refine IsS62.far ?_ NB542_569.out _) | exact HI542.out))) : gb574 ≠ g542)); clear HO_548000; clear HO559; clear HO563; clear HO567; clear HO572; clear BK547; clear HI542; clear BK569; clear HB; have HO_548000 := n0_; have HO559 := n1_; have HO563 := n2_; have HO567 := n3_; have HO572 := n4_; have BK547 := n5_; have HI542 := n6_; have BK569 := n7_; have HB := n8_; have BK574 := n9_; have GW574 := n10_; have GE574 := n11_; have NB547_574 := n12_; have NB574_547 := n13_; have NB569_574 := n14_; have NB574_569 := n15_; have NB542_574 := n16_; have NB574_542 := n17_; clear n0_ n1_ n2_ n3_ n4_ n5_ n6_ n7_ n8_ n9_ n10_ n11_ n12_ n13_ n14_ n15_ n16_ n17_; clear hb hbox hg; obtain ⟨Ao67, co67, eo67⟩ := Kd.N_slice HO572.out; subst eo67; have hnb68 := NB574_547.out; have hnc68 := NB547_574.out; have hnb69 := NB574_569.out; have hnc69 := NB569_574.out; have hnb70 := NB574_542.out; have hnc70 := NB542_574.out; have hcz71_0 : w66.cell? ⟨gb574, 0, none⟩ = some (.slice none 0 0) := (blk_cell BK574.out 0).trans rfl; have hfz71_0 := blk_frozen BK574.out 0))
     have n0_ : Aside0 (Kd.N k48 48 (w66.setCell ⟨gb574, 0, none⟩ (.slice Ao67 t570.length co67)) w.heap.size (fun k_ => some k_ ≠ (v558 : Value).ownBlock ∧ some k_ ≠ (v562 : Value).ownBlock ∧ some k_ ≠ (.slice Ao60 t565.length co60 : Value).ownBlock ∧ some k_ ≠ (.slice Ao67 t570.length co67 : Value).ownBlock ∧ k_ ≠ g542 ∧ k_ ≠ gb547 ∧ k_ ≠ gb569 ∧ k_ ≠ gb574) (.slice Ao52 x548000_1.length co52) x548000_1) := ⟨by (with_reducible repeat (first | apply Kd.N_alloc | apply Kd.N_drewN | apply Kd.N_drew)); exact Kd.N_mono (Kd.N_far (p := ⟨gb574, 0, none⟩) (Kd.N_mono HO_548000.out (fun k_ hk => (⟨hk, hk.2⟩ : _ ∧ k_ ≠ gb574))) (fun _ hk => hk.2) (.slice Ao67 t570.length co67)) (fun _ hk => ⟨hk.1.1.1.1, ⟨hk.1.1.1.2.1, ⟨hk.1.1.1.2.2.1, ⟨hk.1.1.2, ⟨hk.1.1.1.2.2.2.1, ⟨hk.1.1.1.2.2.2.2.1, ⟨hk.1.1.1.2.2.2.2.2, hk.1.2⟩⟩⟩⟩⟩⟩⟩)⟩
     have n1_ : Aside0 (Kd.R (Kd.int .u8) 5 (w66.setCell ⟨gb574, 0, none⟩ (.slice Ao67 t570.length co67)) w.heap.size (fun k_ => some k_ ≠ (v562 : Value).ownBlock) v558 t557) := ⟨by (with_reducible repeat (first | apply Kd.R_alloc | apply Kd.R_drewN | apply Kd.R_drew)); exact Kd.R_mono (Kd.R_far (p := ⟨gb574, 0, none⟩) (Kd.R_types HO559.out BK574.out (by decide)) (fun _ hk => hk.2) (.slice Ao67 t570.length co67)) (fun _ hk => hk.1)⟩
     have n2_ : Aside0 (Kd.R (Kd.int .u8) 5 (w66.setCell ⟨gb574, 0, none⟩ (.slice Ao67 t570.length co67)) w.heap.size (fun k_ => some k_ ≠ (v558 : Value).ownBlock) v562 t561) := ⟨by (with_reducible repeat (first | apply Kd.R_alloc | apply Kd.R_drewN | apply Kd.R_drew)); exact Kd.R_mono (Kd.R_far (p := ⟨gb574, 0, none⟩) (Kd.R_types HO563.out BK574.out (by decide)) (fun _ hk => hk.2) (.slice Ao67 t570.length co67)) (fun _ hk => hk.1)⟩
     have n3_ : Aside0 (Kd.N k48 48 (w66.setCell ⟨gb574, 0, none⟩ (.slice Ao67 t570.length co67)) w.heap.size (fun k_ => some k_ ≠ (.slice Ao52 x548000_1.length co52 : Value).ownBlock ∧ some k_ ≠ (v558 : Value).ownBlock ∧ some k_ ≠ (v562 : Value).ownBlock ∧ some k_ ≠ (.slice Ao67 t570.length co67 : Value).ownBlock ∧ k_ ≠ g542 ∧ k_ ≠ gb547 ∧ k_ ≠ gb569 ∧ k_ ≠ gb574) (.slice Ao60 t565.length co60) t565) := ⟨by (with_reducible repeat (first | apply Kd.N_alloc | apply Kd.N_drewN | apply Kd.N_drew)); exact Kd.N_mono (Kd.N_far (p := ⟨gb574, 0, none⟩) (Kd.N_mono HO567.out (fun k_ hk => (⟨hk, hk.2⟩ : _ ∧ k_ ≠ gb574))) (fun _ hk => hk.2) (.slice Ao67 t570.length co67)) (fun _ hk => ⟨hk.1.1.1.2.2.1, ⟨hk.1.1.1.1, ⟨hk.1.1.1.2.1, ⟨hk.1.1.2, ⟨hk.1.1.1.2.2.2.1, ⟨hk.1.1.1.2.2.2.2.1, ⟨hk.1.1.1.2.2.2.2.2, hk.1.2⟩⟩⟩⟩⟩⟩⟩)⟩
     have n4_ : Aside0 (Kd.N k48 48 (w66.setCell ⟨gb574, 0, none⟩ (.slice Ao67 t570.length co67)) w.heap.size (fun k_ => some k_ ≠ (.slice Ao52 x548000_1.length co52 : Value).ownBlock ∧ some k_ ≠ (v558 : Value).ownBlock ∧ some k_ ≠ (v562 : Value).ownBlock ∧ some k_ ≠ (.slice Ao60 t565.length co60 : Value).ownBlock ∧ k_ ≠ gb547 ∧ k_ ≠ gb569 ∧ k_ ≠ g542 ∧ k_ ≠ gb574) (.slice Ao67 t570.length co67) t570) := ⟨by (with_reducible repeat (first | apply Kd.N_alloc | apply Kd.N_drewN | apply Kd.N_drew)); exact Kd.N_mono (Kd.N_far (p := ⟨gb574, 0, none⟩) (Kd.N_mono HO572.out (fun k_ hk => (⟨hk, hk.2⟩ : _ ∧ k_ ≠ gb574))) (fun _ hk => hk.2) (.slice Ao67 t570.length co67)) (fun _ hk => ⟨hk.1.1.1, ⟨hk.1.1.2.1, ⟨hk.1.1.2.2.1, ⟨hk.1.1.2.2.2.1, ⟨hk.1.1.2.2.2.2.1, ⟨hk.1.1.2.2.2.2.2.1, ⟨hk.1.1.2.2.2.2.2.2, hk.1.2⟩⟩⟩⟩⟩⟩⟩)⟩
     have n5_ : Aside0 ((w66.setCell ⟨gb574, 0, none⟩ (.slice Ao67 t570.length co67)).heap[gb547]? = some (.cells #[.slice Ao52 x548000_1.length co52] 24 (0, 0))) := ⟨by (with_reducible repeat (first | refine bN ?_ _ | refine bD ?_ | refine bA ?_ _)); refine blk_far ?_ NB547_574.out _; (with_reducible repeat (first | refine bN ?_ _ | refine bD ?_ | refine bA ?_ _)); exact BK547.out⟩
     have n6_ : Aside0 ((w66.setCell ⟨gb574, 0, none⟩ (.slice Ao67 t570.length co67)).heap[gb569]? = some (.cells #[.slice Ao60 t565.length co60] 24 (0, 0))) := ⟨by (with_reducible repeat (first | refine bN ?_ _ | refine bD ?_ | refine bA ?_ _)); refine blk_far ?_ NB569_574.out _; (with_reducible repeat (first | refine bN ?_ _ | refine bD ?_ | refine bA ?_ _)); exact BK569.out⟩
     have n7_ : Aside0 ((w66.setCell ⟨gb574, 0, none⟩ (.slice Ao67 t570.length co67)).heap[gb574]? = some (.cells #[.slice Ao67 t570.length co67] 24 (0, 0))) := ⟨by (with_reducible repeat (first | refine bN ?_ _ | refine bD ?_ | refine bA ?_ _)); refine blk_put (cs := #[.slice none 0 0]) ?_ 0 _ rfl; (with_reducible repeat (first | refine bN ?_ _ | refine bD ?_ | refine bA ?_ _)); exact BK574.out⟩
     have n8_ : Aside0 (IsS62 w (w66.setCell ⟨gb574, 0, none⟩ (.slice Ao67 t570.length co67)) g542 t540 t564) := ⟨by repeat (first | (with_reducible first | exact HI542.out | apply IsS62.alloc | apply IsS62.drewN | apply IsS62.drew | apply IsS62.set_1 | refine IsS62.far ?_ NB542_547.out _ | refine IsS62.far ?_ NB542_569.out _ | refine IsS62.far ?_ NB542_574.out _) | exact HI542.out)⟩
     have n9_ : Aside0 (Below w.heap.size w (w66.setCell ⟨gb574, 0, none⟩ (.slice Ao67 t570.length co67))) := ⟨by repeat (first | (with_reducible first | exact HB.out | apply wA | apply wN | apply wD | refine below_set ?_ (IsS62.ge HI542.out) | refine below_set ?_ GE547.out | refine below_set ?_ GE569.out | refine below_set ?_ GE574.out) | exact HB.out)⟩
     (try clear HO_548000)
     (try clear HO559)
     (try clear HO563)
     (try clear HO567)
     (try clear HO572)
     (try clear BK547)
     (try clear BK569)
     (try clear BK574)
     (try clear HI542)
     (try clear HB)
     generalize (w66.setCell ⟨gb574, 0, none⟩ (.slice Ao67 t570.length co67)) = w72 at n0_ n1_ n2_ n3_ n4_ n5_ n6_ n7_ n8_ n9_ ⊢
     have HO_548000 := n0_
     have HO559 := n1_
     have HO563 := n2_
     have HO567 := n3_
     have HO572 := n4_
     have BK547 := n5_
     have BK569 := n6_
     have BK574 := n7_
     have HI542 := n8_
     have HB := n9_
     clear n0_ n1_ n2_ n3_ n4_ n5_ n6_ n7_ n8_ n9_
     have n0_ := aM (Kd.N_drew HO_548000.out)
     have n1_ := aM (Kd.R_drew HO559.out)
     have n2_ := aM (Kd.R_drew HO563.out)
     have n3_ := aM (Kd.N_drew HO567.out)
     have n4_ := aM (Kd.N_drew HO572.out)
     have n5_ := aM (bD BK547.out)
     have n6_ := aM (bD BK569.out)
     have n7_ := aM (bD BK574.out)
     have n8_ := aM (IsS62.drew HI542.out)
     have n9_ := aM (wD HB.out)
     clear HO_548000
     clear HO559
     clear HO563
     clear HO567
     clear HO572
     clear BK547
     clear BK569
     clear BK574
     clear HI542
     clear HB
     have HO_548000 := n0_
     have HO559 := n1_
     have HO563 := n2_
     have HO567 := n3_
     have HO572 := n4_
     have BK547 := n5_
     have BK569 := n6_
     have BK574 := n7_
     have HI542 := n8_
     have HB := n9_
     clear n0_ n1_ n2_ n3_ n4_ n5_ n6_ n7_ n8_ n9_
     refine start_ (n := 11) (S := fun w' => w'.cell? ⟨gb574, 0, none⟩ = some (.slice Ao67 t570.length co67)) (ds := []) #[false, false, false, false, false, false, false, false, false, false, false] (by kernel_rfl) rfl rfl ((blk_cell BK574.out 0).trans rfl) (fun hHeld => ?_); refine with_tabW rollbacknetlaw10_DiskApart.tab16 rollbacknetlaw10_DiskApart.bits16 (fun HT_ HW_ => ?_)
     generalize w72.drew = w73 at HO_548000 HO559 HO563 HO567 HO572 BK547 BK569 BK574 HI542 HB hHeld ⊢
     refine pure_ (i := 1) (N := some 76) (v := ?_) (a' := ?_) #[false, true, false, false, false, false, false, false, false, false, false] rfl rfl (any_of HT_.out (by kernel_rfl)) (fun _ _ _ h => h) (Or.inl ⟨by rfl, ?_⟩) ?_ ?_
     rotate_left
     ·intro w'
      go_simp
      with_reducible rfl
     rotate_left
     ·simp only [Act.put, List.setIfInBounds_toArray, List.set_cons_zero, List.set_cons_succ, i64_w, i32_w]
      rfl
     refine pure_ (i := 2) (N := some 77) (v := ?_) (a' := ?_) #[false, true, true, false, false, false, false, false, false, false, false] rfl rfl (any_of HT_.out (by kernel_rfl)) (fun _ _ _ h => h) (Or.inl ⟨by rfl, ?_⟩) ?_ ?_
     rotate_left
     ·intro w'
      go_simp
      with_reducible rfl
     rotate_left
     ·simp only [Act.put, List.setIfInBounds_toArray, List.set_cons_zero, List.set_cons_succ, i64_w, i32_w]
      rfl
     refine take_ (i := 0) (N := some 75) (v := ?_) (a' := ?_) #[true, true, true, false, false, false, false, false, false, false, false] rfl rfl (take_ofW HT_.out HW_.out (by kernel_rfl)) (fun _ _ _ h => h) (Or.inl ⟨by rfl, ?_⟩) hHeld ?_ ?_
     rotate_left
     ·intro w' s0
      go_simp
      with_reducible rfl
     rotate_left
     ·simp only [Act.put, List.setIfInBounds_toArray, List.set_cons_zero, List.set_cons_succ, i64_w, i32_w]
      rfl
     refine join_ (σ := Value × Value × Nat) 2 #[true, true, true, true, true, true, true, true, true, false, false] (fun s_ => [(78, s_.1), (79, .tuple #[.agg #[s_.2.1], .int .i64 t582]), (21, .pointer (some ⟨s_.2.2, 0, none⟩)), (74, .tuple #[.agg #[s_.2.1], .int .i64 t582]), (80, .agg #[s_.2.1]), (81, .int .i64 t582)]) (fun s_ w' => (w'.cell? ⟨gb574, 0, none⟩ = some (.slice Ao67 t570.length co67)) ∧ (Kd.R (Kd.int .u8) 5 w' w.heap.size (fun k_ => some k_ ≠ (v562 : Value).ownBlock ∧ some k_ ≠ (s_.1 : Value).ownBlock) v558 t557) ∧ (Kd.R (Kd.int .u8) 5 w' w.heap.size (fun k_ => some k_ ≠ (v558 : Value).ownBlock ∧ some k_ ≠ (s_.1 : Value).ownBlock) v562 t561) ∧ (Kd.N k48 48 w' w.heap.size (fun k_ => some k_ ≠ (v558 : Value).ownBlock ∧ some k_ ≠ (v562 : Value).ownBlock ∧ some k_ ≠ (.slice Ao67 t570.length co67 : Value).ownBlock ∧ some k_ ≠ (s_.1 : Value).ownBlock ∧ some k_ ≠ (s_.2.1 : Value).ownBlock ∧ some k_ ≠ (.slice Ao52 x548000_1.length co52 : Value).ownBlock ∧ k_ ≠ g542 ∧ k_ ≠ gb547 ∧ k_ ≠ gb569 ∧ k_ ≠ gb574 ∧ k_ ≠ s_.2.2) (.slice Ao60 t565.length co60) t565) ∧ (Kd.N k48 48 w' w.heap.size (fun k_ => some k_ ≠ (v558 : Value).ownBlock ∧ some k_ ≠ (v562 : Value).ownBlock ∧ some k_ ≠ (.slice Ao60 t565.length co60 : Value).ownBlock ∧ some k_ ≠ (s_.1 : Value).ownBlock ∧ some k_ ≠ (s_.2.1 : Value).ownBlock ∧ some k_ ≠ (.slice Ao52 x548000_1.length co52 : Value).ownBlock ∧ k_ ≠ g542 ∧ k_ ≠ gb547 ∧ k_ ≠ gb569 ∧ k_ ≠ gb574 ∧ k_ ≠ s_.2.2) (.slice Ao67 t570.length co67) t570) ∧ (Kd.R (Kd.int .u8) 5 w' w.heap.size (fun k_ => some k_ ≠ (v558 : Value).ownBlock ∧ some k_ ≠ (v562 : Value).ownBlock) s_.1 t575) ∧ (Kd.N k48 48 w' w.heap.size (fun k_ => some k_ ≠ (v558 : Value).ownBlock ∧ some k_ ≠ (v562 : Value).ownBlock ∧ some k_ ≠ (.slice Ao60 t565.length co60 : Value).ownBlock ∧ some k_ ≠ (.slice Ao67 t570.length co67 : Value).ownBlock ∧ some k_ ≠ (s_.1 : Value).ownBlock ∧ some k_ ≠ (.slice Ao52 x548000_1.length co52 : Value).ownBlock ∧ k_ ≠ g542 ∧ k_ ≠ gb547 ∧ k_ ≠ gb569 ∧ k_ ≠ gb574 ∧ k_ ≠ s_.2.2) s_.2.1 t579) ∧ (Kd.N k48 48 w' w.heap.size (fun k_ => some k_ ≠ (v558 : Value).ownBlock ∧ some k_ ≠ (v562 : Value).ownBlock ∧ some k_ ≠ (.slice Ao60 t565.length co60 : Value).ownBlock ∧ some k_ ≠ (.slice Ao67 t570.length co67 : Value).ownBlock ∧ some k_ ≠ (s_.1 : Value).ownBlock ∧ some k_ ≠ (s_.2.1 : Value).ownBlock ∧ k_ ≠ g542 ∧ k_ ≠ gb547 ∧ k_ ≠ gb569 ∧ k_ ≠ gb574 ∧ k_ ≠ s_.2.2) (.slice Ao52 x548000_1.length co52) x548000_1) ∧ (w'.heap[gb547]? = some (.cells #[.slice Ao52 x548000_1.length co52] 24 (0, 0))) ∧ (w'.heap[gb569]? = some (.cells #[.slice Ao60 t565.length co60] 24 (0, 0))) ∧ (w'.heap[gb574]? = some (.cells #[.slice Ao67 t570.length co67] 24 (0, 0))) ∧ (w'.heap[s_.2.2]? = some (.cells #[.slice none 0 0] 24 (0, 0))) ∧ (w.heap.size ≤ s_.2.2) ∧ (w.heap.size ≤ s_.2.2) ∧ (g542 ≠ s_.2.2) ∧ (s_.2.2 ≠ g542) ∧ (gb547 ≠ s_.2.2) ∧ (s_.2.2 ≠ gb547) ∧ (gb569 ≠ s_.2.2) ∧ (s_.2.2 ≠ gb569) ∧ (gb574 ≠ s_.2.2) ∧ (s_.2.2 ≠ gb574) ∧ (IsS62 w w' g542 t540 t578) ∧ (Below w.heap.size w w')) ?_ ?_
     rotate_left
     ·intro hCont
      refine two_ (i := 3) (j := 8) (Ni := some 78) (Nj := some 21) #[true, true, true, true, false, false, false, false, false, false, false] #[true, true, true, false, false, false, false, false, true, false, false] rfl rfl rfl rfl (two_of HT_.out (by kernel_rfl)) (by decide) (by decide) (fun K hK => ?_) (fun K hK => ?_)
      ·skip
       refine goes_ Try.func23 (by kernel_rfl) rfl #[.pointer (some ⟨g542, 0, none⟩), .int .i64 20] (by rfl) rfl rfl (by (try simp only [List.map_toArray, List.map_cons, List.map_nil]); first | done | rfl | (simp only [List.length_drop, List.length_take]; rfl)) ?_
       with_reducible refine (rollbacknetmake_Codes_Bytes.calls k1 g542 t540 t564 20 t575 t578 w _ ?side1 ?side2 A46.out).mono ?_
       (case side1 => repeat (first | (with_reducible first | exact HI542.out | apply IsS62.alloc | apply IsS62.drewN | apply IsS62.drew | apply IsS62.set_1 | refine IsS62.far ?_ NB542_547.out _ | refine IsS62.far ?_ NB542_569.out _ | refine IsS62.far ?_ NB542_574.out _) | exact HI542.out))
       (case side2 => repeat (first | (with_reducible first | exact HB.out | apply wA | apply wN | apply wD | refine below_set ?_ (IsS62.ge HI542.out) | refine below_set ?_ GE547.out | refine below_set ?_ GE569.out | refine below_set ?_ GE574.out) | exact HB.out))
       rintro e w74 ⟨v576, rfl, ho0, hi, hb, hk⟩
       refine ⟨_, rfl, ?_⟩
       have n0_ := aM (Kd.N_mono (Kd.N_told (Kd.N_oldK (Kd.N_mono (ok := fun k_ => (some k_ ≠ (v558 : Value).ownBlock ∧ (some k_ ≠ (v562 : Value).ownBlock ∧ (some k_ ≠ (.slice Ao60 t565.length co60 : Value).ownBlock ∧ (some k_ ≠ (.slice Ao67 t570.length co67 : Value).ownBlock ∧ (k_ ≠ g542 ∧ (k_ ≠ gb547 ∧ (k_ ≠ gb569 ∧ k_ ≠ gb574)))))))) (by (with_reducible repeat (first | apply Kd.N_alloc | apply Kd.N_drewN | apply Kd.N_drew)); exact HO_548000.out) (fun k_ hk_ => (⟨hk_, hk_.2.2.2.2.1⟩ : _ ∧ k_ ≠ g542))) hk) (Kd.R_base ho0)) (fun _ h_ => h_.1))
       have n1_ := aM (KeepBut.blk hk (g' := gb547) (o := .cells #[.slice Ao52 x548000_1.length co52] 24 (0, 0)) (by (with_reducible repeat (first | refine bN ?_ _ | refine bD ?_ | refine bA ?_ _)); exact BK547.out) NB547_542.out (by simp))
       have n2_ := aM (Kd.R_mono (Kd.R_told (Kd.R_oldK (IsS62.apart (show IsS62 w _ g542 t540 t564 from by repeat (first | (with_reducible first | exact HI542.out | apply IsS62.alloc | apply IsS62.drewN | apply IsS62.drew | apply IsS62.set_1 | refine IsS62.far ?_ NB542_547.out _ | refine IsS62.far ?_ NB542_569.out _ | refine IsS62.far ?_ NB542_574.out _) | exact HI542.out)) (by (with_reducible repeat (first | apply Kd.R_alloc | apply Kd.R_drewN | apply Kd.R_drew)); exact HO559.out) (by decide)) hk) (Kd.R_base ho0)) (fun _ h_ => h_.1))
       have n3_ := aM (Kd.R_mono (Kd.R_told (Kd.R_oldK (IsS62.apart (show IsS62 w _ g542 t540 t564 from by repeat (first | (with_reducible first | exact HI542.out | apply IsS62.alloc | apply IsS62.drewN | apply IsS62.drew | apply IsS62.set_1 | refine IsS62.far ?_ NB542_547.out _ | refine IsS62.far ?_ NB542_569.out _ | refine IsS62.far ?_ NB542_574.out _) | exact HI542.out)) (by (with_reducible repeat (first | apply Kd.R_alloc | apply Kd.R_drewN | apply Kd.R_drew)); exact HO563.out) (by decide)) hk) (Kd.R_base ho0)) (fun _ h_ => h_.1))
       have n4_ := aM (Kd.N_mono (Kd.N_told (Kd.N_oldK (Kd.N_mono (ok := fun k_ => (some k_ ≠ (.slice Ao52 x548000_1.length co52 : Value).ownBlock ∧ (some k_ ≠ (v558 : Value).ownBlock ∧ (some k_ ≠ (v562 : Value).ownBlock ∧ (some k_ ≠ (.slice Ao67 t570.length co67 : Value).ownBlock ∧ (k_ ≠ g542 ∧ (k_ ≠ gb547 ∧ (k_ ≠ gb569 ∧ k_ ≠ gb574)))))))) (by (with_reducible repeat (first | apply Kd.N_alloc | apply Kd.N_drewN | apply Kd.N_drew)); exact HO567.out) (fun k_ hk_ => (⟨hk_, hk_.2.2.2.2.1⟩ : _ ∧ k_ ≠ g542))) hk) (Kd.R_base ho0)) (fun _ h_ => h_.1))
       have n5_ := aM (KeepBut.blk hk (g' := gb569) (o := .cells #[.slice Ao60 t565.length co60] 24 (0, 0)) (by (with_reducible repeat (first | refine bN ?_ _ | refine bD ?_ | refine bA ?_ _)); exact BK569.out) NB569_542.out (by simp))
       have n6_ := aM (Kd.N_mono (Kd.N_told (Kd.N_oldK (Kd.N_mono (ok := fun k_ => (some k_ ≠ (.slice Ao52 x548000_1.length co52 : Value).ownBlock ∧ (some k_ ≠ (v558 : Value).ownBlock ∧ (some k_ ≠ (v562 : Value).ownBlock ∧ (some k_ ≠ (.slice Ao60 t565.length co60 : Value).ownBlock ∧ (k_ ≠ gb547 ∧ (k_ ≠ gb569 ∧ (k_ ≠ g542 ∧ k_ ≠ gb574)))))))) (by (with_reducible repeat (first | apply Kd.N_alloc | apply Kd.N_drewN | apply Kd.N_drew)); exact HO572.out) (fun k_ hk_ => (⟨hk_, hk_.2.2.2.2.2.2.1⟩ : _ ∧ k_ ≠ g542))) hk) (Kd.R_base ho0)) (fun _ h_ => h_.1))
       have n7_ := aM (KeepBut.blk hk (g' := gb574) (o := .cells #[.slice Ao67 t570.length co67] 24 (0, 0)) (by (with_reducible repeat (first | refine bN ?_ _ | refine bD ?_ | refine bA ?_ _)); exact BK574.out) NB574_542.out (by simp))
       have n8_ := aM (Kd.R_lower (Kd.R_new' (Kd.R_new' ho0 (Kd.R_lt (by (with_reducible repeat (first | apply Kd.R_alloc | apply Kd.R_drewN | apply Kd.R_drew)); exact HO559.out))) (Kd.R_lt (by (with_reducible repeat (first | apply Kd.R_alloc | apply Kd.R_drewN | apply Kd.R_drew)); exact HO563.out))) (below_size (by repeat (first | (with_reducible first | exact HB.out | apply wA | apply wN | apply wD | refine below_set ?_ (IsS62.ge HI542.out) | refine below_set ?_ GE547.out | refine below_set ?_ GE569.out | refine below_set ?_ GE574.out) | exact HB.out))))
       have n9_ := aM (hb)
       have n10_ := aM (hi)
       clear HO_548000
       clear BK547
       clear HO559
       clear HO563
       clear HO567
       clear BK569
       clear HO572
       clear BK574
       clear HB
       clear HI542
       have HO_548000 := n0_
       have BK547 := n1_
       have HO559 := n2_
       have HO563 := n3_
       have HO567 := n4_
       have BK569 := n5_
       have HO572 := n6_
       have BK574 := n7_
       have HO577 := n8_
       have HB := n9_
       have HI542 := n10_
       clear n0_ n1_ n2_ n3_ n4_ n5_ n6_ n7_ n8_ n9_ n10_
       (try clear hb)
       (try clear hb2)
       (try clear hk)
       (try clear hi)
       (try clear ho0)
       obtain ⟨Ao75, co75, eo75⟩ := Kd.R_slice HO577.out
       (first | subst eo75 | (injection eo75 with f1_ f2_ f3_; have f4_ := f1_.symm; have f5_ := f3_.symm; clear f1_ f2_ f3_; subst f4_; subst f5_))
       refine hK.out _ _ ((blk_cell BK574.out 0).trans rfl) (fun hHeld => ?_)
       clear hK K
       refine norm_ (a' := ?_) ?_ ?_
       rotate_left
       ·show Act.put _ (some 78) _ = _
        simp only [Act.put, List.setIfInBounds_toArray, List.set_cons_zero, List.set_cons_succ, i64_w, i32_w]
        rfl
       refine two_ (i := 4) (j := 8) (Ni := some 79) (Nj := some 21) #[true, true, true, true, true, false, false, false, false, false, false] #[true, true, true, true, false, false, false, false, true, false, false] rfl rfl rfl rfl (two_of HT_.out (by kernel_rfl)) (by decide) (by decide) (fun K hK => ?_) (fun K hK => ?_)
       ·skip
        refine goes_ Try.func20 (by kernel_rfl) rfl #[.agg #[.slice Ao67 t570.length co67], .int .i64 (Int.tmod (wrap64 (a1)) 4), .slice Ao75 t575.length co75] (by rfl) rfl rfl (by (try simp only [List.map_toArray, List.map_cons, List.map_nil]); first | done | rfl | (simp only [List.length_drop, List.length_take]; rfl)) ?_
        with_reducible refine (disk_Replace.calls k1 _ _ t570 (Int.tmod (wrap64 (a1)) 4) _ _ t575 t579 t582 _ ?side1 ?side2 ?side3 ?side4 A47.out).mono ?_
        (case side1 => repeat (first | exact (Kd.N_reads' HO572.out).2.2 | (with_reducible refine Kd.C_alloc ?_ _) | (with_reducible refine Kd.C_drewN ?_ _) | (with_reducible refine Kd.C_drew ?_)))
        (case side2 => exact (Kd.N_reads' HO572.out).2.1)
        (case side3 => repeat (first | exact (Kd.R_reads' HO577.out).2.2 | (with_reducible refine Kd.C_alloc ?_ _) | (with_reducible refine Kd.C_drewN ?_ _) | (with_reducible refine Kd.C_drew ?_)))
        (case side4 => exact (Kd.R_reads' HO577.out).2.1)
        rintro e w76 ⟨v580, rfl, ho0, hb⟩
        refine ⟨_, rfl, ?_⟩
        have n0_ := aM (Kd.N_elder' (by (with_reducible repeat (first | apply Kd.N_alloc | apply Kd.N_drewN | apply Kd.N_drew)); exact HO_548000.out) (by first | exact Kd.N_base ho0 | exact Kd.N_base (Kd.S_N ho0)) hb)
        have n1_ := aM (Kd.R_below (by (with_reducible repeat (first | apply Kd.R_alloc | apply Kd.R_drewN | apply Kd.R_drew)); exact HO559.out) hb)
        have n2_ := aM (Kd.R_below (by (with_reducible repeat (first | apply Kd.R_alloc | apply Kd.R_drewN | apply Kd.R_drew)); exact HO563.out) hb)
        have n3_ := aM (Kd.N_elder' (by (with_reducible repeat (first | apply Kd.N_alloc | apply Kd.N_drewN | apply Kd.N_drew)); exact HO567.out) (by first | exact Kd.N_base ho0 | exact Kd.N_base (Kd.S_N ho0)) hb)
        have n4_ := aM (Kd.N_elder' (by (with_reducible repeat (first | apply Kd.N_alloc | apply Kd.N_drewN | apply Kd.N_drew)); exact HO572.out) (by first | exact Kd.N_base ho0 | exact Kd.N_base (Kd.S_N ho0)) hb)
        have n5_ := aM (Kd.R_below (by (with_reducible repeat (first | apply Kd.R_alloc | apply Kd.R_drewN | apply Kd.R_drew)); exact HO577.out) hb)
        have n6_ := aM (Kd.N_lower (Kd.N_mono (ok' := fun k_ => some k_ ≠ (.slice Ao52 x548000_1.length co52 : Value).ownBlock ∧ some k_ ≠ (v558 : Value).ownBlock ∧ some k_ ≠ (v562 : Value).ownBlock ∧ some k_ ≠ (.slice Ao60 t565.length co60 : Value).ownBlock ∧ some k_ ≠ (.slice Ao67 t570.length co67 : Value).ownBlock ∧ some k_ ≠ (.slice Ao75 t575.length co75 : Value).ownBlock ∧ k_ ≠ gb547 ∧ k_ ≠ gb569 ∧ k_ ≠ gb574 ∧ k_ ≠ g542) ho0 (fun k_ hk_ => ⟨(Kd.fresh' (Kd.N_lt (by (with_reducible repeat (first | apply Kd.N_alloc | apply Kd.N_drewN | apply Kd.N_drew)); exact HO_548000.out)) k_ hk_), (Kd.fresh' (Kd.R_lt (by (with_reducible repeat (first | apply Kd.R_alloc | apply Kd.R_drewN | apply Kd.R_drew)); exact HO559.out)) k_ hk_), (Kd.fresh' (Kd.R_lt (by (with_reducible repeat (first | apply Kd.R_alloc | apply Kd.R_drewN | apply Kd.R_drew)); exact HO563.out)) k_ hk_), (Kd.fresh' (Kd.N_lt (by (with_reducible repeat (first | apply Kd.N_alloc | apply Kd.N_drewN | apply Kd.N_drew)); exact HO567.out)) k_ hk_), (Kd.fresh' (Kd.N_lt (by (with_reducible repeat (first | apply Kd.N_alloc | apply Kd.N_drewN | apply Kd.N_drew)); exact HO572.out)) k_ hk_), (Kd.fresh' (Kd.R_lt (by (with_reducible repeat (first | apply Kd.R_alloc | apply Kd.R_drewN | apply Kd.R_drew)); exact HO577.out)) k_ hk_), (Kd.freshB (g := gb547) (o := .cells #[.slice Ao52 x548000_1.length co52] 24 (0, 0)) (by (with_reducible repeat (first | refine bN ?_ _ | refine bD ?_ | refine bA ?_ _)); exact BK547.out) k_ hk_), (Kd.freshB (g := gb569) (o := .cells #[.slice Ao60 t565.length co60] 24 (0, 0)) (by (with_reducible repeat (first | refine bN ?_ _ | refine bD ?_ | refine bA ?_ _)); exact BK569.out) k_ hk_), (Kd.freshB (g := gb574) (o := .cells #[.slice Ao67 t570.length co67] 24 (0, 0)) (by (with_reducible repeat (first | refine bN ?_ _ | refine bD ?_ | refine bA ?_ _)); exact BK574.out) k_ hk_), (IsS62.fresh (by repeat (first | (with_reducible first | exact HI542.out | apply IsS62.alloc | apply IsS62.drewN | apply IsS62.drew | apply IsS62.set_1 | refine IsS62.far ?_ NB542_547.out _ | refine IsS62.far ?_ NB542_569.out _ | refine IsS62.far ?_ NB542_574.out _) | exact HI542.out)) k_ hk_)⟩)) (below_size (by repeat (first | (with_reducible first | exact HB.out | apply wA | apply wN | apply wD | refine below_set ?_ (IsS62.ge HI542.out) | refine below_set ?_ GE547.out | refine below_set ?_ GE569.out | refine below_set ?_ GE574.out) | exact HB.out))))
        have n7_ := aM (blk_below (g := gb547) (o := .cells #[.slice Ao52 x548000_1.length co52] 24 (0, 0)) (by (with_reducible repeat (first | refine bN ?_ _ | refine bD ?_ | refine bA ?_ _)); exact BK547.out) hb)
        have n8_ := aM (IsS62.below (by repeat (first | (with_reducible first | exact HI542.out | apply IsS62.alloc | apply IsS62.drewN | apply IsS62.drew | apply IsS62.set_1 | refine IsS62.far ?_ NB542_547.out _ | refine IsS62.far ?_ NB542_569.out _ | refine IsS62.far ?_ NB542_574.out _) | exact HI542.out)) hb)
        have n9_ := aM (blk_below (g := gb569) (o := .cells #[.slice Ao60 t565.length co60] 24 (0, 0)) (by (with_reducible repeat (first | refine bN ?_ _ | refine bD ?_ | refine bA ?_ _)); exact BK569.out) hb)
        have n10_ := aM (blk_below (g := gb574) (o := .cells #[.slice Ao67 t570.length co67] 24 (0, 0)) (by (with_reducible repeat (first | refine bN ?_ _ | refine bD ?_ | refine bA ?_ _)); exact BK574.out) hb)
        have n11_ := aM (below_step (by repeat (first | (with_reducible first | exact HB.out | apply wA | apply wN | apply wD | refine below_set ?_ (IsS62.ge HI542.out) | refine below_set ?_ GE547.out | refine below_set ?_ GE569.out | refine below_set ?_ GE574.out) | exact HB.out)) hb)
        clear HO_548000
        clear HO559
        clear HO563
        clear HO567
        clear HO572
        clear HO577
        clear BK547
        clear HI542
        clear BK569
        clear BK574
        clear HB
        have HO_548000 := n0_
        have HO559 := n1_
        have HO563 := n2_
        have HO567 := n3_
        have HO572 := n4_
        have HO577 := n5_
        have HO581 := n6_
        have BK547 := n7_
        have HI542 := n8_
        have BK569 := n9_
        have BK574 := n10_
        have HB := n11_
        clear n0_ n1_ n2_ n3_ n4_ n5_ n6_ n7_ n8_ n9_ n10_ n11_
        (try clear hb)
        (try clear hb2)
        (try clear hk)
        (try clear hi)
        (try clear ho0)
        refine hK.out _ _ ((blk_cell BK574.out 0).trans rfl) (fun hHeld => ?_)
        clear hK K
        refine norm_ (a' := ?_) ?_ ?_
        rotate_left
        ·show Act.put _ (some 79) _ = _
         simp only [Act.put, List.setIfInBounds_toArray, List.set_cons_zero, List.set_cons_succ, i64_w, i32_w]
         rfl
        refine pure_ (i := 5) (N := some 74) (v := ?_) (a' := ?_) #[true, true, true, true, true, true, false, false, false, false, false] rfl rfl (any_of HT_.out (by kernel_rfl)) (fun _ _ _ h => h) (Or.inl ⟨by rfl, ?_⟩) ?_ ?_
        rotate_left
        ·intro w'
         go_simp
         with_reducible rfl
        rotate_left
        ·simp only [Act.put, List.setIfInBounds_toArray, List.set_cons_zero, List.set_cons_succ, i64_w, i32_w]
         rfl
        refine pure_ (i := 6) (N := some 80) (v := ?_) (a' := ?_) #[true, true, true, true, true, true, true, false, false, false, false] rfl rfl (any_of HT_.out (by kernel_rfl)) (fun _ _ _ h => h) (Or.inl ⟨by rfl, ?_⟩) ?_ ?_
        rotate_left
        ·intro w'
         go_simp
         with_reducible rfl
        rotate_left
        ·simp only [Act.put, List.setIfInBounds_toArray, List.set_cons_zero, List.set_cons_succ, i64_w, i32_w]
         rfl
        refine pure_ (i := 7) (N := some 81) (v := ?_) (a' := ?_) #[true, true, true, true, true, true, true, true, false, false, false] rfl rfl (any_of HT_.out (by kernel_rfl)) (fun _ _ _ h => h) (Or.inl ⟨by rfl, ?_⟩) ?_ ?_
        rotate_left
        ·intro w'
         go_simp
         with_reducible rfl
        rotate_left
        ·simp only [Act.put, List.setIfInBounds_toArray, List.set_cons_zero, List.set_cons_succ, i64_w, i32_w]
         rfl
        refine one_ (i := 8) (N := some 21) #[true, true, true, true, true, true, true, true, true, false, false] rfl rfl (one_of HT_.out (by kernel_rfl)) (by decide) (fun K hK => ?_)
        refine box_step ?hg (N := 21) ?hd (cs := #[.slice none 0 0]) (t := 24) ?hr ?_; (case hd => rfl); (case hg => rfl); (case hr => first | (go_simp; done) | (go_simp; rfl))
        intro gb583 hg w77 hbox hb
        have n0_ := aM (Kd.N_below (Kd.N_elderB (by (with_reducible repeat (first | apply Kd.N_alloc | apply Kd.N_drewN | apply Kd.N_drew)); exact HO_548000.out) gb583 (Nat.le_of_eq hg.symm)) hb)
        have n1_ := aM (Kd.R_below (by (with_reducible repeat (first | apply Kd.R_alloc | apply Kd.R_drewN | apply Kd.R_drew)); exact HO559.out) hb)
        have n2_ := aM (Kd.R_below (by (with_reducible repeat (first | apply Kd.R_alloc | apply Kd.R_drewN | apply Kd.R_drew)); exact HO563.out) hb)
        have n3_ := aM (Kd.N_below (Kd.N_elderB (by (with_reducible repeat (first | apply Kd.N_alloc | apply Kd.N_drewN | apply Kd.N_drew)); exact HO567.out) gb583 (Nat.le_of_eq hg.symm)) hb)
        have n4_ := aM (Kd.N_below (Kd.N_elderB (by (with_reducible repeat (first | apply Kd.N_alloc | apply Kd.N_drewN | apply Kd.N_drew)); exact HO572.out) gb583 (Nat.le_of_eq hg.symm)) hb)
        have n5_ := aM (Kd.R_below (by (with_reducible repeat (first | apply Kd.R_alloc | apply Kd.R_drewN | apply Kd.R_drew)); exact HO577.out) hb)
        have n6_ := aM (Kd.N_below (Kd.N_elderB (by (with_reducible repeat (first | apply Kd.N_alloc | apply Kd.N_drewN | apply Kd.N_drew)); exact HO581.out) gb583 (Nat.le_of_eq hg.symm)) hb)
        have n7_ := aM (blk_below (g := gb547) (o := .cells #[.slice Ao52 x548000_1.length co52] 24 (0, 0)) (by (with_reducible repeat (first | refine bN ?_ _ | refine bD ?_ | refine bA ?_ _)); exact BK547.out) hb)
        have n8_ := aM (IsS62.below (by repeat (first | (with_reducible first | exact HI542.out | apply IsS62.alloc | apply IsS62.drewN | apply IsS62.drew | apply IsS62.set_1 | refine IsS62.far ?_ NB542_547.out _ | refine IsS62.far ?_ NB542_569.out _ | refine IsS62.far ?_ NB542_574.out _) | exact HI542.out)) hb)
        have n9_ := aM (blk_below (g := gb569) (o := .cells #[.slice Ao60 t565.length co60] 24 (0, 0)) (by (with_reducible repeat (first | refine bN ?_ _ | refine bD ?_ | refine bA ?_ _)); exact BK569.out) hb)
        have n10_ := aM (blk_below (g := gb574) (o := .cells #[.slice Ao67 t570.length co67] 24 (0, 0)) (by (with_reducible repeat (first | refine bN ?_ _ | refine bD ?_ | refine bA ?_ _)); exact BK574.out) hb)
        have n11_ := aM (below_step (by repeat (first | (with_reducible first | exact HB.out | apply wA | apply wN | apply wD | refine below_set ?_ (IsS62.ge HI542.out) | refine below_set ?_ GE547.out | refine below_set ?_ GE569.out | refine below_set ?_ GE574.out) | exact HB.out)) hb)
        have n12_ := aM (hbox)
        have n13_ := aM ((by rw [hg]; exact (below_size (by repeat (first | (with_reducible first | exact HB.out | apply wA | apply wN | apply wD | refine below_set ?_ (IsS62.ge HI542.out) | refine below_set ?_ GE547.out | refine below_set ?_ GE569.out | refine below_set ?_ GE574.out) | exact HB.out))) : w.heap.size ≤ gb583))
        have n14_ := aM ((by rw [hg]; exact (below_size (by repeat (first | (with_reducible first | exact HB.out | apply wA | apply wN | apply wD | refine below_set ?_ (IsS62.ge HI542.out) | refine below_set ?_ GE547.out | refine below_set ?_ GE569.out | refine below_set ?_ GE574.out) | exact HB.out))) : w.heap.size ≤ gb583))
        have n15_ := aM ((by rw [hg]; exact Nat.ne_of_lt (blk_lt (g := gb547) (o := .cells #[.slice Ao52 x548000_1.length co52] 24 (0, 0)) (by (with_reducible repeat (first | refine bN ?_ _ | refine bD ?_ | refine bA ?_ _)); exact BK547.out)) : gb547 ≠ gb583))
        have n16_ := aM ((by rw [hg]; exact Nat.ne_of_gt (blk_lt (g := gb547) (o := .cells #[.slice Ao52 x548000_1.length co52] 24 (0, 0)) (by (with_reducible repeat (first | refine bN ?_ _ | refine bD ?_ | refine bA ?_ _)); exact BK547.out)) : gb583 ≠ gb547))
        have n17_ := aM ((by rw [hg]; exact Nat.ne_of_lt (blk_lt (g := gb569) (o := .cells #[.slice Ao60 t565.length co60] 24 (0, 0)) (by (with_reducible repeat (first | refine bN ?_ _ | refine bD ?_ | refine bA ?_ _)); exact BK569.out)) : gb569 ≠ gb583))
        have n18_ := aM ((by rw [hg]; exact Nat.ne_of_gt (blk_lt (g := gb569) (o := .cells #[.slice Ao60 t565.length co60] 24 (0, 0)) (by (with_reducible repeat (first | refine bN ?_ _ | refine bD ?_ | refine bA ?_ _)); exact BK569.out)) : gb583 ≠ gb569))
        have n19_ := aM ((by rw [hg]; exact Nat.ne_of_lt (blk_lt (g := gb574) (o := .cells #[.slice Ao67 t570.length co67] 24 (0, 0)) (by (with_reducible repeat (first | refine bN ?_ _ | refine bD ?_ | refine bA ?_ _)); exact BK574.out)) : gb574 ≠ gb583))
        have n20_ := aM ((by rw [hg]; exact Nat.ne_of_gt (blk_lt (g := gb574) (o := .cells #[.slice Ao67 t570.length co67] 24 (0, 0)) (by (with_reducible repeat (first | refine bN ?_ _ | refine bD ?_ | refine bA ?_ _)); exact BK574.out)) : gb583 ≠ gb574))
        have n21_ := aM ((by rw [hg]; exact Nat.ne_of_lt (IsS62.lt (show IsS62 w _ g542 t540 t578 from by repeat (first | (with_reducible first | exact HI542.out | apply IsS62.alloc | apply IsS62.drewN | apply IsS62.drew | apply IsS62.set_1 | refine IsS62.far ?_ NB542_547.out _ | refine IsS62.far ?_ NB542_569.out _ | refine IsS62.far ?_ NB542_574.out _) | exact HI542.out))) : g542 ≠ gb583))
        have n22_ := aM ((by rw [hg]; exact Nat.ne_of_gt (IsS62.lt (show IsS62 w _ g542 t540 t578 from by repeat (first | (with_reducible first | exact HI542.out | apply IsS62.alloc | apply IsS62.drewN | apply IsS62.drew | apply IsS62.set_1 | refine IsS62.far ?_ NB542_547.out _ | refine IsS62.far ?_ NB542_569.out _ | refine IsS62.far ?_ NB542_574.out _) | exact HI542.out))) : gb583 ≠ g542))
        clear HO_548000
        clear HO559
        clear HO563
        clear HO567
        clear HO572
        clear HO577
        clear HO581
        clear BK547
        clear HI542
        clear BK569
        clear BK574
        clear HB
        have HO_548000 := n0_
        have HO559 := n1_
        have HO563 := n2_
        have HO567 := n3_
        have HO572 := n4_
        have HO577 := n5_
        have HO581 := n6_
        have BK547 := n7_
        have HI542 := n8_
        have BK569 := n9_
        have BK574 := n10_
        have HB := n11_
        have BK583 := n12_
        have GW583 := n13_
        have GE583 := n14_
        have NB547_583 := n15_
        have NB583_547 := n16_
        have NB569_583 := n17_
        have NB583_569 := n18_
        have NB574_583 := n19_
        have NB583_574 := n20_
        have NB542_583 := n21_
        have NB583_542 := n22_
        clear n0_ n1_ n2_ n3_ n4_ n5_ n6_ n7_ n8_ n9_ n10_ n11_ n12_ n13_ n14_ n15_ n16_ n17_ n18_ n19_ n20_ n21_ n22_
        clear hb hbox hg
        refine hK.out _ _ ((blk_cell BK574.out 0).trans rfl) (fun hHeld => ?_)
        clear hK K
        refine norm_ (a' := ?_) ?_ ?_
        rotate_left
        ·show Act.put _ (some 21) _ = _
         simp only [Act.put, List.setIfInBounds_toArray, List.set_cons_zero, List.set_cons_succ, i64_w, i32_w]
         rfl
        exact norm_ (by simp only [putAll, Act.put, List.setIfInBounds_toArray, List.set_cons_zero, List.set_cons_succ]) (hCont (.slice Ao75 t575.length co75, v580, gb583) _ ⟨hHeld, (by (with_reducible repeat (first | apply Kd.R_alloc | apply Kd.R_drewN | apply Kd.R_drew)); exact HO559.out), (by (with_reducible repeat (first | apply Kd.R_alloc | apply Kd.R_drewN | apply Kd.R_drew)); exact HO563.out), (by (with_reducible repeat (first | apply Kd.N_alloc | apply Kd.N_drewN | apply Kd.N_drew)); exact Kd.N_mono HO567.out (fun _ hk => ⟨hk.1.1.1.2.1, ⟨hk.1.1.1.2.2.1, ⟨hk.1.1.1.2.2.2.1, ⟨hk.1.1.2, ⟨hk.1.2, ⟨hk.1.1.1.1, ⟨hk.1.1.1.2.2.2.2.1, ⟨hk.1.1.1.2.2.2.2.2.1, ⟨hk.1.1.1.2.2.2.2.2.2.1, ⟨hk.1.1.1.2.2.2.2.2.2.2, hk.2⟩⟩⟩⟩⟩⟩⟩⟩⟩⟩)), (by (with_reducible repeat (first | apply Kd.N_alloc | apply Kd.N_drewN | apply Kd.N_drew)); exact Kd.N_mono HO572.out (fun _ hk => ⟨hk.1.1.1.2.1, ⟨hk.1.1.1.2.2.1, ⟨hk.1.1.1.2.2.2.1, ⟨hk.1.1.2, ⟨hk.1.2, ⟨hk.1.1.1.1, ⟨hk.1.1.1.2.2.2.2.2.2.1, ⟨hk.1.1.1.2.2.2.2.1, ⟨hk.1.1.1.2.2.2.2.2.1, ⟨hk.1.1.1.2.2.2.2.2.2.2, hk.2⟩⟩⟩⟩⟩⟩⟩⟩⟩⟩)), (by (with_reducible repeat (first | apply Kd.R_alloc | apply Kd.R_drewN | apply Kd.R_drew)); exact Kd.R_mono HO577.out (fun _ hk => ⟨hk.1.2, hk.2⟩)), (by (with_reducible repeat (first | apply Kd.N_alloc | apply Kd.N_drewN | apply Kd.N_drew)); exact Kd.N_mono HO581.out (fun _ hk => ⟨hk.1.2.1, ⟨hk.1.2.2.1, ⟨hk.1.2.2.2.1, ⟨hk.1.2.2.2.2.1, ⟨hk.1.2.2.2.2.2.1, ⟨hk.1.1, ⟨hk.1.2.2.2.2.2.2.2.2.2, ⟨hk.1.2.2.2.2.2.2.1, ⟨hk.1.2.2.2.2.2.2.2.1, ⟨hk.1.2.2.2.2.2.2.2.2.1, hk.2⟩⟩⟩⟩⟩⟩⟩⟩⟩⟩)), (by (with_reducible repeat (first | apply Kd.N_alloc | apply Kd.N_drewN | apply Kd.N_drew)); exact Kd.N_mono HO_548000.out (fun _ hk => ⟨hk.1.1.1.1, ⟨hk.1.1.1.2.1, ⟨hk.1.1.1.2.2.1, ⟨hk.1.1.1.2.2.2.1, ⟨hk.1.1.2, ⟨hk.1.2, ⟨hk.1.1.1.2.2.2.2.1, ⟨hk.1.1.1.2.2.2.2.2.1, ⟨hk.1.1.1.2.2.2.2.2.2.1, ⟨hk.1.1.1.2.2.2.2.2.2.2, hk.2⟩⟩⟩⟩⟩⟩⟩⟩⟩⟩)), (by (with_reducible repeat (first | refine bN ?_ _ | refine bD ?_ | refine bA ?_ _)); exact BK547.out), (by (with_reducible repeat (first | refine bN ?_ _ | refine bD ?_ | refine bA ?_ _)); exact BK569.out), (by (with_reducible repeat (first | refine bN ?_ _ | refine bD ?_ | refine bA ?_ _)); exact BK574.out), (by (with_reducible repeat (first | refine bN ?_ _ | refine bD ?_ | refine bA ?_ _)); exact BK583.out), GW583.out, GE583.out, NB542_583.out, NB583_542.out, NB547_583.out, NB583_547.out, NB569_583.out, NB583_569.out, NB574_583.out, NB583_574.out, (by repeat (first | (with_reducible first | exact HI542.out | apply IsS62.alloc | apply IsS62.drewN | apply IsS62.drew | apply IsS62.set_1 | refine IsS62.far ?_ NB542_547.out _ | refine IsS62.far ?_ NB542_569.out _ | refine IsS62.far ?_ NB542_574.out _ | refine IsS62.far ?_ NB542_583.out _) | exact HI542.out)), (by repeat (first | (with_reducible first | exact HB.out | apply wA | apply wN | apply wD | refine below_set ?_ (IsS62.ge HI542.out) | refine below_set ?_ GE547.out | refine below_set ?_ GE569.out | refine below_set ?_ GE574.out | refine below_set ?_ GE583.out) | exact HB.out))⟩)
       ·skip
        refine box_step ?hg (N := 21) ?hd (cs := #[.slice none 0 0]) (t := 24) ?hr ?_; (case hd => rfl); (case hg => rfl); (case hr => first | (go_simp; done) | (go_simp; rfl))
        intro gb583 hg w75 hbox hb
        have n0_ := aM (Kd.N_below (Kd.N_elderB (by (with_reducible repeat (first | apply Kd.N_alloc | apply Kd.N_drewN | apply Kd.N_drew)); exact HO_548000.out) gb583 (Nat.le_of_eq hg.symm)) hb)
        have n1_ := aM (Kd.R_below (by (with_reducible repeat (first | apply Kd.R_alloc | apply Kd.R_drewN | apply Kd.R_drew)); exact HO559.out) hb)
        have n2_ := aM (Kd.R_below (by (with_reducible repeat (first | apply Kd.R_alloc | apply Kd.R_drewN | apply Kd.R_drew)); exact HO563.out) hb)
        have n3_ := aM (Kd.N_below (Kd.N_elderB (by (with_reducible repeat (first | apply Kd.N_alloc | apply Kd.N_drewN | apply Kd.N_drew)); exact HO567.out) gb583 (Nat.le_of_eq hg.symm)) hb)
        have n4_ := aM (Kd.N_below (Kd.N_elderB (by (with_reducible repeat (first | apply Kd.N_alloc | apply Kd.N_drewN | apply Kd.N_drew)); exact HO572.out) gb583 (Nat.le_of_eq hg.symm)) hb)
        have n5_ := aM (Kd.R_below (by (with_reducible repeat (first | apply Kd.R_alloc | apply Kd.R_drewN | apply Kd.R_drew)); exact HO577.out) hb)
        have n6_ := aM (blk_below (g := gb547) (o := .cells #[.slice Ao52 x548000_1.length co52] 24 (0, 0)) (by (with_reducible repeat (first | refine bN ?_ _ | refine bD ?_ | refine bA ?_ _)); exact BK547.out) hb)
        have n7_ := aM (IsS62.below (by repeat (first | (with_reducible first | exact HI542.out | apply IsS62.alloc | apply IsS62.drewN | apply IsS62.drew | apply IsS62.set_1 | refine IsS62.far ?_ NB542_547.out _ | refine IsS62.far ?_ NB542_569.out _ | refine IsS62.far ?_ NB542_574.out _) | exact HI542.out)) hb)
        have n8_ := aM (blk_below (g := gb569) (o := .cells #[.slice Ao60 t565.length co60] 24 (0, 0)) (by (with_reducible repeat (first | refine bN ?_ _ | refine bD ?_ | refine bA ?_ _)); exact BK569.out) hb)
        have n9_ := aM (blk_below (g := gb574) (o := .cells #[.slice Ao67 t570.length co67] 24 (0, 0)) (by (with_reducible repeat (first | refine bN ?_ _ | refine bD ?_ | refine bA ?_ _)); exact BK574.out) hb)
        have n10_ := aM (below_step (by repeat (first | (with_reducible first | exact HB.out | apply wA | apply wN | apply wD | refine below_set ?_ (IsS62.ge HI542.out) | refine below_set ?_ GE547.out | refine below_set ?_ GE569.out | refine below_set ?_ GE574.out) | exact HB.out)) hb)
        have n11_ := aM (hbox)
        have n12_ := aM ((by rw [hg]; exact (below_size (by repeat (first | (with_reducible first | exact HB.out | apply wA | apply wN | apply wD | refine below_set ?_ (IsS62.ge HI542.out) | refine below_set ?_ GE547.out | refine below_set ?_ GE569.out | refine below_set ?_ GE574.out) | exact HB.out))) : w.heap.size ≤ gb583))
        have n13_ := aM ((by rw [hg]; exact (below_size (by repeat (first | (with_reducible first | exact HB.out | apply wA | apply wN | apply wD | refine below_set ?_ (IsS62.ge HI542.out) | refine below_set ?_ GE547.out | refine below_set ?_ GE569.out | refine below_set ?_ GE574.out) | exact HB.out))) : w.heap.size ≤ gb583))
        have n14_ := aM ((by rw [hg]; exact Nat.ne_of_lt (blk_lt (g := gb547) (o := .cells #[.slice Ao52 x548000_1.length co52] 24 (0, 0)) (by (with_reducible repeat (first | refine bN ?_ _ | refine bD ?_ | refine bA ?_ _)); exact BK547.out)) : gb547 ≠ gb583))
        have n15_ := aM ((by rw [hg]; exact Nat.ne_of_gt (blk_lt (g := gb547) (o := .cells #[.slice Ao52 x548000_1.length co52] 24 (0, 0)) (by (with_reducible repeat (first | refine bN ?_ _ | refine bD ?_ | refine bA ?_ _)); exact BK547.out)) : gb583 ≠ gb547))
        have n16_ := aM ((by rw [hg]; exact Nat.ne_of_lt (blk_lt (g := gb569) (o := .cells #[.slice Ao60 t565.length co60] 24 (0, 0)) (by (with_reducible repeat (first | refine bN ?_ _ | refine bD ?_ | refine bA ?_ _)); exact BK569.out)) : gb569 ≠ gb583))
        have n17_ := aM ((by rw [hg]; exact Nat.ne_of_gt (blk_lt (g := gb569) (o := .cells #[.slice Ao60 t565.length co60] 24 (0, 0)) (by (with_reducible repeat (first | refine bN ?_ _ | refine bD ?_ | refine bA ?_ _)); exact BK569.out)) : gb583 ≠ gb569))
        have n18_ := aM ((by rw [hg]; exact Nat.ne_of_lt (blk_lt (g := gb574) (o := .cells #[.slice Ao67 t570.length co67] 24 (0, 0)) (by (with_reducible repeat (first | refine bN ?_ _ | refine bD ?_ | refine bA ?_ _)); exact BK574.out)) : gb574 ≠ gb583))
        have n19_ := aM ((by rw [hg]; exact Nat.ne_of_gt (blk_lt (g := gb574) (o := .cells #[.slice Ao67 t570.length co67] 24 (0, 0)) (by (with_reducible repeat (first | refine bN ?_ _ | refine bD ?_ | refine bA ?_ _)); exact BK574.out)) : gb583 ≠ gb574))
        have n20_ := aM ((by rw [hg]; exact Nat.ne_of_lt (IsS62.lt (show IsS62 w _ g542 t540 t578 from by repeat (first | (with_reducible first | exact HI542.out | apply IsS62.alloc | apply IsS62.drewN | apply IsS62.drew | apply IsS62.set_1 | refine IsS62.far ?_ NB542_547.out _ | refine IsS62.far ?_ NB542_569.out _ | refine IsS62.far ?_ NB542_574.out _) | exact HI542.out))) : g542 ≠ gb583))
        have n21_ := aM ((by rw [hg]; exact Nat.ne_of_gt (IsS62.lt (show IsS62 w _ g542 t540 t578 from by repeat (first | (with_reducible first | exact HI542.out | apply IsS62.alloc | apply IsS62.drewN | apply IsS62.drew | apply IsS62.set_1 | refine IsS62.far ?_ NB542_547.out _ | refine IsS62.far ?_ NB542_569.out _ | refine IsS62.far ?_ NB542_574.out _) | exact HI542.out))) : gb583 ≠ g542))
        clear HO_548000
        clear HO559
        clear HO563
        clear HO567
        clear HO572
        clear HO577
        clear BK547
        clear HI542
        clear BK569
        clear BK574
        clear HB
        have HO_548000 := n0_
        have HO559 := n1_
        have HO563 := n2_
        have HO567 := n3_
        have HO572 := n4_
        have HO577 := n5_
        have BK547 := n6_
        have HI542 := n7_
        have BK569 := n8_
        have BK574 := n9_
        have HB := n10_
        have BK583 := n11_
        have GW583 := n12_
        have GE583 := n13_
        have NB547_583 := n14_
        have NB583_547 := n15_
        have NB569_583 := n16_
        have NB583_569 := n17_
        have NB574_583 := n18_
        have NB583_574 := n19_
        have NB542_583 := n20_
        have NB583_542 := n21_
        clear n0_ n1_ n2_ n3_ n4_ n5_ n6_ n7_ n8_ n9_ n10_ n11_ n12_ n13_ n14_ n15_ n16_ n17_ n18_ n19_ n20_ n21_
        clear hb hbox hg
        obtain ⟨Ao76, co76, eo76⟩ := Kd.R_slice HO577.out
        (first | subst eo76 | (injection eo76 with f1_ f2_ f3_; have f4_ := f1_.symm; have f5_ := f3_.symm; clear f1_ f2_ f3_; subst f4_; subst f5_))
        refine hK.out _ _ ((blk_cell BK574.out 0).trans rfl) (fun hHeld => ?_)
        clear hK K
        refine norm_ (a' := ?_) ?_ ?_
        rotate_left
        ·show Act.put _ (some 21) _ = _
         simp only [Act.put, List.setIfInBounds_toArray, List.set_cons_zero, List.set_cons_succ, i64_w, i32_w]
         rfl
        refine one_ (i := 4) (N := some 79) #[true, true, true, true, true, false, false, false, true, false, false] rfl rfl (one_of HT_.out (by kernel_rfl)) (by decide) (fun K hK => ?_)
        refine goes_ Try.func20 (by kernel_rfl) rfl #[.agg #[.slice Ao67 t570.length co67], .int .i64 (Int.tmod (wrap64 (a1)) 4), .slice Ao76 t575.length co76] (by rfl) rfl rfl (by (try simp only [List.map_toArray, List.map_cons, List.map_nil]); first | done | rfl | (simp only [List.length_drop, List.length_take]; rfl)) ?_
        with_reducible refine (disk_Replace.calls k1 _ _ t570 (Int.tmod (wrap64 (a1)) 4) _ _ t575 t579 t582 _ ?side1 ?side2 ?side3 ?side4 A47.out).mono ?_
        (case side1 => repeat (first | exact (Kd.N_reads' HO572.out).2.2 | (with_reducible refine Kd.C_alloc ?_ _) | (with_reducible refine Kd.C_drewN ?_ _) | (with_reducible refine Kd.C_drew ?_)))
        (case side2 => exact (Kd.N_reads' HO572.out).2.1)
        (case side3 => repeat (first | exact (Kd.R_reads' HO577.out).2.2 | (with_reducible refine Kd.C_alloc ?_ _) | (with_reducible refine Kd.C_drewN ?_ _) | (with_reducible refine Kd.C_drew ?_)))
        (case side4 => exact (Kd.R_reads' HO577.out).2.1)
        rintro e w77 ⟨v580, rfl, ho0, hb⟩
        refine ⟨_, rfl, ?_⟩
        have n0_ := aM (Kd.N_elder' (by (with_reducible repeat (first | apply Kd.N_alloc | apply Kd.N_drewN | apply Kd.N_drew)); exact HO_548000.out) (by first | exact Kd.N_base ho0 | exact Kd.N_base (Kd.S_N ho0)) hb)
        have n1_ := aM (Kd.R_below (by (with_reducible repeat (first | apply Kd.R_alloc | apply Kd.R_drewN | apply Kd.R_drew)); exact HO559.out) hb)
        have n2_ := aM (Kd.R_below (by (with_reducible repeat (first | apply Kd.R_alloc | apply Kd.R_drewN | apply Kd.R_drew)); exact HO563.out) hb)
        have n3_ := aM (Kd.N_elder' (by (with_reducible repeat (first | apply Kd.N_alloc | apply Kd.N_drewN | apply Kd.N_drew)); exact HO567.out) (by first | exact Kd.N_base ho0 | exact Kd.N_base (Kd.S_N ho0)) hb)
        have n4_ := aM (Kd.N_elder' (by (with_reducible repeat (first | apply Kd.N_alloc | apply Kd.N_drewN | apply Kd.N_drew)); exact HO572.out) (by first | exact Kd.N_base ho0 | exact Kd.N_base (Kd.S_N ho0)) hb)
        have n5_ := aM (Kd.R_below (by (with_reducible repeat (first | apply Kd.R_alloc | apply Kd.R_drewN | apply Kd.R_drew)); exact HO577.out) hb)
        have n6_ := aM (Kd.N_lower (Kd.N_mono (ok' := fun k_ => some k_ ≠ (.slice Ao52 x548000_1.length co52 : Value).ownBlock ∧ some k_ ≠ (v558 : Value).ownBlock ∧ some k_ ≠ (v562 : Value).ownBlock ∧ some k_ ≠ (.slice Ao60 t565.length co60 : Value).ownBlock ∧ some k_ ≠ (.slice Ao67 t570.length co67 : Value).ownBlock ∧ some k_ ≠ (.slice Ao76 t575.length co76 : Value).ownBlock ∧ k_ ≠ gb547 ∧ k_ ≠ gb569 ∧ k_ ≠ gb574 ∧ k_ ≠ gb583 ∧ k_ ≠ g542) ho0 (fun k_ hk_ => ⟨(Kd.fresh' (Kd.N_lt (by (with_reducible repeat (first | apply Kd.N_alloc | apply Kd.N_drewN | apply Kd.N_drew)); exact HO_548000.out)) k_ hk_), (Kd.fresh' (Kd.R_lt (by (with_reducible repeat (first | apply Kd.R_alloc | apply Kd.R_drewN | apply Kd.R_drew)); exact HO559.out)) k_ hk_), (Kd.fresh' (Kd.R_lt (by (with_reducible repeat (first | apply Kd.R_alloc | apply Kd.R_drewN | apply Kd.R_drew)); exact HO563.out)) k_ hk_), (Kd.fresh' (Kd.N_lt (by (with_reducible repeat (first | apply Kd.N_alloc | apply Kd.N_drewN | apply Kd.N_drew)); exact HO567.out)) k_ hk_), (Kd.fresh' (Kd.N_lt (by (with_reducible repeat (first | apply Kd.N_alloc | apply Kd.N_drewN | apply Kd.N_drew)); exact HO572.out)) k_ hk_), (Kd.fresh' (Kd.R_lt (by (with_reducible repeat (first | apply Kd.R_alloc | apply Kd.R_drewN | apply Kd.R_drew)); exact HO577.out)) k_ hk_), (Kd.freshB (g := gb547) (o := .cells #[.slice Ao52 x548000_1.length co52] 24 (0, 0)) (by (with_reducible repeat (first | refine bN ?_ _ | refine bD ?_ | refine bA ?_ _)); exact BK547.out) k_ hk_), (Kd.freshB (g := gb569) (o := .cells #[.slice Ao60 t565.length co60] 24 (0, 0)) (by (with_reducible repeat (first | refine bN ?_ _ | refine bD ?_ | refine bA ?_ _)); exact BK569.out) k_ hk_), (Kd.freshB (g := gb574) (o := .cells #[.slice Ao67 t570.length co67] 24 (0, 0)) (by (with_reducible repeat (first | refine bN ?_ _ | refine bD ?_ | refine bA ?_ _)); exact BK574.out) k_ hk_), (Kd.freshB (g := gb583) (o := .cells #[.slice none 0 0] 24 (0, 0)) (by (with_reducible repeat (first | refine bN ?_ _ | refine bD ?_ | refine bA ?_ _)); exact BK583.out) k_ hk_), (IsS62.fresh (by repeat (first | (with_reducible first | exact HI542.out | apply IsS62.alloc | apply IsS62.drewN | apply IsS62.drew | apply IsS62.set_1 | refine IsS62.far ?_ NB542_547.out _ | refine IsS62.far ?_ NB542_569.out _ | refine IsS62.far ?_ NB542_574.out _ | refine IsS62.far ?_ NB542_583.out _) | exact HI542.out)) k_ hk_)⟩)) (below_size (by repeat (first | (with_reducible first | exact HB.out | apply wA | apply wN | apply wD | refine below_set ?_ (IsS62.ge HI542.out) | refine below_set ?_ GE547.out | refine below_set ?_ GE569.out | refine below_set ?_ GE574.out | refine below_set ?_ GE583.out) | exact HB.out))))
        have n7_ := aM (blk_below (g := gb547) (o := .cells #[.slice Ao52 x548000_1.length co52] 24 (0, 0)) (by (with_reducible repeat (first | refine bN ?_ _ | refine bD ?_ | refine bA ?_ _)); exact BK547.out) hb)
        have n8_ := aM (IsS62.below (by repeat (first | (with_reducible first | exact HI542.out | apply IsS62.alloc | apply IsS62.drewN | apply IsS62.drew | apply IsS62.set_1 | refine IsS62.far ?_ NB542_547.out _ | refine IsS62.far ?_ NB542_569.out _ | refine IsS62.far ?_ NB542_574.out _ | refine IsS62.far ?_ NB542_583.out _) | exact HI542.out)) hb)
        have n9_ := aM (blk_below (g := gb569) (o := .cells #[.slice Ao60 t565.length co60] 24 (0, 0)) (by (with_reducible repeat (first | refine bN ?_ _ | refine bD ?_ | refine bA ?_ _)); exact BK569.out) hb)
        have n10_ := aM (blk_below (g := gb574) (o := .cells #[.slice Ao67 t570.length co67] 24 (0, 0)) (by (with_reducible repeat (first | refine bN ?_ _ | refine bD ?_ | refine bA ?_ _)); exact BK574.out) hb)
        have n11_ := aM (blk_below (g := gb583) (o := .cells #[.slice none 0 0] 24 (0, 0)) (by (with_reducible repeat (first | refine bN ?_ _ | refine bD ?_ | refine bA ?_ _)); exact BK583.out) hb)
        have n12_ := aM (below_step (by repeat (first | (with_reducible first | exact HB.out | apply wA | apply wN | apply wD | refine below_set ?_ (IsS62.ge HI542.out) | refine below_set ?_ GE547.out | refine below_set ?_ GE569.out | refine below_set ?_ GE574.out | refine below_set ?_ GE583.out) | exact HB.out)) hb)
        clear HO_548000
        clear HO559
        clear HO563
        clear HO567
        clear HO572
        clear HO577
        clear BK547
        clear HI542
        clear BK569
        clear BK574
        clear BK583
        clear HB
        have HO_548000 := n0_
        have HO559 := n1_
        have HO563 := n2_
        have HO567 := n3_
        have HO572 := n4_
        have HO577 := n5_
        have HO581 := n6_
        have BK547 := n7_
        have HI542 := n8_
        have BK569 := n9_
        have BK574 := n10_
        have BK583 := n11_
        have HB := n12_
        clear n0_ n1_ n2_ n3_ n4_ n5_ n6_ n7_ n8_ n9_ n10_ n11_ n12_
        (try clear hb)
        (try clear hb2)
        (try clear hk)
        (try clear hi)
        (try clear ho0)
        refine hK.out _ _ ((blk_cell BK574.out 0).trans rfl) (fun hHeld => ?_)
        clear hK K
        refine norm_ (a' := ?_) ?_ ?_
        rotate_left
        ·show Act.put _ (some 79) _ = _
         simp only [Act.put, List.setIfInBounds_toArray, List.set_cons_zero, List.set_cons_succ, i64_w, i32_w]
         rfl
        refine pure_ (i := 5) (N := some 74) (v := ?_) (a' := ?_) #[true, true, true, true, true, true, false, false, true, false, false] rfl rfl (any_of HT_.out (by kernel_rfl)) (fun _ _ _ h => h) (Or.inl ⟨by rfl, ?_⟩) ?_ ?_
        rotate_left
        ·intro w'
         go_simp
         with_reducible rfl
        rotate_left
        ·simp only [Act.put, List.setIfInBounds_toArray, List.set_cons_zero, List.set_cons_succ, i64_w, i32_w]
         rfl
        refine pure_ (i := 6) (N := some 80) (v := ?_) (a' := ?_) #[true, true, true, true, true, true, true, false, true, false, false] rfl rfl (any_of HT_.out (by kernel_rfl)) (fun _ _ _ h => h) (Or.inl ⟨by rfl, ?_⟩) ?_ ?_
        rotate_left
        ·intro w'
         go_simp
         with_reducible rfl
        rotate_left
        ·simp only [Act.put, List.setIfInBounds_toArray, List.set_cons_zero, List.set_cons_succ, i64_w, i32_w]
         rfl
        refine pure_ (i := 7) (N := some 81) (v := ?_) (a' := ?_) #[true, true, true, true, true, true, true, true, true, false, false] rfl rfl (any_of HT_.out (by kernel_rfl)) (fun _ _ _ h => h) (Or.inl ⟨by rfl, ?_⟩) ?_ ?_
        rotate_left
        ·intro w'
         go_simp
         with_reducible rfl
        rotate_left
        ·simp only [Act.put, List.setIfInBounds_toArray, List.set_cons_zero, List.set_cons_succ, i64_w, i32_w]
         rfl
        exact norm_ (by simp only [putAll, Act.put, List.setIfInBounds_toArray, List.set_cons_zero, List.set_cons_succ]) (hCont (.slice Ao76 t575.length co76, v580, gb583) _ ⟨hHeld, (by (with_reducible repeat (first | apply Kd.R_alloc | apply Kd.R_drewN | apply Kd.R_drew)); exact HO559.out), (by (with_reducible repeat (first | apply Kd.R_alloc | apply Kd.R_drewN | apply Kd.R_drew)); exact HO563.out), (by (with_reducible repeat (first | apply Kd.N_alloc | apply Kd.N_drewN | apply Kd.N_drew)); exact Kd.N_mono HO567.out (fun _ hk => ⟨hk.1.1.1.2.1, ⟨hk.1.1.1.2.2.1, ⟨hk.1.1.1.2.2.2.1, ⟨hk.1.1.2, ⟨hk.2, ⟨hk.1.1.1.1, ⟨hk.1.1.1.2.2.2.2.1, ⟨hk.1.1.1.2.2.2.2.2.1, ⟨hk.1.1.1.2.2.2.2.2.2.1, ⟨hk.1.1.1.2.2.2.2.2.2.2, hk.1.2⟩⟩⟩⟩⟩⟩⟩⟩⟩⟩)), (by (with_reducible repeat (first | apply Kd.N_alloc | apply Kd.N_drewN | apply Kd.N_drew)); exact Kd.N_mono HO572.out (fun _ hk => ⟨hk.1.1.1.2.1, ⟨hk.1.1.1.2.2.1, ⟨hk.1.1.1.2.2.2.1, ⟨hk.1.1.2, ⟨hk.2, ⟨hk.1.1.1.1, ⟨hk.1.1.1.2.2.2.2.2.2.1, ⟨hk.1.1.1.2.2.2.2.1, ⟨hk.1.1.1.2.2.2.2.2.1, ⟨hk.1.1.1.2.2.2.2.2.2.2, hk.1.2⟩⟩⟩⟩⟩⟩⟩⟩⟩⟩)), (by (with_reducible repeat (first | apply Kd.R_alloc | apply Kd.R_drewN | apply Kd.R_drew)); exact Kd.R_mono HO577.out (fun _ hk => ⟨hk.1.2, hk.2⟩)), (by (with_reducible repeat (first | apply Kd.N_alloc | apply Kd.N_drewN | apply Kd.N_drew)); exact Kd.N_mono HO581.out (fun _ hk => ⟨hk.2.1, ⟨hk.2.2.1, ⟨hk.2.2.2.1, ⟨hk.2.2.2.2.1, ⟨hk.2.2.2.2.2.1, ⟨hk.1, ⟨hk.2.2.2.2.2.2.2.2.2.2, ⟨hk.2.2.2.2.2.2.1, ⟨hk.2.2.2.2.2.2.2.1, ⟨hk.2.2.2.2.2.2.2.2.1, hk.2.2.2.2.2.2.2.2.2.1⟩⟩⟩⟩⟩⟩⟩⟩⟩⟩)), (by (with_reducible repeat (first | apply Kd.N_alloc | apply Kd.N_drewN | apply Kd.N_drew)); exact Kd.N_mono HO_548000.out (fun _ hk => ⟨hk.1.1.1.1, ⟨hk.1.1.1.2.1, ⟨hk.1.1.1.2.2.1, ⟨hk.1.1.1.2.2.2.1, ⟨hk.1.1.2, ⟨hk.2, ⟨hk.1.1.1.2.2.2.2.1, ⟨hk.1.1.1.2.2.2.2.2.1, ⟨hk.1.1.1.2.2.2.2.2.2.1, ⟨hk.1.1.1.2.2.2.2.2.2.2, hk.1.2⟩⟩⟩⟩⟩⟩⟩⟩⟩⟩)), (by (with_reducible repeat (first | refine bN ?_ _ | refine bD ?_ | refine bA ?_ _)); exact BK547.out), (by (with_reducible repeat (first | refine bN ?_ _ | refine bD ?_ | refine bA ?_ _)); exact BK569.out), (by (with_reducible repeat (first | refine bN ?_ _ | refine bD ?_ | refine bA ?_ _)); exact BK574.out), (by (with_reducible repeat (first | refine bN ?_ _ | refine bD ?_ | refine bA ?_ _)); exact BK583.out), GW583.out, GE583.out, NB542_583.out, NB583_542.out, NB547_583.out, NB583_547.out, NB569_583.out, NB583_569.out, NB574_583.out, NB583_574.out, (by repeat (first | (with_reducible first | exact HI542.out | apply IsS62.alloc | apply IsS62.drewN | apply IsS62.drew | apply IsS62.set_1 | refine IsS62.far ?_ NB542_547.out _ | refine IsS62.far ?_ NB542_569.out _ | refine IsS62.far ?_ NB542_574.out _ | refine IsS62.far ?_ NB542_583.out _) | exact HI542.out)), (by repeat (first | (with_reducible first | exact HB.out | apply wA | apply wN | apply wD | refine below_set ?_ (IsS62.ge HI542.out) | refine below_set ?_ GE547.out | refine below_set ?_ GE569.out | refine below_set ?_ GE574.out | refine below_set ?_ GE583.out) | exact HB.out))⟩)
      ·skip
       refine box_step ?hg (N := 21) ?hd (cs := #[.slice none 0 0]) (t := 24) ?hr ?_; (case hd => rfl); (case hg => rfl); (case hr => first | (go_simp; done) | (go_simp; rfl))
       intro gb583 hg w74 hbox hb
       have n0_ := aM (Kd.N_below (Kd.N_elderB (by (with_reducible repeat (first | apply Kd.N_alloc | apply Kd.N_drewN | apply Kd.N_drew)); exact HO_548000.out) gb583 (Nat.le_of_eq hg.symm)) hb)
       have n1_ := aM (Kd.R_below (by (with_reducible repeat (first | apply Kd.R_alloc | apply Kd.R_drewN | apply Kd.R_drew)); exact HO559.out) hb)
       have n2_ := aM (Kd.R_below (by (with_reducible repeat (first | apply Kd.R_alloc | apply Kd.R_drewN | apply Kd.R_drew)); exact HO563.out) hb)
       have n3_ := aM (Kd.N_below (Kd.N_elderB (by (with_reducible repeat (first | apply Kd.N_alloc | apply Kd.N_drewN | apply Kd.N_drew)); exact HO567.out) gb583 (Nat.le_of_eq hg.symm)) hb)
       have n4_ := aM (Kd.N_below (Kd.N_elderB (by (with_reducible repeat (first | apply Kd.N_alloc | apply Kd.N_drewN | apply Kd.N_drew)); exact HO572.out) gb583 (Nat.le_of_eq hg.symm)) hb)
       have n5_ := aM (blk_below (g := gb547) (o := .cells #[.slice Ao52 x548000_1.length co52] 24 (0, 0)) (by (with_reducible repeat (first | refine bN ?_ _ | refine bD ?_ | refine bA ?_ _)); exact BK547.out) hb)
       have n6_ := aM (IsS62.below (by repeat (first | (with_reducible first | exact HI542.out | apply IsS62.alloc | apply IsS62.drewN | apply IsS62.drew | apply IsS62.set_1 | refine IsS62.far ?_ NB542_547.out _ | refine IsS62.far ?_ NB542_569.out _ | refine IsS62.far ?_ NB542_574.out _) | exact HI542.out)) hb)
       have n7_ := aM (blk_below (g := gb569) (o := .cells #[.slice Ao60 t565.length co60] 24 (0, 0)) (by (with_reducible repeat (first | refine bN ?_ _ | refine bD ?_ | refine bA ?_ _)); exact BK569.out) hb)
       have n8_ := aM (blk_below (g := gb574) (o := .cells #[.slice Ao67 t570.length co67] 24 (0, 0)) (by (with_reducible repeat (first | refine bN ?_ _ | refine bD ?_ | refine bA ?_ _)); exact BK574.out) hb)
       have n9_ := aM (below_step (by repeat (first | (with_reducible first | exact HB.out | apply wA | apply wN | apply wD | refine below_set ?_ (IsS62.ge HI542.out) | refine below_set ?_ GE547.out | refine below_set ?_ GE569.out | refine below_set ?_ GE574.out) | exact HB.out)) hb)
       have n10_ := aM (hbox)
       have n11_ := aM ((by rw [hg]; exact (below_size (by repeat (first | (with_reducible first | exact HB.out | apply wA | apply wN | apply wD | refine below_set ?_ (IsS62.ge HI542.out) | refine below_set ?_ GE547.out | refine below_set ?_ GE569.out | refine below_set ?_ GE574.out) | exact HB.out))) : w.heap.size ≤ gb583))
       have n12_ := aM ((by rw [hg]; exact (below_size (by repeat (first | (with_reducible first | exact HB.out | apply wA | apply wN | apply wD | refine below_set ?_ (IsS62.ge HI542.out) | refine below_set ?_ GE547.out | refine below_set ?_ GE569.out | refine below_set ?_ GE574.out) | exact HB.out))) : w.heap.size ≤ gb583))
       have n13_ := aM ((by rw [hg]; exact Nat.ne_of_lt (blk_lt (g := gb547) (o := .cells #[.slice Ao52 x548000_1.length co52] 24 (0, 0)) (by (with_reducible repeat (first | refine bN ?_ _ | refine bD ?_ | refine bA ?_ _)); exact BK547.out)) : gb547 ≠ gb583))
       have n14_ := aM ((by rw [hg]; exact Nat.ne_of_gt (blk_lt (g := gb547) (o := .cells #[.slice Ao52 x548000_1.length co52] 24 (0, 0)) (by (with_reducible repeat (first | refine bN ?_ _ | refine bD ?_ | refine bA ?_ _)); exact BK547.out)) : gb583 ≠ gb547))
       have n15_ := aM ((by rw [hg]; exact Nat.ne_of_lt (blk_lt (g := gb569) (o := .cells #[.slice Ao60 t565.length co60] 24 (0, 0)) (by (with_reducible repeat (first | refine bN ?_ _ | refine bD ?_ | refine bA ?_ _)); exact BK569.out)) : gb569 ≠ gb583))
       have n16_ := aM ((by rw [hg]; exact Nat.ne_of_gt (blk_lt (g := gb569) (o := .cells #[.slice Ao60 t565.length co60] 24 (0, 0)) (by (with_reducible repeat (first | refine bN ?_ _ | refine bD ?_ | refine bA ?_ _)); exact BK569.out)) : gb583 ≠ gb569))
       have n17_ := aM ((by rw [hg]; exact Nat.ne_of_lt (blk_lt (g := gb574) (o := .cells #[.slice Ao67 t570.length co67] 24 (0, 0)) (by (with_reducible repeat (first | refine bN ?_ _ | refine bD ?_ | refine bA ?_ _)); exact BK574.out)) : gb574 ≠ gb583))
       have n18_ := aM ((by rw [hg]; exact Nat.ne_of_gt (blk_lt (g := gb574) (o := .cells #[.slice Ao67 t570.length co67] 24 (0, 0)) (by (with_reducible repeat (first | refine bN ?_ _ | refine bD ?_ | refine bA ?_ _)); exact BK574.out)) : gb583 ≠ gb574))
       have n19_ := aM ((by rw [hg]; exact Nat.ne_of_lt (IsS62.lt (show IsS62 w _ g542 t540 t564 from by repeat (first | (with_reducible first | exact HI542.out | apply IsS62.alloc | apply IsS62.drewN | apply IsS62.drew | apply IsS62.set_1 | refine IsS62.far ?_ NB542_547.out _ | refine IsS62.far ?_ NB542_569.out _ | refine IsS62.far ?_ NB542_574.out _) | exact HI542.out))) : g542 ≠ gb583))
       have n20_ := aM ((by rw [hg]; exact Nat.ne_of_gt (IsS62.lt (show IsS62 w _ g542 t540 t564 from by repeat (first | (with_reducible first | exact HI542.out | apply IsS62.alloc | apply IsS62.drewN | apply IsS62.drew | apply IsS62.set_1 | refine IsS62.far ?_ NB542_547.out _ | refine IsS62.far ?_ NB542_569.out _ | refine IsS62.far ?_ NB542_574.out _) | exact HI542.out))) : gb583 ≠ g542))
       clear HO_548000
       clear HO559
       clear HO563
       clear HO567
       clear HO572
       clear BK547
       clear HI542
       clear BK569
       clear BK574
       clear HB
       have HO_548000 := n0_
       have HO559 := n1_
       have HO563 := n2_
       have HO567 := n3_
       have HO572 := n4_
       have BK547 := n5_
       have HI542 := n6_
       have BK569 := n7_
       have BK574 := n8_
       have HB := n9_
       have BK583 := n10_
       have GW583 := n11_
       have GE583 := n12_
       have NB547_583 := n13_
       have NB583_547 := n14_
       have NB569_583 := n15_
       have NB583_569 := n16_
       have NB574_583 := n17_
       have NB583_574 := n18_
       have NB542_583 := n19_
       have NB583_542 := n20_
       clear n0_ n1_ n2_ n3_ n4_ n5_ n6_ n7_ n8_ n9_ n10_ n11_ n12_ n13_ n14_ n15_ n16_ n17_ n18_ n19_ n20_
       clear hb hbox hg
       refine hK.out _ _ ((blk_cell BK574.out 0).trans rfl) (fun hHeld => ?_)
       clear hK K
       refine norm_ (a' := ?_) ?_ ?_
       rotate_left
       ·show Act.put _ (some 21) _ = _
        simp only [Act.put, List.setIfInBounds_toArray, List.set_cons_zero, List.set_cons_succ, i64_w, i32_w]
        rfl
       refine one_ (i := 3) (N := some 78) #[true, true, true, true, false, false, false, false, true, false, false] rfl rfl (one_of HT_.out (by kernel_rfl)) (by decide) (fun K hK => ?_)
       refine goes_ Try.func23 (by kernel_rfl) rfl #[.pointer (some ⟨g542, 0, none⟩), .int .i64 20] (by rfl) rfl rfl (by (try simp only [List.map_toArray, List.map_cons, List.map_nil]); first | done | rfl | (simp only [List.length_drop, List.length_take]; rfl)) ?_
       with_reducible refine (rollbacknetmake_Codes_Bytes.calls k1 g542 t540 t564 20 t575 t578 w _ ?side1 ?side2 A46.out).mono ?_
       (case side1 => repeat (first | (with_reducible first | exact HI542.out | apply IsS62.alloc | apply IsS62.drewN | apply IsS62.drew | apply IsS62.set_1 | refine IsS62.far ?_ NB542_547.out _ | refine IsS62.far ?_ NB542_569.out _ | refine IsS62.far ?_ NB542_574.out _ | refine IsS62.far ?_ NB542_583.out _) | exact HI542.out))
       (case side2 => repeat (first | (with_reducible first | exact HB.out | apply wA | apply wN | apply wD | refine below_set ?_ (IsS62.ge HI542.out) | refine below_set ?_ GE547.out | refine below_set ?_ GE569.out | refine below_set ?_ GE574.out | refine below_set ?_ GE583.out) | exact HB.out))
       rintro e w75 ⟨v576, rfl, ho0, hi, hb, hk⟩
       refine ⟨_, rfl, ?_⟩
       have n0_ := aM (Kd.N_mono (Kd.N_told (Kd.N_oldK (Kd.N_mono (ok := fun k_ => ((some k_ ≠ (v558 : Value).ownBlock ∧ (some k_ ≠ (v562 : Value).ownBlock ∧ (some k_ ≠ (.slice Ao60 t565.length co60 : Value).ownBlock ∧ (some k_ ≠ (.slice Ao67 t570.length co67 : Value).ownBlock ∧ (k_ ≠ g542 ∧ (k_ ≠ gb547 ∧ (k_ ≠ gb569 ∧ k_ ≠ gb574))))))) ∧ k_ ≠ gb583)) (by (with_reducible repeat (first | apply Kd.N_alloc | apply Kd.N_drewN | apply Kd.N_drew)); exact HO_548000.out) (fun k_ hk_ => (⟨hk_, hk_.1.2.2.2.2.1⟩ : _ ∧ k_ ≠ g542))) hk) (Kd.R_base ho0)) (fun _ h_ => h_.1))
       have n1_ := aM (KeepBut.blk hk (g' := gb547) (o := .cells #[.slice Ao52 x548000_1.length co52] 24 (0, 0)) (by (with_reducible repeat (first | refine bN ?_ _ | refine bD ?_ | refine bA ?_ _)); exact BK547.out) NB547_542.out (by simp))
       have n2_ := aM (Kd.R_mono (Kd.R_told (Kd.R_oldK (IsS62.apart (show IsS62 w _ g542 t540 t564 from by repeat (first | (with_reducible first | exact HI542.out | apply IsS62.alloc | apply IsS62.drewN | apply IsS62.drew | apply IsS62.set_1 | refine IsS62.far ?_ NB542_547.out _ | refine IsS62.far ?_ NB542_569.out _ | refine IsS62.far ?_ NB542_574.out _ | refine IsS62.far ?_ NB542_583.out _) | exact HI542.out)) (by (with_reducible repeat (first | apply Kd.R_alloc | apply Kd.R_drewN | apply Kd.R_drew)); exact HO559.out) (by decide)) hk) (Kd.R_base ho0)) (fun _ h_ => h_.1))
       have n3_ := aM (Kd.R_mono (Kd.R_told (Kd.R_oldK (IsS62.apart (show IsS62 w _ g542 t540 t564 from by repeat (first | (with_reducible first | exact HI542.out | apply IsS62.alloc | apply IsS62.drewN | apply IsS62.drew | apply IsS62.set_1 | refine IsS62.far ?_ NB542_547.out _ | refine IsS62.far ?_ NB542_569.out _ | refine IsS62.far ?_ NB542_574.out _ | refine IsS62.far ?_ NB542_583.out _) | exact HI542.out)) (by (with_reducible repeat (first | apply Kd.R_alloc | apply Kd.R_drewN | apply Kd.R_drew)); exact HO563.out) (by decide)) hk) (Kd.R_base ho0)) (fun _ h_ => h_.1))
       have n4_ := aM (Kd.N_mono (Kd.N_told (Kd.N_oldK (Kd.N_mono (ok := fun k_ => ((some k_ ≠ (.slice Ao52 x548000_1.length co52 : Value).ownBlock ∧ (some k_ ≠ (v558 : Value).ownBlock ∧ (some k_ ≠ (v562 : Value).ownBlock ∧ (some k_ ≠ (.slice Ao67 t570.length co67 : Value).ownBlock ∧ (k_ ≠ g542 ∧ (k_ ≠ gb547 ∧ (k_ ≠ gb569 ∧ k_ ≠ gb574))))))) ∧ k_ ≠ gb583)) (by (with_reducible repeat (first | apply Kd.N_alloc | apply Kd.N_drewN | apply Kd.N_drew)); exact HO567.out) (fun k_ hk_ => (⟨hk_, hk_.1.2.2.2.2.1⟩ : _ ∧ k_ ≠ g542))) hk) (Kd.R_base ho0)) (fun _ h_ => h_.1))
       have n5_ := aM (KeepBut.blk hk (g' := gb569) (o := .cells #[.slice Ao60 t565.length co60] 24 (0, 0)) (by (with_reducible repeat (first | refine bN ?_ _ | refine bD ?_ | refine bA ?_ _)); exact BK569.out) NB569_542.out (by simp))
       have n6_ := aM (Kd.N_mono (Kd.N_told (Kd.N_oldK (Kd.N_mono (ok := fun k_ => ((some k_ ≠ (.slice Ao52 x548000_1.length co52 : Value).ownBlock ∧ (some k_ ≠ (v558 : Value).ownBlock ∧ (some k_ ≠ (v562 : Value).ownBlock ∧ (some k_ ≠ (.slice Ao60 t565.length co60 : Value).ownBlock ∧ (k_ ≠ gb547 ∧ (k_ ≠ gb569 ∧ (k_ ≠ g542 ∧ k_ ≠ gb574))))))) ∧ k_ ≠ gb583)) (by (with_reducible repeat (first | apply Kd.N_alloc | apply Kd.N_drewN | apply Kd.N_drew)); exact HO572.out) (fun k_ hk_ => (⟨hk_, hk_.1.2.2.2.2.2.2.1⟩ : _ ∧ k_ ≠ g542))) hk) (Kd.R_base ho0)) (fun _ h_ => h_.1))
       have n7_ := aM (KeepBut.blk hk (g' := gb574) (o := .cells #[.slice Ao67 t570.length co67] 24 (0, 0)) (by (with_reducible repeat (first | refine bN ?_ _ | refine bD ?_ | refine bA ?_ _)); exact BK574.out) NB574_542.out (by simp))
       have n8_ := aM (KeepBut.blk hk (g' := gb583) (o := .cells #[.slice none 0 0] 24 (0, 0)) (by (with_reducible repeat (first | refine bN ?_ _ | refine bD ?_ | refine bA ?_ _)); exact BK583.out) NB583_542.out (by simp))
       have n9_ := aM (Kd.R_lower (Kd.R_new' (Kd.R_new' ho0 (Kd.R_lt (by (with_reducible repeat (first | apply Kd.R_alloc | apply Kd.R_drewN | apply Kd.R_drew)); exact HO559.out))) (Kd.R_lt (by (with_reducible repeat (first | apply Kd.R_alloc | apply Kd.R_drewN | apply Kd.R_drew)); exact HO563.out))) (below_size (by repeat (first | (with_reducible first | exact HB.out | apply wA | apply wN | apply wD | refine below_set ?_ (IsS62.ge HI542.out) | refine below_set ?_ GE547.out | refine below_set ?_ GE569.out | refine below_set ?_ GE574.out | refine below_set ?_ GE583.out) | exact HB.out))))
       have n10_ := aM (hb)
       have n11_ := aM (hi)
       clear HO_548000
       clear BK547
       clear HO559
       clear HO563
       clear HO567
       clear BK569
       clear HO572
       clear BK574
       clear BK583
       clear HB
       clear HI542
       have HO_548000 := n0_
       have BK547 := n1_
       have HO559 := n2_
       have HO563 := n3_
       have HO567 := n4_
       have BK569 := n5_
       have HO572 := n6_
       have BK574 := n7_
       have BK583 := n8_
       have HO577 := n9_
       have HB := n10_
       have HI542 := n11_
       clear n0_ n1_ n2_ n3_ n4_ n5_ n6_ n7_ n8_ n9_ n10_ n11_
       (try clear hb)
       (try clear hb2)
       (try clear hk)
       (try clear hi)
       (try clear ho0)
       obtain ⟨Ao76, co76, eo76⟩ := Kd.R_slice HO577.out
       (first | subst eo76 | (injection eo76 with f1_ f2_ f3_; have f4_ := f1_.symm; have f5_ := f3_.symm; clear f1_ f2_ f3_; subst f4_; subst f5_))
       refine hK.out _ _ ((blk_cell BK574.out 0).trans rfl) (fun hHeld => ?_)
       clear hK K
       refine norm_ (a' := ?_) ?_ ?_
       rotate_left
       ·show Act.put _ (some 78) _ = _
        simp only [Act.put, List.setIfInBounds_toArray, List.set_cons_zero, List.set_cons_succ, i64_w, i32_w]
        rfl
       refine one_ (i := 4) (N := some 79) #[true, true, true, true, true, false, false, false, true, false, false] rfl rfl (one_of HT_.out (by kernel_rfl)) (by decide) (fun K hK => ?_)
       refine goes_ Try.func20 (by kernel_rfl) rfl #[.agg #[.slice Ao67 t570.length co67], .int .i64 (Int.tmod (wrap64 (a1)) 4), .slice Ao76 t575.length co76] (by rfl) rfl rfl (by (try simp only [List.map_toArray, List.map_cons, List.map_nil]); first | done | rfl | (simp only [List.length_drop, List.length_take]; rfl)) ?_
       with_reducible refine (disk_Replace.calls k1 _ _ t570 (Int.tmod (wrap64 (a1)) 4) _ _ t575 t579 t582 _ ?side1 ?side2 ?side3 ?side4 A47.out).mono ?_
       (case side1 => repeat (first | exact (Kd.N_reads' HO572.out).2.2 | (with_reducible refine Kd.C_alloc ?_ _) | (with_reducible refine Kd.C_drewN ?_ _) | (with_reducible refine Kd.C_drew ?_)))
       (case side2 => exact (Kd.N_reads' HO572.out).2.1)
       (case side3 => repeat (first | exact (Kd.R_reads' HO577.out).2.2 | (with_reducible refine Kd.C_alloc ?_ _) | (with_reducible refine Kd.C_drewN ?_ _) | (with_reducible refine Kd.C_drew ?_)))
       (case side4 => exact (Kd.R_reads' HO577.out).2.1)
       rintro e w77 ⟨v580, rfl, ho0, hb⟩
       refine ⟨_, rfl, ?_⟩
       have n0_ := aM (Kd.N_elder' (by (with_reducible repeat (first | apply Kd.N_alloc | apply Kd.N_drewN | apply Kd.N_drew)); exact HO_548000.out) (by first | exact Kd.N_base ho0 | exact Kd.N_base (Kd.S_N ho0)) hb)
       have n1_ := aM (Kd.R_below (by (with_reducible repeat (first | apply Kd.R_alloc | apply Kd.R_drewN | apply Kd.R_drew)); exact HO559.out) hb)
       have n2_ := aM (Kd.R_below (by (with_reducible repeat (first | apply Kd.R_alloc | apply Kd.R_drewN | apply Kd.R_drew)); exact HO563.out) hb)
       have n3_ := aM (Kd.N_elder' (by (with_reducible repeat (first | apply Kd.N_alloc | apply Kd.N_drewN | apply Kd.N_drew)); exact HO567.out) (by first | exact Kd.N_base ho0 | exact Kd.N_base (Kd.S_N ho0)) hb)
       have n4_ := aM (Kd.N_elder' (by (with_reducible repeat (first | apply Kd.N_alloc | apply Kd.N_drewN | apply Kd.N_drew)); exact HO572.out) (by first | exact Kd.N_base ho0 | exact Kd.N_base (Kd.S_N ho0)) hb)
       have n5_ := aM (Kd.R_below (by (with_reducible repeat (first | apply Kd.R_alloc | apply Kd.R_drewN | apply Kd.R_drew)); exact HO577.out) hb)
       have n6_ := aM (Kd.N_lower (Kd.N_mono (ok' := fun k_ => some k_ ≠ (.slice Ao52 x548000_1.length co52 : Value).ownBlock ∧ some k_ ≠ (v558 : Value).ownBlock ∧ some k_ ≠ (v562 : Value).ownBlock ∧ some k_ ≠ (.slice Ao60 t565.length co60 : Value).ownBlock ∧ some k_ ≠ (.slice Ao67 t570.length co67 : Value).ownBlock ∧ some k_ ≠ (.slice Ao76 t575.length co76 : Value).ownBlock ∧ k_ ≠ gb547 ∧ k_ ≠ gb569 ∧ k_ ≠ gb574 ∧ k_ ≠ gb583 ∧ k_ ≠ g542) ho0 (fun k_ hk_ => ⟨(Kd.fresh' (Kd.N_lt (by (with_reducible repeat (first | apply Kd.N_alloc | apply Kd.N_drewN | apply Kd.N_drew)); exact HO_548000.out)) k_ hk_), (Kd.fresh' (Kd.R_lt (by (with_reducible repeat (first | apply Kd.R_alloc | apply Kd.R_drewN | apply Kd.R_drew)); exact HO559.out)) k_ hk_), (Kd.fresh' (Kd.R_lt (by (with_reducible repeat (first | apply Kd.R_alloc | apply Kd.R_drewN | apply Kd.R_drew)); exact HO563.out)) k_ hk_), (Kd.fresh' (Kd.N_lt (by (with_reducible repeat (first | apply Kd.N_alloc | apply Kd.N_drewN | apply Kd.N_drew)); exact HO567.out)) k_ hk_), (Kd.fresh' (Kd.N_lt (by (with_reducible repeat (first | apply Kd.N_alloc | apply Kd.N_drewN | apply Kd.N_drew)); exact HO572.out)) k_ hk_), (Kd.fresh' (Kd.R_lt (by (with_reducible repeat (first | apply Kd.R_alloc | apply Kd.R_drewN | apply Kd.R_drew)); exact HO577.out)) k_ hk_), (Kd.freshB (g := gb547) (o := .cells #[.slice Ao52 x548000_1.length co52] 24 (0, 0)) (by (with_reducible repeat (first | refine bN ?_ _ | refine bD ?_ | refine bA ?_ _)); exact BK547.out) k_ hk_), (Kd.freshB (g := gb569) (o := .cells #[.slice Ao60 t565.length co60] 24 (0, 0)) (by (with_reducible repeat (first | refine bN ?_ _ | refine bD ?_ | refine bA ?_ _)); exact BK569.out) k_ hk_), (Kd.freshB (g := gb574) (o := .cells #[.slice Ao67 t570.length co67] 24 (0, 0)) (by (with_reducible repeat (first | refine bN ?_ _ | refine bD ?_ | refine bA ?_ _)); exact BK574.out) k_ hk_), (Kd.freshB (g := gb583) (o := .cells #[.slice none 0 0] 24 (0, 0)) (by (with_reducible repeat (first | refine bN ?_ _ | refine bD ?_ | refine bA ?_ _)); exact BK583.out) k_ hk_), (IsS62.fresh (by repeat (first | (with_reducible first | exact HI542.out | apply IsS62.alloc | apply IsS62.drewN | apply IsS62.drew | apply IsS62.set_1 | refine IsS62.far ?_ NB542_547.out _ | refine IsS62.far ?_ NB542_569.out _ | refine IsS62.far ?_ NB542_574.out _ | refine IsS62.far ?_ NB542_583.out _) | exact HI542.out)) k_ hk_)⟩)) (below_size (by repeat (first | (with_reducible first | exact HB.out | apply wA | apply wN | apply wD | refine below_set ?_ (IsS62.ge HI542.out) | refine below_set ?_ GE547.out | refine below_set ?_ GE569.out | refine below_set ?_ GE574.out | refine below_set ?_ GE583.out) | exact HB.out))))
       have n7_ := aM (blk_below (g := gb547) (o := .cells #[.slice Ao52 x548000_1.length co52] 24 (0, 0)) (by (with_reducible repeat (first | refine bN ?_ _ | refine bD ?_ | refine bA ?_ _)); exact BK547.out) hb)
       have n8_ := aM (IsS62.below (by repeat (first | (with_reducible first | exact HI542.out | apply IsS62.alloc | apply IsS62.drewN | apply IsS62.drew | apply IsS62.set_1 | refine IsS62.far ?_ NB542_547.out _ | refine IsS62.far ?_ NB542_569.out _ | refine IsS62.far ?_ NB542_574.out _ | refine IsS62.far ?_ NB542_583.out _) | exact HI542.out)) hb)
       have n9_ := aM (blk_below (g := gb569) (o := .cells #[.slice Ao60 t565.length co60] 24 (0, 0)) (by (with_reducible repeat (first | refine bN ?_ _ | refine bD ?_ | refine bA ?_ _)); exact BK569.out) hb)
       have n10_ := aM (blk_below (g := gb574) (o := .cells #[.slice Ao67 t570.length co67] 24 (0, 0)) (by (with_reducible repeat (first | refine bN ?_ _ | refine bD ?_ | refine bA ?_ _)); exact BK574.out) hb)
       have n11_ := aM (blk_below (g := gb583) (o := .cells #[.slice none 0 0] 24 (0, 0)) (by (with_reducible repeat (first | refine bN ?_ _ | refine bD ?_ | refine bA ?_ _)); exact BK583.out) hb)
       have n12_ := aM (below_step (by repeat (first | (with_reducible first | exact HB.out | apply wA | apply wN | apply wD | refine below_set ?_ (IsS62.ge HI542.out) | refine below_set ?_ GE547.out | refine below_set ?_ GE569.out | refine below_set ?_ GE574.out | refine below_set ?_ GE583.out) | exact HB.out)) hb)
       clear HO_548000
       clear HO559
       clear HO563
       clear HO567
       clear HO572
       clear HO577
       clear BK547
       clear HI542
       clear BK569
       clear BK574
       clear BK583
       clear HB
       have HO_548000 := n0_
       have HO559 := n1_
       have HO563 := n2_
       have HO567 := n3_
       have HO572 := n4_
       have HO577 := n5_
       have HO581 := n6_
       have BK547 := n7_
       have HI542 := n8_
       have BK569 := n9_
       have BK574 := n10_
       have BK583 := n11_
       have HB := n12_
       clear n0_ n1_ n2_ n3_ n4_ n5_ n6_ n7_ n8_ n9_ n10_ n11_ n12_
       (try clear hb)
       (try clear hb2)
       (try clear hk)
       (try clear hi)
       (try clear ho0)
       refine hK.out _ _ ((blk_cell BK574.out 0).trans rfl) (fun hHeld => ?_)
       clear hK K
       refine norm_ (a' := ?_) ?_ ?_
       rotate_left
       ·show Act.put _ (some 79) _ = _
        simp only [Act.put, List.setIfInBounds_toArray, List.set_cons_zero, List.set_cons_succ, i64_w, i32_w]
        rfl
       refine pure_ (i := 5) (N := some 74) (v := ?_) (a' := ?_) #[true, true, true, true, true, true, false, false, true, false, false] rfl rfl (any_of HT_.out (by kernel_rfl)) (fun _ _ _ h => h) (Or.inl ⟨by rfl, ?_⟩) ?_ ?_
       rotate_left
       ·intro w'
        go_simp
        with_reducible rfl
       rotate_left
       ·simp only [Act.put, List.setIfInBounds_toArray, List.set_cons_zero, List.set_cons_succ, i64_w, i32_w]
        rfl
       refine pure_ (i := 6) (N := some 80) (v := ?_) (a' := ?_) #[true, true, true, true, true, true, true, false, true, false, false] rfl rfl (any_of HT_.out (by kernel_rfl)) (fun _ _ _ h => h) (Or.inl ⟨by rfl, ?_⟩) ?_ ?_
       rotate_left
       ·intro w'
        go_simp
        with_reducible rfl
       rotate_left
       ·simp only [Act.put, List.setIfInBounds_toArray, List.set_cons_zero, List.set_cons_succ, i64_w, i32_w]
        rfl
       refine pure_ (i := 7) (N := some 81) (v := ?_) (a' := ?_) #[true, true, true, true, true, true, true, true, true, false, false] rfl rfl (any_of HT_.out (by kernel_rfl)) (fun _ _ _ h => h) (Or.inl ⟨by rfl, ?_⟩) ?_ ?_
       rotate_left
       ·intro w'
        go_simp
        with_reducible rfl
       rotate_left
       ·simp only [Act.put, List.setIfInBounds_toArray, List.set_cons_zero, List.set_cons_succ, i64_w, i32_w]
        rfl
       exact norm_ (by simp only [putAll, Act.put, List.setIfInBounds_toArray, List.set_cons_zero, List.set_cons_succ]) (hCont (.slice Ao76 t575.length co76, v580, gb583) _ ⟨hHeld, (by (with_reducible repeat (first | apply Kd.R_alloc | apply Kd.R_drewN | apply Kd.R_drew)); exact HO559.out), (by (with_reducible repeat (first | apply Kd.R_alloc | apply Kd.R_drewN | apply Kd.R_drew)); exact HO563.out), (by (with_reducible repeat (first | apply Kd.N_alloc | apply Kd.N_drewN | apply Kd.N_drew)); exact Kd.N_mono HO567.out (fun _ hk => ⟨hk.1.1.1.2.1, ⟨hk.1.1.1.2.2.1, ⟨hk.1.1.1.2.2.2.1, ⟨hk.1.2, ⟨hk.2, ⟨hk.1.1.1.1, ⟨hk.1.1.1.2.2.2.2.1, ⟨hk.1.1.1.2.2.2.2.2.1, ⟨hk.1.1.1.2.2.2.2.2.2.1, ⟨hk.1.1.1.2.2.2.2.2.2.2, hk.1.1.2⟩⟩⟩⟩⟩⟩⟩⟩⟩⟩)), (by (with_reducible repeat (first | apply Kd.N_alloc | apply Kd.N_drewN | apply Kd.N_drew)); exact Kd.N_mono HO572.out (fun _ hk => ⟨hk.1.1.1.2.1, ⟨hk.1.1.1.2.2.1, ⟨hk.1.1.1.2.2.2.1, ⟨hk.1.2, ⟨hk.2, ⟨hk.1.1.1.1, ⟨hk.1.1.1.2.2.2.2.2.2.1, ⟨hk.1.1.1.2.2.2.2.1, ⟨hk.1.1.1.2.2.2.2.2.1, ⟨hk.1.1.1.2.2.2.2.2.2.2, hk.1.1.2⟩⟩⟩⟩⟩⟩⟩⟩⟩⟩)), (by (with_reducible repeat (first | apply Kd.R_alloc | apply Kd.R_drewN | apply Kd.R_drew)); exact Kd.R_mono HO577.out (fun _ hk => ⟨hk.1.2, hk.2⟩)), (by (with_reducible repeat (first | apply Kd.N_alloc | apply Kd.N_drewN | apply Kd.N_drew)); exact Kd.N_mono HO581.out (fun _ hk => ⟨hk.2.1, ⟨hk.2.2.1, ⟨hk.2.2.2.1, ⟨hk.2.2.2.2.1, ⟨hk.2.2.2.2.2.1, ⟨hk.1, ⟨hk.2.2.2.2.2.2.2.2.2.2, ⟨hk.2.2.2.2.2.2.1, ⟨hk.2.2.2.2.2.2.2.1, ⟨hk.2.2.2.2.2.2.2.2.1, hk.2.2.2.2.2.2.2.2.2.1⟩⟩⟩⟩⟩⟩⟩⟩⟩⟩)), (by (with_reducible repeat (first | apply Kd.N_alloc | apply Kd.N_drewN | apply Kd.N_drew)); exact Kd.N_mono HO_548000.out (fun _ hk => ⟨hk.1.1.1.1, ⟨hk.1.1.1.2.1, ⟨hk.1.1.1.2.2.1, ⟨hk.1.1.1.2.2.2.1, ⟨hk.1.2, ⟨hk.2, ⟨hk.1.1.1.2.2.2.2.1, ⟨hk.1.1.1.2.2.2.2.2.1, ⟨hk.1.1.1.2.2.2.2.2.2.1, ⟨hk.1.1.1.2.2.2.2.2.2.2, hk.1.1.2⟩⟩⟩⟩⟩⟩⟩⟩⟩⟩)), (by (with_reducible repeat (first | refine bN ?_ _ | refine bD ?_ | refine bA ?_ _)); exact BK547.out), (by (with_reducible repeat (first | refine bN ?_ _ | refine bD ?_ | refine bA ?_ _)); exact BK569.out), (by (with_reducible repeat (first | refine bN ?_ _ | refine bD ?_ | refine bA ?_ _)); exact BK574.out), (by (with_reducible repeat (first | refine bN ?_ _ | refine bD ?_ | refine bA ?_ _)); exact BK583.out), GW583.out, GE583.out, NB542_583.out, NB583_542.out, NB547_583.out, NB583_547.out, NB569_583.out, NB583_569.out, NB574_583.out, NB583_574.out, (by repeat (first | (with_reducible first | exact HI542.out | apply IsS62.alloc | apply IsS62.drewN | apply IsS62.drew | apply IsS62.set_1 | refine IsS62.far ?_ NB542_547.out _ | refine IsS62.far ?_ NB542_569.out _ | refine IsS62.far ?_ NB542_574.out _ | refine IsS62.far ?_ NB542_583.out _) | exact HI542.out)), (by repeat (first | (with_reducible first | exact HB.out | apply wA | apply wN | apply wD | refine below_set ?_ (IsS62.ge HI542.out) | refine below_set ?_ GE547.out | refine below_set ?_ GE569.out | refine below_set ?_ GE574.out | refine below_set ?_ GE583.out) | exact HB.out))⟩)
     rintro ⟨v576, v580, gb583⟩ w78 ⟨hS_, h0_, h1_, h2_, h3_, h4_, h5_, h6_, h7_, h8_, h9_, h10_, h11_, h12_, h13_, h14_, h15_, h16_, h17_, h18_, h19_, h20_, h21_, h22_⟩
     have n0_ : Aside0 (Kd.R (Kd.int .u8) 5 w78 w.heap.size (fun k_ => some k_ ≠ (v562 : Value).ownBlock ∧ some k_ ≠ (v576 : Value).ownBlock) v558 t557) := ⟨h0_⟩
     have n1_ : Aside0 (Kd.R (Kd.int .u8) 5 w78 w.heap.size (fun k_ => some k_ ≠ (v558 : Value).ownBlock ∧ some k_ ≠ (v576 : Value).ownBlock) v562 t561) := ⟨h1_⟩
     have n2_ : Aside0 (Kd.N k48 48 w78 w.heap.size (fun k_ => some k_ ≠ (v558 : Value).ownBlock ∧ some k_ ≠ (v562 : Value).ownBlock ∧ some k_ ≠ (.slice Ao67 t570.length co67 : Value).ownBlock ∧ some k_ ≠ (v576 : Value).ownBlock ∧ some k_ ≠ (v580 : Value).ownBlock ∧ some k_ ≠ (.slice Ao52 x548000_1.length co52 : Value).ownBlock ∧ k_ ≠ g542 ∧ k_ ≠ gb547 ∧ k_ ≠ gb569 ∧ k_ ≠ gb574 ∧ k_ ≠ gb583) (.slice Ao60 t565.length co60) t565) := ⟨h2_⟩
     have n3_ : Aside0 (Kd.N k48 48 w78 w.heap.size (fun k_ => some k_ ≠ (v558 : Value).ownBlock ∧ some k_ ≠ (v562 : Value).ownBlock ∧ some k_ ≠ (.slice Ao60 t565.length co60 : Value).ownBlock ∧ some k_ ≠ (v576 : Value).ownBlock ∧ some k_ ≠ (v580 : Value).ownBlock ∧ some k_ ≠ (.slice Ao52 x548000_1.length co52 : Value).ownBlock ∧ k_ ≠ g542 ∧ k_ ≠ gb547 ∧ k_ ≠ gb569 ∧ k_ ≠ gb574 ∧ k_ ≠ gb583) (.slice Ao67 t570.length co67) t570) := ⟨h3_⟩
     have n4_ : Aside0 (Kd.R (Kd.int .u8) 5 w78 w.heap.size (fun k_ => some k_ ≠ (v558 : Value).ownBlock ∧ some k_ ≠ (v562 : Value).ownBlock) v576 t575) := ⟨h4_⟩
     have n5_ : Aside0 (Kd.N k48 48 w78 w.heap.size (fun k_ => some k_ ≠ (v558 : Value).ownBlock ∧ some k_ ≠ (v562 : Value).ownBlock ∧ some k_ ≠ (.slice Ao60 t565.length co60 : Value).ownBlock ∧ some k_ ≠ (.slice Ao67 t570.length co67 : Value).ownBlock ∧ some k_ ≠ (v576 : Value).ownBlock ∧ some k_ ≠ (.slice Ao52 x548000_1.length co52 : Value).ownBlock ∧ k_ ≠ g542 ∧ k_ ≠ gb547 ∧ k_ ≠ gb569 ∧ k_ ≠ gb574 ∧ k_ ≠ gb583) v580 t579) := ⟨h5_⟩
     have n6_ : Aside0 (Kd.N k48 48 w78 w.heap.size (fun k_ => some k_ ≠ (v558 : Value).ownBlock ∧ some k_ ≠ (v562 : Value).ownBlock ∧ some k_ ≠ (.slice Ao60 t565.length co60 : Value).ownBlock ∧ some k_ ≠ (.slice Ao67 t570.length co67 : Value).ownBlock ∧ some k_ ≠ (v576 : Value).ownBlock ∧ some k_ ≠ (v580 : Value).ownBlock ∧ k_ ≠ g542 ∧ k_ ≠ gb547 ∧ k_ ≠ gb569 ∧ k_ ≠ gb574 ∧ k_ ≠ gb583) (.slice Ao52 x548000_1.length co52) x548000_1) := ⟨h6_⟩
     have n7_ : Aside0 (w78.heap[gb547]? = some (.cells #[.slice Ao52 x548000_1.length co52] 24 (0, 0))) := ⟨h7_⟩
     have n8_ : Aside0 (w78.heap[gb569]? = some (.cells #[.slice Ao60 t565.length co60] 24 (0, 0))) := ⟨h8_⟩
     have n9_ : Aside0 (w78.heap[gb574]? = some (.cells #[.slice Ao67 t570.length co67] 24 (0, 0))) := ⟨h9_⟩
     have n10_ : Aside0 (w78.heap[gb583]? = some (.cells #[.slice none 0 0] 24 (0, 0))) := ⟨h10_⟩
     have n11_ : Aside0 (w.heap.size ≤ gb583) := ⟨h11_⟩
     have n12_ : Aside0 (w.heap.size ≤ gb583) := ⟨h12_⟩
     have n13_ : Aside0 (g542 ≠ gb583) := ⟨h13_⟩
     have n14_ : Aside0 (gb583 ≠ g542) := ⟨h14_⟩
     have n15_ : Aside0 (gb547 ≠ gb583) := ⟨h15_⟩
     have n16_ : Aside0 (gb583 ≠ gb547) := ⟨h16_⟩
     have n17_ : Aside0 (gb569 ≠ gb583) := ⟨h17_⟩
     have n18_ : Aside0 (gb583 ≠ gb569) := ⟨h18_⟩
     have n19_ : Aside0 (gb574 ≠ gb583) := ⟨h19_⟩
     have n20_ : Aside0 (gb583 ≠ gb574) := ⟨h20_⟩
     have n21_ : Aside0 (IsS62 w w78 g542 t540 t578) := ⟨h21_⟩
     have n22_ : Aside0 (Below w.heap.size w w78) := ⟨h22_⟩
     clear HO_548000
     clear HO559
     clear HO563
     clear HO567
     clear HO572
     clear BK547
     clear BK569
     clear BK574
     clear HI542
     clear HB
     clear h0_ h1_ h2_ h3_ h4_ h5_ h6_ h7_ h8_ h9_ h10_ h11_ h12_ h13_ h14_ h15_ h16_ h17_ h18_ h19_ h20_ h21_ h22_
     have HO559 := n0_
     have HO563 := n1_
     have HO567 := n2_
     have HO572 := n3_
     have HO577 := n4_
     have HO581 := n5_
     have HO_548000 := n6_
     have BK547 := n7_
     have BK569 := n8_
     have BK574 := n9_
     have BK583 := n10_
     have GW583 := n11_
     have GE583 := n12_
     have NB542_583 := n13_
     have NB583_542 := n14_
     have NB547_583 := n15_
     have NB583_547 := n16_
     have NB569_583 := n17_
     have NB583_569 := n18_
     have NB574_583 := n19_
     have NB583_574 := n20_
     have HI542 := n21_
     have HB := n22_
     clear n0_ n1_ n2_ n3_ n4_ n5_ n6_ n7_ n8_ n9_ n10_ n11_ n12_ n13_ n14_ n15_ n16_ n17_ n18_ n19_ n20_ n21_ n22_
     have hHeld : w78.cell? ⟨gb574, 0, none⟩ = some (.slice Ao67 t570.length co67) := hS_
     obtain ⟨Ao79, co79, eo79⟩ := Kd.N_slice HO581.out
     (first | subst eo79 | (injection eo79 with f1_ f2_ f3_; have f4_ := f1_.symm; have f5_ := f3_.symm; clear f1_ f2_ f3_; subst f4_; subst f5_))
     refine norm_ (a' := ?_) ?_ ?_
     rotate_left
     ·simp only [putAll, Act.put, List.setIfInBounds_toArray, List.set_cons_zero, List.set_cons_succ]
      rfl
     refine one_ (i := 9) (N := none) #[true, true, true, true, true, true, true, true, true, true, false] rfl rfl (one_of HT_.out (by kernel_rfl)) (by decide) (fun K hK => ?_)
     have hs80 : w78.cell? ⟨gb583, 0, none⟩ = some (.slice none 0 0) := (blk_cell BK583.out 0).trans rfl
     have hfs80 := blk_frozen BK583.out 0
     have hns80_0 := NB547_583.out
     have hns80_1 := NB569_583.out
     have hns80_2 := NB574_583.out
     have hms80_0 := NB583_547.out
     have hms80_1 := NB583_569.out
     have hms80_2 := NB583_574.out
     refine skip_ (w1 := ?_) (by rfl) rfl ?_ ?_
     rotate_left
     ·go_simp
      rfl
     refine hK.out _ _ (((cell_far (p := ⟨gb583, _, none⟩) NB574_583.out _).trans (hHeld))) (fun hHeld => ?_)
     clear hK K
     refine pure_ (i := 10) (N := some 22) (v := ?_) (a' := ?_) #[true, true, true, true, true, true, true, true, true, true, true] rfl rfl (any_of HT_.out (by kernel_rfl)) (fun _ _ _ h => h) (Or.inl ⟨by rfl, ?_⟩) ?_ ?_
     rotate_left
     ·intro w'
      go_simp
      with_reducible rfl
     rotate_left
     ·simp only [Act.put, List.setIfInBounds_toArray, List.set_cons_zero, List.set_cons_succ, i64_w, i32_w]
      rfl
     refine done_ (done_of HT_.out (by kernel_rfl)) ?_
     have n0_ : Aside0 (Kd.N k48 48 (w78.setCell ⟨gb583, 0, none⟩ (.slice Ao79 t579.length co79)) w.heap.size (fun k_ => some k_ ≠ (v558 : Value).ownBlock ∧ some k_ ≠ (v562 : Value).ownBlock ∧ some k_ ≠ (.slice Ao60 t565.length co60 : Value).ownBlock ∧ some k_ ≠ (.slice Ao67 t570.length co67 : Value).ownBlock ∧ some k_ ≠ (v576 : Value).ownBlock ∧ some k_ ≠ (.slice Ao79 t579.length co79 : Value).ownBlock ∧ k_ ≠ g542 ∧ k_ ≠ gb547 ∧ k_ ≠ gb569 ∧ k_ ≠ gb574 ∧ k_ ≠ gb583) (.slice Ao52 x548000_1.length co52) x548000_1) := ⟨by (with_reducible repeat (first | apply Kd.N_alloc | apply Kd.N_drewN | apply Kd.N_drew)); exact Kd.N_mono (Kd.N_far (p := ⟨gb583, 0, none⟩) (Kd.N_mono HO_548000.out (fun k_ hk => (⟨hk, hk.2.2.2.2.2.2.2.2.2.2⟩ : _ ∧ k_ ≠ gb583))) (fun _ hk => hk.2) (.slice Ao79 t579.length co79)) (fun _ hk => ⟨hk.1.1, ⟨hk.1.2.1, ⟨hk.1.2.2.1, ⟨hk.1.2.2.2.1, ⟨hk.1.2.2.2.2.1, ⟨hk.1.2.2.2.2.2.1, ⟨hk.1.2.2.2.2.2.2.1, ⟨hk.1.2.2.2.2.2.2.2.1, ⟨hk.1.2.2.2.2.2.2.2.2.1, ⟨hk.1.2.2.2.2.2.2.2.2.2.1, hk.1.2.2.2.2.2.2.2.2.2.2⟩⟩⟩⟩⟩⟩⟩⟩⟩⟩)⟩
     have n1_ : Aside0 (Kd.R (Kd.int .u8) 5 (w78.setCell ⟨gb583, 0, none⟩ (.slice Ao79 t579.length co79)) w.heap.size (fun k_ => some k_ ≠ (v562 : Value).ownBlock ∧ some k_ ≠ (v576 : Value).ownBlock) v558 t557) := ⟨by (with_reducible repeat (first | apply Kd.R_alloc | apply Kd.R_drewN | apply Kd.R_drew)); exact Kd.R_mono (Kd.R_far (p := ⟨gb583, 0, none⟩) (Kd.R_types HO559.out BK583.out (by decide)) (fun _ hk => hk.2) (.slice Ao79 t579.length co79)) (fun _ hk => ⟨hk.1.1, hk.1.2⟩)⟩
     have n2_ : Aside0 (Kd.R (Kd.int .u8) 5 (w78.setCell ⟨gb583, 0, none⟩ (.slice Ao79 t579.length co79)) w.heap.size (fun k_ => some k_ ≠ (v558 : Value).ownBlock ∧ some k_ ≠ (v576 : Value).ownBlock) v562 t561) := ⟨by (with_reducible repeat (first | apply Kd.R_alloc | apply Kd.R_drewN | apply Kd.R_drew)); exact Kd.R_mono (Kd.R_far (p := ⟨gb583, 0, none⟩) (Kd.R_types HO563.out BK583.out (by decide)) (fun _ hk => hk.2) (.slice Ao79 t579.length co79)) (fun _ hk => ⟨hk.1.1, hk.1.2⟩)⟩
     have n3_ : Aside0 (Kd.N k48 48 (w78.setCell ⟨gb583, 0, none⟩ (.slice Ao79 t579.length co79)) w.heap.size (fun k_ => some k_ ≠ (.slice Ao52 x548000_1.length co52 : Value).ownBlock ∧ some k_ ≠ (v558 : Value).ownBlock ∧ some k_ ≠ (v562 : Value).ownBlock ∧ some k_ ≠ (.slice Ao67 t570.length co67 : Value).ownBlock ∧ some k_ ≠ (v576 : Value).ownBlock ∧ some k_ ≠ (.slice Ao79 t579.length co79 : Value).ownBlock ∧ k_ ≠ g542 ∧ k_ ≠ gb547 ∧ k_ ≠ gb569 ∧ k_ ≠ gb574 ∧ k_ ≠ gb583) (.slice Ao60 t565.length co60) t565) := ⟨by (with_reducible repeat (first | apply Kd.N_alloc | apply Kd.N_drewN | apply Kd.N_drew)); exact Kd.N_mono (Kd.N_far (p := ⟨gb583, 0, none⟩) (Kd.N_mono HO567.out (fun k_ hk => (⟨hk, hk.2.2.2.2.2.2.2.2.2.2⟩ : _ ∧ k_ ≠ gb583))) (fun _ hk => hk.2) (.slice Ao79 t579.length co79)) (fun _ hk => ⟨hk.1.2.2.2.2.2.1, ⟨hk.1.1, ⟨hk.1.2.1, ⟨hk.1.2.2.1, ⟨hk.1.2.2.2.1, ⟨hk.1.2.2.2.2.1, ⟨hk.1.2.2.2.2.2.2.1, ⟨hk.1.2.2.2.2.2.2.2.1, ⟨hk.1.2.2.2.2.2.2.2.2.1, ⟨hk.1.2.2.2.2.2.2.2.2.2.1, hk.1.2.2.2.2.2.2.2.2.2.2⟩⟩⟩⟩⟩⟩⟩⟩⟩⟩)⟩
     have n4_ : Aside0 (Kd.N k48 48 (w78.setCell ⟨gb583, 0, none⟩ (.slice Ao79 t579.length co79)) w.heap.size (fun k_ => some k_ ≠ (.slice Ao52 x548000_1.length co52 : Value).ownBlock ∧ some k_ ≠ (v558 : Value).ownBlock ∧ some k_ ≠ (v562 : Value).ownBlock ∧ some k_ ≠ (.slice Ao60 t565.length co60 : Value).ownBlock ∧ some k_ ≠ (v576 : Value).ownBlock ∧ some k_ ≠ (.slice Ao79 t579.length co79 : Value).ownBlock ∧ k_ ≠ g542 ∧ k_ ≠ gb547 ∧ k_ ≠ gb569 ∧ k_ ≠ gb574 ∧ k_ ≠ gb583) (.slice Ao67 t570.length co67) t570) := ⟨by (with_reducible repeat (first | apply Kd.N_alloc | apply Kd.N_drewN | apply Kd.N_drew)); exact Kd.N_mono (Kd.N_far (p := ⟨gb583, 0, none⟩) (Kd.N_mono HO572.out (fun k_ hk => (⟨hk, hk.2.2.2.2.2.2.2.2.2.2⟩ : _ ∧ k_ ≠ gb583))) (fun _ hk => hk.2) (.slice Ao79 t579.length co79)) (fun _ hk => ⟨hk.1.2.2.2.2.2.1, ⟨hk.1.1, ⟨hk.1.2.1, ⟨hk.1.2.2.1, ⟨hk.1.2.2.2.1, ⟨hk.1.2.2.2.2.1, ⟨hk.1.2.2.2.2.2.2.1, ⟨hk.1.2.2.2.2.2.2.2.1, ⟨hk.1.2.2.2.2.2.2.2.2.1, ⟨hk.1.2.2.2.2.2.2.2.2.2.1, hk.1.2.2.2.2.2.2.2.2.2.2⟩⟩⟩⟩⟩⟩⟩⟩⟩⟩)⟩
     have n5_ : Aside0 (Kd.R (Kd.int .u8) 5 (w78.setCell ⟨gb583, 0, none⟩ (.slice Ao79 t579.length co79)) w.heap.size (fun k_ => some k_ ≠ (v558 : Value).ownBlock ∧ some k_ ≠ (v562 : Value).ownBlock) v576 t575) := ⟨by (with_reducible repeat (first | apply Kd.R_alloc | apply Kd.R_drewN | apply Kd.R_drew)); exact Kd.R_mono (Kd.R_far (p := ⟨gb583, 0, none⟩) (Kd.R_types HO577.out BK583.out (by decide)) (fun _ hk => hk.2) (.slice Ao79 t579.length co79)) (fun _ hk => ⟨hk.1.1, hk.1.2⟩)⟩
     have n6_ : Aside0 (Kd.N k48 48 (w78.setCell ⟨gb583, 0, none⟩ (.slice Ao79 t579.length co79)) w.heap.size (fun k_ => some k_ ≠ (.slice Ao52 x548000_1.length co52 : Value).ownBlock ∧ some k_ ≠ (v558 : Value).ownBlock ∧ some k_ ≠ (v562 : Value).ownBlock ∧ some k_ ≠ (.slice Ao60 t565.length co60 : Value).ownBlock ∧ some k_ ≠ (.slice Ao67 t570.length co67 : Value).ownBlock ∧ some k_ ≠ (v576 : Value).ownBlock ∧ k_ ≠ g542 ∧ k_ ≠ gb547 ∧ k_ ≠ gb569 ∧ k_ ≠ gb574 ∧ k_ ≠ gb583) (.slice Ao79 t579.length co79) t579) := ⟨by (with_reducible repeat (first | apply Kd.N_alloc | apply Kd.N_drewN | apply Kd.N_drew)); exact Kd.N_mono (Kd.N_far (p := ⟨gb583, 0, none⟩) (Kd.N_mono HO581.out (fun k_ hk => (⟨hk, hk.2.2.2.2.2.2.2.2.2.2⟩ : _ ∧ k_ ≠ gb583))) (fun _ hk => hk.2) (.slice Ao79 t579.length co79)) (fun _ hk => ⟨hk.1.2.2.2.2.2.1, ⟨hk.1.1, ⟨hk.1.2.1, ⟨hk.1.2.2.1, ⟨hk.1.2.2.2.1, ⟨hk.1.2.2.2.2.1, ⟨hk.1.2.2.2.2.2.2.1, ⟨hk.1.2.2.2.2.2.2.2.1, ⟨hk.1.2.2.2.2.2.2.2.2.1, ⟨hk.1.2.2.2.2.2.2.2.2.2.1, hk.1.2.2.2.2.2.2.2.2.2.2⟩⟩⟩⟩⟩⟩⟩⟩⟩⟩)⟩
     have n7_ : Aside0 ((w78.setCell ⟨gb583, 0, none⟩ (.slice Ao79 t579.length co79)).heap[gb547]? = some (.cells #[.slice Ao52 x548000_1.length co52] 24 (0, 0))) := ⟨by (with_reducible repeat (first | refine bN ?_ _ | refine bD ?_ | refine bA ?_ _)); refine blk_far ?_ NB547_583.out _; (with_reducible repeat (first | refine bN ?_ _ | refine bD ?_ | refine bA ?_ _)); exact BK547.out⟩
     have n8_ : Aside0 ((w78.setCell ⟨gb583, 0, none⟩ (.slice Ao79 t579.length co79)).heap[gb569]? = some (.cells #[.slice Ao60 t565.length co60] 24 (0, 0))) := ⟨by (with_reducible repeat (first | refine bN ?_ _ | refine bD ?_ | refine bA ?_ _)); refine blk_far ?_ NB569_583.out _; (with_reducible repeat (first | refine bN ?_ _ | refine bD ?_ | refine bA ?_ _)); exact BK569.out⟩
     have n9_ : Aside0 ((w78.setCell ⟨gb583, 0, none⟩ (.slice Ao79 t579.length co79)).heap[gb574]? = some (.cells #[.slice Ao67 t570.length co67] 24 (0, 0))) := ⟨by (with_reducible repeat (first | refine bN ?_ _ | refine bD ?_ | refine bA ?_ _)); refine blk_far ?_ NB574_583.out _; (with_reducible repeat (first | refine bN ?_ _ | refine bD ?_ | refine bA ?_ _)); exact BK574.out⟩
     have n10_ : Aside0 ((w78.setCell ⟨gb583, 0, none⟩ (.slice Ao79 t579.length co79)).heap[gb583]? = some (.cells #[.slice Ao79 t579.length co79] 24 (0, 0))) := ⟨by (with_reducible repeat (first | refine bN ?_ _ | refine bD ?_ | refine bA ?_ _)); refine blk_put (cs := #[.slice none 0 0]) ?_ 0 _ rfl; (with_reducible repeat (first | refine bN ?_ _ | refine bD ?_ | refine bA ?_ _)); exact BK583.out⟩
     have n11_ : Aside0 (IsS62 w (w78.setCell ⟨gb583, 0, none⟩ (.slice Ao79 t579.length co79)) g542 t540 t578) := ⟨by repeat (first | (with_reducible first | exact HI542.out | apply IsS62.alloc | apply IsS62.drewN | apply IsS62.drew | apply IsS62.set_1 | refine IsS62.far ?_ NB542_547.out _ | refine IsS62.far ?_ NB542_569.out _ | refine IsS62.far ?_ NB542_574.out _ | refine IsS62.far ?_ NB542_583.out _) | exact HI542.out)⟩
     have n12_ : Aside0 (Below w.heap.size w (w78.setCell ⟨gb583, 0, none⟩ (.slice Ao79 t579.length co79))) := ⟨by repeat (first | (with_reducible first | exact HB.out | apply wA | apply wN | apply wD | refine below_set ?_ (IsS62.ge HI542.out) | refine below_set ?_ GE547.out | refine below_set ?_ GE569.out | refine below_set ?_ GE574.out | refine below_set ?_ GE583.out) | exact HB.out)⟩
     (try clear HO_548000)
     (try clear HO559)
     (try clear HO563)
     (try clear HO567)
     (try clear HO572)
     (try clear HO577)
     (try clear HO581)
     (try clear BK547)
     (try clear BK569)
     (try clear BK574)
     (try clear BK583)
     (try clear HI542)
     (try clear HB)
     generalize (w78.setCell ⟨gb583, 0, none⟩ (.slice Ao79 t579.length co79)) = w81 at n0_ n1_ n2_ n3_ n4_ n5_ n6_ n7_ n8_ n9_ n10_ n11_ n12_ ⊢
     have HO_548000 := n0_
     have HO559 := n1_
     have HO563 := n2_
     have HO567 := n3_
     have HO572 := n4_
     have HO577 := n5_
     have HO581 := n6_
     have BK547 := n7_
     have BK569 := n8_
     have BK574 := n9_
     have BK583 := n10_
     have HI542 := n11_
     have HB := n12_
     clear n0_ n1_ n2_ n3_ n4_ n5_ n6_ n7_ n8_ n9_ n10_ n11_ n12_
     have hnb82 := NB583_547.out
     have hnc82 := NB547_583.out
     have hnb83 := NB583_569.out
     have hnc83 := NB569_583.out
     have hnb84 := NB583_574.out
     have hnc84 := NB574_583.out
     have hnb85 := NB583_542.out
     have hnc85 := NB542_583.out
     have hcz86_0 : w81.cell? ⟨gb583, 0, none⟩ = some (.slice Ao79 t579.length co79) := (blk_cell BK583.out 0).trans rfl
     have hfz86_0 := blk_frozen BK583.out 0
     go_upto_region 18 with (first | ((with_reducible refine gate_callee (f := 15) rfl ?_); refine goesL_ (some 85) rfl rfl Try.func15 (by kernel_rfl) rfl #[.agg #[.slice Ao79 t579.length co79], .int .i64 (Int.tmod (wrap64 (a2)) 4)] rfl (by (try simp only [List.map_toArray, List.map_cons, List.map_nil]); first | done | rfl | (simp only [List.length_drop, List.length_take]; rfl)) ?_; (with_reducible refine (disk_Read.calls (fun k_ => (some k_ ≠ (.slice Ao52 x548000_1.length co52 : Value).ownBlock ∧ (some k_ ≠ (v558 : Value).ownBlock ∧ (some k_ ≠ (v562 : Value).ownBlock ∧ (some k_ ≠ (.slice Ao60 t565.length co60 : Value).ownBlock ∧ (some k_ ≠ (.slice Ao67 t570.length co67 : Value).ownBlock ∧ (some k_ ≠ (v576 : Value).ownBlock ∧ (k_ ≠ g542 ∧ (k_ ≠ gb547 ∧ (k_ ≠ gb569 ∧ (k_ ≠ gb574 ∧ k_ ≠ gb583))))))))))) _ _ t579 (Int.tmod (wrap64 (a2)) 4) t584 t587 _ ?side1 A48.out).mono ?_); (case side1 => exact Kd.N_V (HO581.out)); rintro e w87 ⟨v585, rfl, ho0, hb⟩; refine ⟨_, rfl, ?_⟩; have n0_ := aM (Kd.N_elder' (by (with_reducible repeat (first | apply Kd.N_alloc | apply Kd.N_drewN | apply Kd.N_drew)); exact HO_548000.out) (Kd.R_base ho0) hb); have n1_ := aM (Kd.R_elder' (by (with_reducible repeat (first | apply Kd.R_alloc | apply Kd.R_drewN | apply Kd.R_drew)); exact HO559.out) (Kd.R_base ho0) hb); have n2_ := aM (Kd.R_elder' (by (with_reducible repeat (first | apply Kd.R_alloc | apply Kd.R_drewN | apply Kd.R_drew)); exact HO563.out) (Kd.R_base ho0) hb); have n3_ := aM (Kd.N_elder' (by (with_reducible repeat (first | apply Kd.N_alloc | apply Kd.N_drewN | apply Kd.N_drew)); exact HO567.out) (Kd.R_base ho0) hb); have n4_ := aM (Kd.N_elder' (by (with_reducible repeat (first | apply Kd.N_alloc | apply Kd.N_drewN | apply Kd.N_drew)); exact HO572.out) (Kd.R_base ho0) hb); have n5_ := aM (Kd.R_elder' (by (with_reducible repeat (first | apply Kd.R_alloc | apply Kd.R_drewN | apply Kd.R_drew)); exact HO577.out) (Kd.R_base ho0) hb); have n6_ := aM (Kd.N_elder' (by (with_reducible repeat (first | apply Kd.N_alloc | apply Kd.N_drewN | apply Kd.N_drew)); exact HO581.out) (Kd.R_base ho0) hb); have n7_ := aM (Kd.R_lower (Kd.R_new' (Kd.R_new' (Kd.R_new' (Kd.R_mono (ok' := fun k_ => True) ho0 (fun _ hk_ => trivial)) (Kd.R_lt (by (with_reducible repeat (first | apply Kd.R_alloc | apply Kd.R_drewN | apply Kd.R_drew)); exact HO559.out))) (Kd.R_lt (by (with_reducible repeat (first | apply Kd.R_alloc | apply Kd.R_drewN | apply Kd.R_drew)); exact HO563.out))) (Kd.R_lt (by (with_reducible repeat (first | apply Kd.R_alloc | apply Kd.R_drewN | apply Kd.R_drew)); exact HO577.out))) (below_size (by repeat (first | (with_reducible first | exact HB.out | apply wA | apply wN | apply wD | refine below_set ?_ (IsS62.ge HI542.out) | refine below_set ?_ GE547.out | refine below_set ?_ GE569.out | refine below_set ?_ GE574.out | refine below_set ?_ GE583.out) | exact HB.out)))); have n8_ := aM (blk_below (g := gb547) (o := .cells #[.slice Ao52 x548000_1.length co52] 24 (0, 0)) (by (with_reducible repeat (first | refine bN ?_ _ | refine bD ?_ | refine bA ?_ _)); exact BK547.out) hb); have n9_ := aM (IsS62.below (by repeat (first | (with_reducible first | exact HI542.out | apply IsS62.alloc | apply IsS62.drewN | apply IsS62.drew | apply IsS62.set_1 | refine IsS62.far ?_ NB542_547.out _ | refine IsS62.far ?_ NB542_569.out _ | refine IsS62.far ?_ NB542_574.out _ | refine IsS62.far ?_ NB542_583.out _) | exact HI542.out)) hb); have n10_ := aM (blk_below (g := gb569) (o := .cells #[.slice Ao60 t565.length co60] 24 (0, 0)) (by (with_reducible repeat (first | refine bN ?_ _ | refine bD ?_ | refine bA ?_ _)); exact BK569.out) hb); have n11_ := aM (blk_below (g := gb574) (o := .cells #[.slice Ao67 t570.length co67] 24 (0, 0)) (by (with_reducible repeat (first | refine bN ?_ _ | refine bD ?_ | refine bA ?_ _)); exact BK574.out) hb); have n12_ := aM (blk_below (g := gb583) (o := .cells #[.slice Ao79 t579.length co79] 24 (0, 0)) (by (with_reducible repeat (first | refine bN ?_ _ | refine bD ?_ | refine bA ?_ _)); exact BK583.out) hb); have n13_ := aM (below_step (by repeat (first | (with_reducible first | exact HB.out | apply wA | apply wN | apply wD | refine below_set ?_ (IsS62.ge HI542.out) | refine below_set ?_ GE547.out | refine below_set ?_ GE569.out | refine below_set ?_ GE574.out | refine below_set ?_ GE583.out) | exact HB.out)) hb); clear HO_548000; clear HO559; clear HO563; clear HO567; clear HO572; clear HO577; clear HO581; clear BK547; clear HI542; clear BK569; clear BK574; clear BK583; clear HB; have HO_548000 := n0_; have HO559 := n1_; have HO563 := n2_; have HO567 := n3_; have HO572 := n4_; have HO577 := n5_; have HO581 := n6_; have HO586 := n7_; have BK547 := n8_; have HI542 := n9_; have BK569 := n10_; have BK574 := n11_; have BK583 := n12_; have HB := n13_; clear n0_ n1_ n2_ n3_ n4_ n5_ n6_ n7_ n8_ n9_ n10_ n11_ n12_ n13_; (try clear hb); (try clear hb2); (try clear hk); (try clear hi); (try clear ho0)))
     (try simp only [Act.put, List.setIfInBounds_toArray, List.set_cons_zero, List.set_cons_succ])
     have H := HC49.out
     clear HC49
     by_cases c88 : t582 = 0
     ·rw [if_pos c88] at H
      have c88b0 : (t582 == 0) = true := beq_iff_eq.mpr c88
      have c88b1 : (t582 != 0) = false := bne_eq_false_iff_eq.mpr c88
      clear c88
      by_cases c89 : t587 = 0
      ·rw [if_pos c89] at H
       have c89b0 : (t587 == 0) = true := beq_iff_eq.mpr c89
       have c89b1 : (t587 != 0) = false := bne_eq_false_iff_eq.mpr c89
       clear c89
       by_cases c90 : (Int.tmod (wrap64 (a1)) 4) = (Int.tmod (wrap64 (a2)) 4)
       ·rw [if_pos c90] at H
        have c90b0 : ((Int.tmod (wrap64 (a1)) 4) == (Int.tmod (wrap64 (a2)) 4)) = true := beq_iff_eq.mpr c90
        have c90b1 : ((Int.tmod (wrap64 (a1)) 4) != (Int.tmod (wrap64 (a2)) 4)) = false := bne_eq_false_iff_eq.mpr c90
        clear c90
        obtain rfl := Option.some.inj H
        go_wp2
        go_ret
        exact ⟨by first | rfl | (simp [errW_none, errW_some] <;> rfl) | (simp [*, errW_none, errW_some] <;> rfl), by repeat (first | (with_reducible first | exact HB.out | apply wA | apply wN | apply wD | refine below_set ?_ (IsS62.ge HI542.out) | refine below_set ?_ GE547.out | refine below_set ?_ GE569.out | refine below_set ?_ GE574.out | refine below_set ?_ GE583.out) | exact HB.out)⟩
       ·rw [if_neg c90] at H
        have c90b0 : ((Int.tmod (wrap64 (a1)) 4) == (Int.tmod (wrap64 (a2)) 4)) = false := beq_eq_false_iff_ne.mpr c90
        have c90b1 : ((Int.tmod (wrap64 (a1)) 4) != (Int.tmod (wrap64 (a2)) 4)) = true := bne_iff_ne.mpr c90
        replace H := Option.bind_eq_some_iff.mp H
        obtain ⟨t588, A910, H⟩ := H
        replace H : (some t588) = some r := H
        have A91 := aM A910
        clear A910
        obtain rfl := Option.some.inj H
        obtain ⟨Ao92, co92, eo92⟩ := Kd.R_slice HO559.out
        subst eo92
        obtain ⟨Ao93, co93, eo93⟩ := Kd.R_slice HO586.out
        subst eo93
        go_wp2_with (first | (go_at_call 19; (with_reducible refine (rollbacknetref08_SameBytes.calls k1 _ _ t557 _ _ t584 t588 _ ?side1 ?side2 ?side3 ?side4 A91.out).mono ?_); (case side1 => repeat (first | exact (Kd.R_reads' HO559.out).2.2 | (with_reducible refine Kd.C_alloc ?_ _) | (with_reducible refine Kd.C_drewN ?_ _) | (with_reducible refine Kd.C_drew ?_))); (case side2 => exact (Kd.R_reads' HO559.out).2.1); (case side3 => repeat (first | exact (Kd.R_reads' HO586.out).2.2 | (with_reducible refine Kd.C_alloc ?_ _) | (with_reducible refine Kd.C_drewN ?_ _) | (with_reducible refine Kd.C_drew ?_))); (case side4 => exact (Kd.R_reads' HO586.out).2.1); rintro e w' ⟨rfl, ⟨nd, rfl⟩⟩))
        go_ret
        exact ⟨by first | rfl | (simp [errW_none, errW_some] <;> rfl) | (simp [*, errW_none, errW_some] <;> rfl), by repeat (first | (with_reducible first | exact HB.out | apply wA | apply wN | apply wD | refine below_set ?_ (IsS62.ge HI542.out) | refine below_set ?_ GE547.out | refine below_set ?_ GE569.out | refine below_set ?_ GE574.out | refine below_set ?_ GE583.out) | exact HB.out)⟩
      ·rw [if_neg c89] at H
       have c89b0 : (t587 == 0) = false := beq_eq_false_iff_ne.mpr c89
       have c89b1 : (t587 != 0) = true := bne_iff_ne.mpr c89
       obtain rfl := Option.some.inj H
       go_wp2
       go_ret
       exact ⟨by first | rfl | (simp [errW_none, errW_some] <;> rfl) | (simp [*, errW_none, errW_some] <;> rfl), by repeat (first | (with_reducible first | exact HB.out | apply wA | apply wN | apply wD | refine below_set ?_ (IsS62.ge HI542.out) | refine below_set ?_ GE547.out | refine below_set ?_ GE569.out | refine below_set ?_ GE574.out | refine below_set ?_ GE583.out) | exact HB.out)⟩
     ·rw [if_neg c88] at H
      have c88b0 : (t582 == 0) = false := beq_eq_false_iff_ne.mpr c88
      have c88b1 : (t582 != 0) = true := bne_iff_ne.mpr c88
      obtain rfl := Option.some.inj H
      go_wp2
      go_ret
      exact ⟨by first | rfl | (simp [errW_none, errW_some] <;> rfl) | (simp [*, errW_none, errW_some] <;> rfl), by repeat (first | (with_reducible first | exact HB.out | apply wA | apply wN | apply wD | refine below_set ?_ (IsS62.ge HI542.out) | refine below_set ?_ GE547.out | refine below_set ?_ GE569.out | refine below_set ?_ GE574.out | refine below_set ?_ GE583.out) | exact HB.out)⟩
 ·replace c5 := Bool.eq_false_iff.mpr c5
  subst c5
  have H1 : (some false) = some r := by rw [if_neg (show ¬ (false = true) by decide)] at H; exact H
  clear H
  have H := H1
  clear H1
  obtain rfl := Option.some.inj H
  go_enter Try.func8, Try.ntmps8
  go_wp2_with (first | ((with_reducible refine gate_callee (f := 9) rfl ?_); refine goesL_ (some 25) rfl rfl Try.func9 (by kernel_rfl) rfl #[] rfl (by (try simp only [List.map_toArray, List.map_cons, List.map_nil]); first | done | rfl | (simp only [List.length_drop, List.length_take]; rfl)) ?_; (with_reducible refine (rollbacknetlaw10_awake.calls k  false _ A4.out).mono ?_); rintro e w94 ⟨rfl, hb⟩; refine ⟨_, rfl, ?_⟩; have n0_ := aM (below_step (by repeat (first | (with_reducible first | exact HB.out | apply wA | apply wN | apply wD) | exact HB.out)) hb); clear HB; have HB := n0_; clear n0_; (try clear hb); (try clear hb2); (try clear hk); (try clear hi)))
  go_ret
  exact ⟨by first | rfl | (simp [errW_none, errW_some] <;> rfl) | (simp [*, errW_none, errW_some] <;> rfl), by repeat (first | (with_reducible first | exact HB.out | apply wA | apply wN | apply wD) | exact HB.out)⟩

end Go.Proofs.Ytnfbjdnflifcoaa.PDk
