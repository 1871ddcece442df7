-- Laid by wip/tools/xprint.py, a program of this session over the kit's print: functions as Lean functions, each with its contract.
import Derived.Test.YtnfbjdnflifcoaaPDkx0
import Derived.Test.YtnfbjdnflifcoaaPDkx2
import Derived.Test.YtnfbjdnflifcoaaPDkx5
namespace Go.Proofs.Ytnfbjdnflifcoaa.PDk
open Go.RowKit Go.Proofs.YtnfbjdnflifcoaaW.PrintWords Go.Proofs.YtnfbjdnflifcoaaW.PrintLast Go.Proofs.YtnfbjdnflifcoaaW.PrintMore
attribute [local go_sem] max2_int min2_int max_two min_two max_three min_three max_four min_four   -- for this text's walks alone
set_option linter.unusedVariables false
set_option linter.unusedSimpArgs false

/-- Element i with its second row added to the first. -/
def disk_Sync.tail (t : List S48) (i : Int) : Option (List S48 × Int) :=
  if 0 ≤ i then if i < (t.length : Int) then if (rd_T48 t i).f0.length + (rd_T48 t i).f1.length < 140737488355328 then some (t.set i.toNat ⟨(rd_T48 t i).f0 ++ (rd_T48 t i).f1, []⟩, 0) else none else none else none

/-! ### disk_Sync: function 17 -/
def disk_Sync.f (k : Nat) (l0_0 : List (S48)) (a1 : Int) : Option ((List (S48)) × Int) := (disk_has.f l0_0 a1).bind fun t257 => (if t257 = true then ((disk_clone.f k l0_0).bind fun t258 => (if 0 ≤ a1 then (if a1 < (t258.length : Int) then (disk_Sync.tail t258 a1) else (none)) else (none))) else (some (([] : List (S48)), 11)))
theorem disk_Sync.mono : ∀ a0 a1 k, LeO (disk_Sync.f k a0 a1) (disk_Sync.f (k + 1) a0 a1) := by
 intro a0 a1 k
 unfold disk_Sync.f
 repeat' first
   | (with_reducible exact disk_clone.mono _ _)
   | (with_reducible exact LeO.refl _)
   | (with_reducible exact LeO.none _)
   | (with_reducible refine LeO.ite ?_ ?_)
   | (with_reducible refine LeO.bind ?_ (fun _ => ?_))
   | exact disk_clone.mono _ _
   | exact LeO.none _
   | refine LeO.ite ?_ ?_
   | refine LeO.bind ?_ (fun _ => ?_)
set_option maxHeartbeats 8000000 in
set_option maxRecDepth 100000 in
theorem disk_Sync.calls (k : Nat) (A0_0 : Option Addr) (c0_0 : Nat) (l0_0 : List (S48)) (a1 : Int) (r1 : List (S48)) (r2 : Int) (w : World) (hr0_0 : Kd.C k48 w A0_0 l0_0.length l0_0) (hc0_0 : l0_0.length ≤ c0_0) (h : disk_Sync.f k l0_0 a1 = some (r1, r2)) :
  Calls Try.prog 17 #[.agg #[.slice A0_0 l0_0.length c0_0], .int .i64 a1] w fun e w' => ∃ v0_ : Value, e = .returned (.tuple #[.agg #[v0_], .int .i64 r2]) ∧ Kd.S k48 48 w' w.heap.size (fun _ => True) v0_ r1 ∧ Below w.heap.size w w' := by
 have hu24 := Try.underlying24
 have HR0_0 := aM hr0_0
 have HC0_0 := aM hc0_0
 clear hr0_0 hc0_0
 have HB := aM (Below.refl w.heap.size w)
 have H : ((disk_has.f l0_0 a1).bind fun t257 => (if t257 = true then ((disk_clone.f k l0_0).bind fun t258 => (if 0 ≤ a1 then (if a1 < (t258.length : Int) then (disk_Sync.tail t258 a1) else (none)) else (none))) else (some (([] : List (S48)), 11)))) = some (r1, r2) := h
 clear h
 replace H := Option.bind_eq_some_iff.mp H
 obtain ⟨t257, A30, H⟩ := H
 replace H : (if t257 = true then ((disk_clone.f k l0_0).bind fun t258 => (if 0 ≤ a1 then (if a1 < (t258.length : Int) then (disk_Sync.tail t258 a1) else (none)) else (none))) else (some (([] : List (S48)), 11))) = some (r1, r2) := H
 have A3 := aM A30
 clear A30
 by_cases c4 : t257 = true
 ·subst c4
  have H1 : ((disk_clone.f k l0_0).bind fun t258 => (if 0 ≤ a1 then (if a1 < (t258.length : Int) then (disk_Sync.tail t258 a1) else (none)) else (none))) = some (r1, r2) := by rw [if_pos rfl] at H; exact H
  clear H
  have H := H1
  clear H1
  replace H := Option.bind_eq_some_iff.mp H
  obtain ⟨t258, A50, H⟩ := H
  replace H : (if 0 ≤ a1 then (if a1 < (t258.length : Int) then (disk_Sync.tail t258 a1) else (none)) else (none)) = some (r1, r2) := H
  have A5 := aM A50
  clear A50
  by_cases c6 : 0 ≤ a1
  ·rw [if_pos c6] at H
   have c6b0 : decide (0 ≤ a1) = true := decide_eq_true c6
   clear c6
   by_cases c7 : a1 < (t258.length : Int)
   ·rw [if_pos c7] at H
    have c7b0 : decide (a1 < (t258.length : Int)) = true := decide_eq_true c7
    clear c7
    go_enter Try.func17, Try.ntmps17
    go_wp2_with (first | ((with_reducible refine gate_dst (N := 2) rfl ?_); refine box_event ?hg (N := 2) ?hd (cs := #[.slice A0_0 l0_0.length c0_0]) (t := 24) ?hr ?_; (case hd => rfl); (case hg => rfl); (case hr => first | (go_simp; done) | (go_simp; rfl)); intro gb255 hg w8 hbox hb; have n0_ := aM (below_step (by repeat (first | (with_reducible first | exact HB.out | apply wA | apply wN | apply wD) | exact HB.out)) hb); have n1_ := aM (hbox); have n2_ := aM ((by rw [hg]; exact (below_size (by repeat (first | (with_reducible first | exact HB.out | apply wA | apply wN | apply wD) | exact HB.out))) : w.heap.size ≤ gb255)); have n3_ := aM ((by rw [hg]; exact (below_size (by repeat (first | (with_reducible first | exact HB.out | apply wA | apply wN | apply wD) | exact HB.out))) : w.heap.size ≤ gb255)); clear HB; have HB := n0_; have BK255 := n1_; have GW255 := n2_; have GE255 := n3_; clear n0_ n1_ n2_ n3_; clear hb hbox hg) | ((with_reducible refine gate_dst (N := 4) rfl ?_); refine box_event ?hg (N := 4) ?hd (cs := #[.slice none 0 0]) (t := 24) ?hr ?_; (case hd => rfl); (case hg => rfl); (case hr => first | (go_simp; done) | (go_simp; rfl)); intro gb256 hg w9 hbox hb; have n0_ := aM (blk_below (g := gb255) (o := .cells #[.slice A0_0 l0_0.length c0_0] 24 (0, 0)) (by (with_reducible repeat (first | refine bN ?_ _ | refine bD ?_ | refine bA ?_ _)); exact BK255.out) hb); have n1_ := aM (below_step (by repeat (first | (with_reducible first | exact HB.out | apply wA | apply wN | apply wD | refine below_set ?_ GE255.out) | exact HB.out)) hb); have n2_ := aM (hbox); have n3_ := aM ((by rw [hg]; exact (below_size (by repeat (first | (with_reducible first | exact HB.out | apply wA | apply wN | apply wD | refine below_set ?_ GE255.out) | exact HB.out))) : w.heap.size ≤ gb256)); have n4_ := aM ((by rw [hg]; exact (below_size (by repeat (first | (with_reducible first | exact HB.out | apply wA | apply wN | apply wD | refine below_set ?_ GE255.out) | exact HB.out))) : w.heap.size ≤ gb256)); have n5_ := aM ((by rw [hg]; exact Nat.ne_of_lt (blk_lt (g := gb255) (o := .cells #[.slice A0_0 l0_0.length c0_0] 24 (0, 0)) (by (with_reducible repeat (first | refine bN ?_ _ | refine bD ?_ | refine bA ?_ _)); exact BK255.out)) : gb255 ≠ gb256)); have n6_ := aM ((by rw [hg]; exact Nat.ne_of_gt (blk_lt (g := gb255) (o := .cells #[.slice A0_0 l0_0.length c0_0] 24 (0, 0)) (by (with_reducible repeat (first | refine bN ?_ _ | refine bD ?_ | refine bA ?_ _)); exact BK255.out)) : gb256 ≠ gb255)); clear BK255; clear HB; have BK255 := n0_; have HB := n1_; have BK256 := n2_; have GW256 := n3_; have GE256 := n4_; have NB255_256 := n5_; have NB256_255 := n6_; clear n0_ n1_ n2_ n3_ n4_ n5_ n6_; clear hb hbox hg; have hnb10 := NB255_256.out; have hnc10 := NB256_255.out; have hcz11_0 : w9.cell? ⟨gb255, 0, none⟩ = some (.slice A0_0 l0_0.length c0_0) := (blk_cell BK255.out 0).trans rfl; have hfz11_0 := blk_frozen BK255.out 0) | ((with_reducible refine gate_callee (f := 27) rfl ?_); refine goesL_ (some 9) rfl rfl Try.func27 (by kernel_rfl) rfl #[.agg #[.slice A0_0 l0_0.length c0_0], .int .i64 a1] rfl (by (try simp only [List.map_toArray, List.map_cons, List.map_nil]); first | done | rfl | (simp only [List.length_drop, List.length_take]; rfl)) ?_; (with_reducible refine (disk_has.calls _ _ l0_0 a1 true _ ?side1 ?side2 A3.out).mono ?_); (case side1 => repeat (first | exact (Kd.C_below HR0_0.out HB.out) | (with_reducible refine Kd.C_alloc ?_ _) | (with_reducible refine Kd.C_drewN ?_ _) | (with_reducible refine Kd.C_drew ?_))); (case side2 => exact HC0_0.out); rintro e w12 ⟨rfl, hb⟩; refine ⟨_, rfl, ?_⟩; have n0_ := aM (blk_below (g := gb255) (o := .cells #[.slice A0_0 l0_0.length c0_0] 24 (0, 0)) (by (with_reducible repeat (first | refine bN ?_ _ | refine bD ?_ | refine bA ?_ _)); exact BK255.out) hb); have n1_ := aM (blk_below (g := gb256) (o := .cells #[.slice none 0 0] 24 (0, 0)) (by (with_reducible repeat (first | refine bN ?_ _ | refine bD ?_ | refine bA ?_ _)); exact BK256.out) hb); have n2_ := aM (below_step (by repeat (first | (with_reducible first | exact HB.out | apply wA | apply wN | apply wD | refine below_set ?_ GE255.out | refine below_set ?_ GE256.out) | exact HB.out)) hb); clear BK255; clear BK256; clear HB; have BK255 := n0_; have BK256 := n1_; have HB := n2_; clear n0_ n1_ n2_; (try clear hb); (try clear hb2); (try clear hk); (try clear hi); have hcz13_0 : w12.cell? ⟨gb255, 0, none⟩ = some (.slice A0_0 l0_0.length c0_0) := (blk_cell BK255.out 0).trans rfl; have hfz13_0 := blk_frozen BK255.out 0) | ((with_reducible refine gate_callee (f := 24) rfl ?_); refine goesL_ (some 13) rfl rfl Try.func24 (by kernel_rfl) rfl #[.agg #[.slice A0_0 l0_0.length c0_0]] rfl (by (try simp only [List.map_toArray, List.map_cons, List.map_nil]); first | done | rfl | (simp only [List.length_drop, List.length_take]; rfl)) ?_; (with_reducible refine (disk_clone.callsA k _ _ l0_0 t258 _ ?side1 ?side2 A5.out).mono ?_); (case side1 => repeat (first | exact (Kd.C_below HR0_0.out HB.out) | (with_reducible refine Kd.C_alloc ?_ _) | (with_reducible refine Kd.C_drewN ?_ _) | (with_reducible refine Kd.C_drew ?_))); (case side2 => exact HC0_0.out); rintro e w14 ⟨v259, rfl, ho0, hb⟩; refine ⟨_, rfl, ?_⟩; have n0_ := aM (Kd.S_lower ho0 (below_size (by repeat (first | (with_reducible first | exact HB.out | apply wA | apply wN | apply wD | refine below_set ?_ GE255.out | refine below_set ?_ GE256.out) | exact HB.out)))); have n1_ := aM (blk_below (g := gb255) (o := .cells #[.slice A0_0 l0_0.length c0_0] 24 (0, 0)) (by (with_reducible repeat (first | refine bN ?_ _ | refine bD ?_ | refine bA ?_ _)); exact BK255.out) hb); have n2_ := aM (blk_below (g := gb256) (o := .cells #[.slice none 0 0] 24 (0, 0)) (by (with_reducible repeat (first | refine bN ?_ _ | refine bD ?_ | refine bA ?_ _)); exact BK256.out) hb); have n3_ := aM (below_step (by repeat (first | (with_reducible first | exact HB.out | apply wA | apply wN | apply wD | refine below_set ?_ GE255.out | refine below_set ?_ GE256.out) | exact HB.out)) hb); clear BK255; clear BK256; clear HB; have HO260 := n0_; have BK255 := n1_; have BK256 := n2_; have HB := n3_; clear n0_ n1_ n2_ n3_; (try clear hb); (try clear hb2); (try clear hk); (try clear hi); (try clear ho0); obtain ⟨Ao15, co15, eo15⟩ := Kd.S_slice HO260.out; subst eo15; have hcz16_0 : w14.cell? ⟨gb255, 0, none⟩ = some (.slice A0_0 l0_0.length c0_0) := (blk_cell BK255.out 0).trans rfl; have hfz16_0 := blk_frozen BK255.out 0) | ((with_reducible refine gate_store (t := 24) (p := 2) rfl ?_); refine store_event (t := 24) (p := 2) (v := ?vo_w17) (w1 := (w14.setCell ⟨gb255, 0, none⟩ (.slice Ao15 t258.length co15))) ?hg ?ho ?hn ?hr ?_; (case ho => rfl); (case hg => rfl); (case hn => rfl); (case hr => first | (go_simp; done) | (go_simp; rfl)); intro w17 hw; have n0_ : Aside0 (Kd.S k48a 48 w17 w.heap.size (fun _ => True) (.slice Ao15 t258.length co15) t258) := ⟨(by rw [hw]; exact (by (with_reducible repeat (first | apply Kd.S_alloc | apply Kd.S_drewN | apply Kd.S_drew)); exact Kd.S_mono (Kd.S_far (p := ⟨gb255, 0, none⟩) (Kd.S_types HO260.out BK255.out (by decide)) (fun _ hk => hk.2) (.slice Ao15 t258.length co15)) (fun _ hk => trivial)))⟩; have n1_ : Aside0 (w17.heap[gb255]? = some (.cells #[.slice Ao15 t258.length co15] 24 (0, 0))) := ⟨(by rw [hw]; exact (by (with_reducible repeat (first | refine bN ?_ _ | refine bD ?_ | refine bA ?_ _)); refine blk_put (cs := #[.slice A0_0 l0_0.length c0_0]) ?_ 0 _ rfl; (with_reducible repeat (first | refine bN ?_ _ | refine bD ?_ | refine bA ?_ _)); exact BK255.out))⟩; have n2_ : Aside0 (w17.heap[gb256]? = some (.cells #[.slice none 0 0] 24 (0, 0))) := ⟨(by rw [hw]; exact (by (with_reducible repeat (first | refine bN ?_ _ | refine bD ?_ | refine bA ?_ _)); refine blk_far ?_ NB256_255.out _; (with_reducible repeat (first | refine bN ?_ _ | refine bD ?_ | refine bA ?_ _)); exact BK256.out))⟩; have n3_ : Aside0 (Below w.heap.size w w17) := ⟨(by rw [hw]; exact (by repeat (first | (with_reducible first | exact HB.out | apply wA | apply wN | apply wD | refine below_set ?_ GE255.out | refine below_set ?_ GE256.out) | exact HB.out)))⟩; clear hw; clear HO260; clear BK255; clear BK256; clear HB; have HO260 := n0_; have BK255 := n1_; have BK256 := n2_; have HB := n3_; clear n0_ n1_ n2_ n3_; have hcz18_0 : w17.cell? ⟨gb255, 0, none⟩ = some (.slice Ao15 t258.length co15) := (blk_cell BK255.out 0).trans rfl; have hfz18_0 := blk_frozen BK255.out 0; have p261 : 0 ≤ (a1 : Int) := of_decide_eq_true (by first | (with_reducible assumption) | assumption); have q261 : a1 < (t258.length : Int) := of_decide_eq_true (by first | (with_reducible assumption) | assumption); obtain ⟨ad261, A261_0, c261_0, A261_1, c261_1, e261, hx261_0, hx261_1, hl261_0, hi261_0, hl261_1, hi261_1⟩ := at_T48 (Kd.S_reads' HO260.out).2.2 a1 p261 q261; cases e261; obtain ⟨ce261, hce261, hMe261, hcc261⟩ := Kd.S_get HO260.out z48 a1 p261 (by first | exact q261 | exact of_decide_eq_true (by first | (with_reducible assumption) | assumption) | (have e_ := (Kd.S_reads' HO260.out).1; omega)); obtain ⟨ve261_0, ve261_1, rfl, ge261_0, ge261_1⟩ := k48_openM hMe261; have hv261_0 := hcc261 0 _ rfl; rw [Nat.add_zero] at hv261_0; replace hv261_0 := Option.some.inj (hv261_0.symm.trans hx261_0); rw [hv261_0] at ge261_0; have HL261_0 := aM (show Kd.R (Kd.int .u8) 5 _ _ _ _ ((rd_T48 t258 a1).f0) from ge261_0); clear hv261_0 ge261_0; have hv261_1 := hcc261 1 _ rfl; rw [add_field _ _ 1 (by omega)] at hv261_1; replace hv261_1 := Option.some.inj (hv261_1.symm.trans hx261_1); rw [hv261_1] at ge261_1; have HL261_1 := aM (show Kd.R (Kd.int .u8) 5 _ _ _ _ ((rd_T48 t258 a1).f1) from ge261_1); clear hv261_1 ge261_1; clear hcc261 hce261; have HR261_0 := aM hi261_0; have HC261_0 := aM hl261_0; clear hi261_0 hl261_0; have HR261_1 := aM hi261_1; have HC261_1 := aM hl261_1; clear hi261_1 hl261_1; replace p261 := eq_true p261; replace q261 := eq_true q261))
    unfold disk_Sync.tail at H
    have c17p : a1 < (t258.length : Int) := of_decide_eq_true (by assumption)
    have c6p : 0 ≤ a1 := of_decide_eq_true (by assumption)
    rw [if_pos c6p, if_pos c17p] at H
    rcases Nat.lt_or_ge ((rd_T48 t258 a1).f0.length + (rd_T48 t258 a1).f1.length) 140737488355328 with hlim | hlim
    case inr => rw [if_neg (Nat.not_lt.2 hlim)] at H; exact absurd H (by simp)
    rw [if_pos hlim] at H
    simp only [Option.some.injEq, Prod.mk.injEq] at H
    obtain ⟨hr1, rfl⟩ := H
    have HLIM := aM hlim
    clear hlim
    obtain ⟨go, co, eo, hgb, hgl, cl, hGB⟩ := Kd.S_form HO260.out (by omega)
    cases eo
    have hS1 := Kd.S_drew (Kd.S_set HO260.out BK255.out (by decide) 0 (.slice (some ⟨go, 0, none⟩) t258.length co15))
    have hb1 := bD (blk_put BK255.out 0 (.slice (some ⟨go, 0, none⟩) t258.length co15) rfl)
    have hb2 := bD (blk_far (p := ⟨gb255, 0, none⟩) BK256.out NB256_255.out (.slice (some ⟨go, 0, none⟩) t258.length co15))
    have hB1 := wD (below_set (j := 0) (v := .slice (some ⟨go, 0, none⟩) t258.length co15) HB.out GE255.out)
    have HGE := aM hgb
    obtain ⟨oki, cE, hcl, hM, hcc, hfr, hoki, hH⟩ := Kd.S_elem hS1 z48 a1 c6p c17p
    obtain ⟨fE, v0, v1, rfl, g0, g1⟩ := k48a_openM hM
    obtain ⟨A0, c0, rfl⟩ := Kd.R_slice g0
    obtain ⟨A1, c1, rfl⟩ := Kd.R_slice g1
    have hx0 : World.cell? _ ⟨go, a1.toNat * 2, none⟩ = some (.slice A0 (rd_T48 t258 a1).f0.length c0) := hcc 0 _ rfl
    have hx1 : World.cell? _ ⟨go, a1.toNat * 2 + 1, none⟩ = some (.slice A1 (rd_T48 t258 a1).f1.length c1) := hcc 1 _ rfl
    have hp1 : (0 ≤ a1) = True := eq_true c6p
    have hp2 : (a1 < (t258.length : Int)) = True := eq_true c17p
    have HS1 := aM hS1
    have HB1 := aM hb1
    have HB2 := aM hb2
    have HBL := aM hB1
    have HH := aM hH
    have HG0 := aM g0
    have HG1 := aM g1
    have HCL := aM hcl
    clear hS1 hb1 hb2 hB1 hH g0 g1 hcl hM hoki hgb hgl hGB hcc
    go_simp
    try go_wp2
    obtain ⟨y1, hy1⟩ : ∃ y_ : List Int, y_ = (rd_T48 t258 a1).f0 ++ (rd_T48 t258 a1).f1 := ⟨_, rfl⟩
    have HY := aM hy1
    obtain ⟨x1, hx1_⟩ : ∃ x_ : S48, x_ = ⟨y1, []⟩ := ⟨_, rfl⟩
    have HX := aM hx1_
    rw [← hy1, ← hx1_] at hr1
    subst hr1
    clear hy1 hx1_
    refine start_ (n := 17) (S := fun w' => w'.cell? ⟨go, a1.toNat * 2, none⟩ = some (.slice A0 (rd_T48 t258 a1).f0.length c0) ∧ w'.cell? ⟨go, a1.toNat * 2 + 1, none⟩ = some (.slice A1 (rd_T48 t258 a1).f1.length c1)) (ds := [13, 16]) #[false, false, false, false, false, false, false, false, false, false, false, false, false, false, false, false, false] (by kernel_rfl) rfl rfl ⟨hx0, hx1⟩ (fun hHeld => ?_)
    generalize (w14.setCell ⟨gb255, 0, none⟩ (.slice (some ⟨go, 0, none⟩) t258.length co15)).drew = w5 at *
    refine pure_ (i := 0) (N := some 18) (v := ?_) (a' := ?_) #[true, false, false, false, false, false, false, false, false, false, false, false, false, false, false, false, false] rfl rfl (by kernel_rfl) (fun _ _ _ h => h) (Or.inl ⟨by rfl, ?_⟩) ?_ ?_
    rotate_left
    ·intro w'
     go_simp
     with_reducible rfl
    rotate_left
    ·simp only [Act.put, List.setIfInBounds_toArray, List.set_cons_zero, List.set_cons_succ, i64_w, i32_w]
     rfl
    refine pure_ (i := 1) (N := some 19) (v := ?_) (a' := ?_) #[true, true, false, false, false, false, false, false, false, false, false, false, false, false, false, false, false] rfl rfl (by kernel_rfl) (fun _ _ _ h => h) (Or.inl ⟨by rfl, ?_⟩) ?_ ?_
    rotate_left
    ·intro w'
     go_simp
     with_reducible rfl
    rotate_left
    ·simp only [Act.put, List.setIfInBounds_toArray, List.set_cons_zero, List.set_cons_succ, i64_w, i32_w]
     rfl
    refine pure_ (i := 2) (N := some 20) (v := ?_) (a' := ?_) #[true, true, true, false, false, false, false, false, false, false, false, false, false, false, false, false, false] rfl rfl (by kernel_rfl) (fun _ _ _ h => h) (Or.inl ⟨by rfl, ?_⟩) ?_ ?_
    rotate_left
    ·intro w'
     go_simp
     with_reducible rfl
    rotate_left
    ·simp only [Act.put, List.setIfInBounds_toArray, List.set_cons_zero, List.set_cons_succ, i64_w, i32_w]
     rfl
    refine pure_ (i := 3) (N := some 21) (v := ?_) (a' := ?_) #[true, true, true, true, false, false, false, false, false, false, false, false, false, false, false, false, false] rfl rfl (by kernel_rfl) (fun _ _ _ h => h) (Or.inl ⟨by rfl, ?_⟩) ?_ ?_
    rotate_left
    ·intro w'
     go_simp
     with_reducible rfl
    rotate_left
    ·simp only [Act.put, List.setIfInBounds_toArray, List.set_cons_zero, List.set_cons_succ, i64_w, i32_w]
     rfl
    refine pure_ (i := 4) (N := some 22) (v := ?_) (a' := ?_) #[true, true, true, true, true, false, false, false, false, false, false, false, false, false, false, false, false] rfl rfl (by kernel_rfl) (fun _ _ _ h => h) (Or.inl ⟨by rfl, ?_⟩) ?_ ?_
    rotate_left
    ·intro w'
     go_simp
     with_reducible rfl
    rotate_left
    ·simp only [Act.put, List.setIfInBounds_toArray, List.set_cons_zero, List.set_cons_succ, i64_w, i32_w]
     rfl
    refine pure_ (i := 6) (N := some 24) (v := ?_) (a' := ?_) #[true, true, true, true, true, false, true, false, false, false, false, false, false, false, false, false, false] rfl rfl (by kernel_rfl) (fun _ _ _ h => h) (Or.inl ⟨by rfl, ?_⟩) ?_ ?_
    rotate_left
    ·intro w'
     go_simp
     with_reducible rfl
    rotate_left
    ·simp only [Act.put, List.setIfInBounds_toArray, List.set_cons_zero, List.set_cons_succ, i64_w, i32_w]
     rfl
    refine pure_ (i := 7) (N := some 25) (v := ?_) (a' := ?_) #[true, true, true, true, true, false, true, true, false, false, false, false, false, false, false, false, false] rfl rfl (by kernel_rfl) (fun _ _ _ h => h) (Or.inl ⟨by rfl, ?_⟩) ?_ ?_
    rotate_left
    ·intro w'
     go_simp
     with_reducible rfl
    rotate_left
    ·simp only [Act.put, List.setIfInBounds_toArray, List.set_cons_zero, List.set_cons_succ, i64_w, i32_w]
     rfl
    refine pure_ (i := 8) (N := some 26) (v := ?_) (a' := ?_) #[true, true, true, true, true, false, true, true, true, false, false, false, false, false, false, false, false] rfl rfl (by kernel_rfl) (fun _ _ _ h => h) (Or.inl ⟨by rfl, ?_⟩) ?_ ?_
    rotate_left
    ·intro w'
     go_simp
     with_reducible rfl
    rotate_left
    ·simp only [Act.put, List.setIfInBounds_toArray, List.set_cons_zero, List.set_cons_succ, i64_w, i32_w]
     rfl
    refine take_ (i := 5) (N := some 23) (v := ?_) (a' := ?_) #[true, true, true, true, true, true, true, true, true, false, false, false, false, false, false, false, false] rfl rfl (by kernel_rfl) (fun _ _ _ h => h) (Or.inl ⟨by rfl, ?_⟩) hHeld ?_ ?_
    rotate_left
    ·rintro w' ⟨s0, s1⟩
     go_simp
     with_reducible rfl
    rotate_left
    ·simp only [Act.put, List.setIfInBounds_toArray, List.set_cons_zero, List.set_cons_succ, i64_w, i32_w]
     rfl
    refine take_ (i := 9) (N := some 27) (v := ?_) (a' := ?_) #[true, true, true, true, true, true, true, true, true, true, false, false, false, false, false, false, false] rfl rfl (by kernel_rfl) (fun _ _ _ h => h) (Or.inl ⟨by rfl, ?_⟩) hHeld ?_ ?_
    rotate_left
    ·rintro w' ⟨s0, s1⟩
     go_simp
     with_reducible rfl
    rotate_left
    ·simp only [Act.put, List.setIfInBounds_toArray, List.set_cons_zero, List.set_cons_succ, i64_w, i32_w]
     rfl
    refine one_ (i := 10) (N := some 28) #[true, true, true, true, true, true, true, true, true, true, true, false, false, false, false, false, false] rfl rfl (by kernel_rfl) (by decide) (fun K hK => ?_)
    refine Kd.R_append_rows_step (Kd.int .u8) (w0 := w) w.heap.size (by rfl) (.tmp 23) (.tmp 27) 30 5 (.int .u8 0) 1 rfl Try.underlying30 info5 rfl (by decide) (by omega) (.slice A0 (rd_T48 t258 a1).f0.length c0) (rd_T48 t258 a1).f0 (rd_T48 t258 a1).f1 _ _ _ (fun k => (oki k ∧ fE k = true) ∨ w5.heap.size ≤ k) (fun _ => False) rfl rfl (Kd.R_mono HG0.out (fun _ h => .inl h)) (Kd.R_reads' HG1.out).2.2 (fun _ _ h => h) (fun _ h => h.elim) (fun _ h => .inr h) HBL.out (below_size HBL.out) ?hl ?_
    (case hl => have := HLIM.out; omega)
    intro v1 w1 ho hb hg hat
    rw [← HY.out] at ho
    have HN0 := aM ho
    have HN1 := aM (Kd.R_grown (Kd.R_mono (Kd.R_bound HG1.out) (ok' := fun k => (oki k ∧ fE k = false) ∧ k < w5.heap.size) (fun k h => ⟨h.1, h.2.2.1⟩)) hg (fun k hk he => by have h1 := (HG0.out.1 k he.symm).2; rw [hk.1.2] at h1; exact absurd h1 (by decide)))
    have HN2 := aM (Kd.H_grown (Kd.H_widen HH.out) hg (fun k he => .inl (HG0.out.1 k he).1))
    have HN3 := aM (blk_grown HB1.out hg (Kd.R_ne HG0.out HB1.out (by decide)))
    have HN4 := aM (blk_grown HB2.out hg (Kd.R_ne HG0.out HB2.out (by decide)))
    have HN5 := aM hb
    clear ho hb hg hat
    obtain ⟨A3, c3, eo3⟩ := Kd.R_slice HN0.out
    subst eo3
    obtain ⟨_, _, hraw, _, _, hcc1, _⟩ := Kd.H_raw HN2.out c6p c17p
    obtain ⟨_, hfr1⟩ := Kd.H_at HN2.out c6p c17p
    have hz0 : World.cell? _ ⟨go, a1.toNat * 2, none⟩ = some (.slice A0 (rd_T48 t258 a1).f0.length c0) := hcc1 0 _ rfl
    have hz1 : World.cell? _ ⟨go, a1.toNat * 2 + 1, none⟩ = some (.slice A1 (rd_T48 t258 a1).f1.length c1) := hcc1 1 _ rfl
    have hy0 : World.frozen? _ ⟨go, a1.toNat * 2, none⟩ = false := hfr1 0
    have hy1 : World.frozen? _ ⟨go, a1.toNat * 2 + 1, none⟩ = false := hfr1 1
    refine hK.out _ _ ⟨hz0, hz1⟩ (fun hHeld => ?_)
    clear hK K
    refine norm_ (a' := ?_) ?_ ?_
    rotate_left
    ·show Act.put _ (some 28) _ = _
     simp only [Act.put, List.setIfInBounds_toArray, List.set_cons_zero, List.set_cons_succ, i64_w, i32_w]
     rfl
    refine pure_ (i := 11) (N := some 29) (v := ?_) (a' := ?_) #[true, true, true, true, true, true, true, true, true, true, true, true, false, false, false, false, false] rfl rfl (by kernel_rfl) (fun _ _ _ h => h) (Or.inl ⟨by rfl, ?_⟩) ?_ ?_
    rotate_left
    ·intro w'
     go_simp
     with_reducible rfl
    rotate_left
    ·simp only [Act.put, List.setIfInBounds_toArray, List.set_cons_zero, List.set_cons_succ, i64_w, i32_w]
     rfl
    refine pure_ (i := 12) (N := some 30) (v := ?_) (a' := ?_) #[true, true, true, true, true, true, true, true, true, true, true, true, true, false, false, false, false] rfl rfl (by kernel_rfl) (fun _ _ _ h => h) (Or.inl ⟨by rfl, ?_⟩) ?_ ?_
    rotate_left
    ·intro w'
     go_simp
     with_reducible rfl
    rotate_left
    ·simp only [Act.put, List.setIfInBounds_toArray, List.set_cons_zero, List.set_cons_succ, i64_w, i32_w]
     rfl
    refine last_ (i := 13) (N := none) #[true, true, true, true, true, true, true, true, true, true, true, true, true, true, false, false, false] rfl rfl (by kernel_rfl) (by decide) (fun K hK => ?_)
    refine skip_ (w1 := ?_) (by rfl) rfl ?_ ?_
    rotate_left
    ·go_simp
     rfl
    refine hK.out _ _ ?_
    clear hK K
    refine pure_ (i := 14) (N := some 31) (v := ?_) (a' := ?_) #[true, true, true, true, true, true, true, true, true, true, true, true, true, true, true, false, false] rfl rfl (by kernel_rfl) (fun _ _ _ h => h) (Or.inl ⟨by rfl, ?_⟩) ?_ ?_
    rotate_left
    ·intro w'
     go_simp
     with_reducible rfl
    rotate_left
    ·simp only [Act.put, List.setIfInBounds_toArray, List.set_cons_zero, List.set_cons_succ, i64_w, i32_w]
     rfl
    refine pure_ (i := 15) (N := some 32) (v := ?_) (a' := ?_) #[true, true, true, true, true, true, true, true, true, true, true, true, true, true, true, true, false] rfl rfl (by kernel_rfl) (fun _ _ _ h => h) (Or.inl ⟨by rfl, ?_⟩) ?_ ?_
    rotate_left
    ·intro w'
     go_simp
     with_reducible rfl
    rotate_left
    ·simp only [Act.put, List.setIfInBounds_toArray, List.set_cons_zero, List.set_cons_succ, i64_w, i32_w]
     rfl
    refine last_ (i := 16) (N := none) #[true, true, true, true, true, true, true, true, true, true, true, true, true, true, true, true, true] rfl rfl (by kernel_rfl) (by decide) (fun K hK => ?_)
    refine skip_ (w1 := ?_) (by rfl) rfl ?_ ?_
    rotate_left
    ·go_simp
     rfl
    refine hK.out _ _ ?_
    clear hK K
    refine done_ (by kernel_rfl) ?_
    have HP := Kd.S_seg0 HN2.out c6p c17p (seg := [.slice A3 y1.length c3, .slice none 0 0]) (j := 0) (show 0 + 2 ≤ 2 by decide) (x' := x1) (HX.out ▸ k48a_mk (⟨y1, []⟩ : S48) HN0.out (Kd.R_nil (Kd.int .u8) 5 _ _ (fun _ => False)) (fun _ _ h => h)) (fun k hk => hk.elim (fun h => h.elim (fun h => .inl h.1) (fun h => .inr ⟨trivial, h⟩)) (fun h => h.elim))
    have HB3 := aM (blk_grown HN3.out HP.2 (Kd.S_ne HS1.out HB1.out (by decide)))
    have HB4 := aM (blk_grown HN4.out HP.2 (Kd.S_ne HS1.out HB2.out (by decide)))
    have HS2 := aM HP.1
    have HB5 := aM (below_set (j := a1.toNat * 2 + 1) (v := .slice none 0 0) (below_set (j := a1.toNat * 2) (v := .slice A3 y1.length c3) HN5.out HGE.out) HGE.out)
    clear HP hraw hz0 hz1 hy0 hy1 hfr1 hcc1
    change Aside0 ((((w1.setCell ⟨go, a1.toNat * 2, none⟩ (.slice A3 y1.length c3)).setCell ⟨go, a1.toNat * 2 + 1, none⟩ (.slice none 0 0)).heap[gb255]?) = _) at HB3
    change Aside0 ((((w1.setCell ⟨go, a1.toNat * 2, none⟩ (.slice A3 y1.length c3)).setCell ⟨go, a1.toNat * 2 + 1, none⟩ (.slice none 0 0)).heap[gb256]?) = _) at HB4
    change Aside0 (Kd.S k48a 48 ((w1.setCell ⟨go, a1.toNat * 2, none⟩ (.slice A3 y1.length c3)).setCell ⟨go, a1.toNat * 2 + 1, none⟩ (.slice none 0 0)) _ _ _ _) at HS2
    generalize (w1.setCell ⟨go, a1.toNat * 2, none⟩ (.slice A3 y1.length c3)).setCell ⟨go, a1.toNat * 2 + 1, none⟩ (.slice none 0 0) = w6 at *
    have hcz1 := (blk_cell HB3.out 0).trans rfl
    have hfz1 := blk_frozen HB3.out 0
    have hcz2 := (blk_cell HB4.out 0).trans rfl
    have hfz2 := blk_frozen HB4.out 0
    clear hx0 hx1 hfr
    go_wp2
    refine bodyPost_ret (results_ct rfl _ _ gb256 24 #[.slice (some ⟨go, 0, none⟩) t258.length co15] (0, 0) _ rfl (blk_put (cs := #[.slice none 0 0]) HB4.out 0 _ rfl) Try.underlying24 rfl (by kernel_rfl)) rfl ?_
    exact ⟨_, rfl, k48a_S (Kd.S_set HS2.out HB4.out (by decide) 0 _), below_set HB5.out GE256.out⟩
   ·rw [if_neg c7] at H
    exact absurd H (by simp)
  ·rw [if_neg c6] at H
   exact absurd H (by simp)
 ·replace c4 := Bool.eq_false_iff.mpr c4
  subst c4
  have H1 : (some (([] : List (S48)), 11)) = some (r1, r2) := by rw [if_neg (show ¬ (false = true) by decide)] at H; exact H
  clear H
  have H := H1
  clear H1
  simp only [Option.some.injEq, Prod.mk.injEq] at H
  obtain ⟨rfl, rfl⟩ := H
  go_enter Try.func17, Try.ntmps17
  go_wp2_with (first | ((with_reducible refine gate_dst (N := 2) rfl ?_); refine box_event ?hg (N := 2) ?hd (cs := #[.slice A0_0 l0_0.length c0_0]) (t := 24) ?hr ?_; (case hd => rfl); (case hg => rfl); (case hr => first | (go_simp; done) | (go_simp; rfl)); intro gb255 hg w19 hbox hb; have n0_ := aM (below_step (by repeat (first | (with_reducible first | exact HB.out | apply wA | apply wN | apply wD) | exact HB.out)) hb); have n1_ := aM (hbox); have n2_ := aM ((by rw [hg]; exact (below_size (by repeat (first | (with_reducible first | exact HB.out | apply wA | apply wN | apply wD) | exact HB.out))) : w.heap.size ≤ gb255)); have n3_ := aM ((by rw [hg]; exact (below_size (by repeat (first | (with_reducible first | exact HB.out | apply wA | apply wN | apply wD) | exact HB.out))) : w.heap.size ≤ gb255)); clear HB; have HB := n0_; have BK255 := n1_; have GW255 := n2_; have GE255 := n3_; clear n0_ n1_ n2_ n3_; clear hb hbox hg) | ((with_reducible refine gate_dst (N := 4) rfl ?_); refine box_event ?hg (N := 4) ?hd (cs := #[.slice none 0 0]) (t := 24) ?hr ?_; (case hd => rfl); (case hg => rfl); (case hr => first | (go_simp; done) | (go_simp; rfl)); intro gb256 hg w20 hbox hb; have n0_ := aM (blk_below (g := gb255) (o := .cells #[.slice A0_0 l0_0.length c0_0] 24 (0, 0)) (by (with_reducible repeat (first | refine bN ?_ _ | refine bD ?_ | refine bA ?_ _)); exact BK255.out) hb); have n1_ := aM (below_step (by repeat (first | (with_reducible first | exact HB.out | apply wA | apply wN | apply wD | refine below_set ?_ GE255.out) | exact HB.out)) hb); have n2_ := aM (hbox); have n3_ := aM ((by rw [hg]; exact (below_size (by repeat (first | (with_reducible first | exact HB.out | apply wA | apply wN | apply wD | refine below_set ?_ GE255.out) | exact HB.out))) : w.heap.size ≤ gb256)); have n4_ := aM ((by rw [hg]; exact (below_size (by repeat (first | (with_reducible first | exact HB.out | apply wA | apply wN | apply wD | refine below_set ?_ GE255.out) | exact HB.out))) : w.heap.size ≤ gb256)); have n5_ := aM ((by rw [hg]; exact Nat.ne_of_lt (blk_lt (g := gb255) (o := .cells #[.slice A0_0 l0_0.length c0_0] 24 (0, 0)) (by (with_reducible repeat (first | refine bN ?_ _ | refine bD ?_ | refine bA ?_ _)); exact BK255.out)) : gb255 ≠ gb256)); have n6_ := aM ((by rw [hg]; exact Nat.ne_of_gt (blk_lt (g := gb255) (o := .cells #[.slice A0_0 l0_0.length c0_0] 24 (0, 0)) (by (with_reducible repeat (first | refine bN ?_ _ | refine bD ?_ | refine bA ?_ _)); exact BK255.out)) : gb256 ≠ gb255)); clear BK255; clear HB; have BK255 := n0_; have HB := n1_; have BK256 := n2_; have GW256 := n3_; have GE256 := n4_; have NB255_256 := n5_; have NB256_255 := n6_; clear n0_ n1_ n2_ n3_ n4_ n5_ n6_; clear hb hbox hg; have hnb21 := NB255_256.out; have hnc21 := NB256_255.out; have hcz22_0 : w20.cell? ⟨gb255, 0, none⟩ = some (.slice A0_0 l0_0.length c0_0) := (blk_cell BK255.out 0).trans rfl; have hfz22_0 := blk_frozen BK255.out 0) | ((with_reducible refine gate_callee (f := 27) rfl ?_); refine goesL_ (some 9) rfl rfl Try.func27 (by kernel_rfl) rfl #[.agg #[.slice A0_0 l0_0.length c0_0], .int .i64 a1] rfl (by (try simp only [List.map_toArray, List.map_cons, List.map_nil]); first | done | rfl | (simp only [List.length_drop, List.length_take]; rfl)) ?_; (with_reducible refine (disk_has.calls _ _ l0_0 a1 false _ ?side1 ?side2 A3.out).mono ?_); (case side1 => repeat (first | exact (Kd.C_below HR0_0.out HB.out) | (with_reducible refine Kd.C_alloc ?_ _) | (with_reducible refine Kd.C_drewN ?_ _) | (with_reducible refine Kd.C_drew ?_))); (case side2 => exact HC0_0.out); rintro e w23 ⟨rfl, hb⟩; refine ⟨_, rfl, ?_⟩; have n0_ := aM (blk_below (g := gb255) (o := .cells #[.slice A0_0 l0_0.length c0_0] 24 (0, 0)) (by (with_reducible repeat (first | refine bN ?_ _ | refine bD ?_ | refine bA ?_ _)); exact BK255.out) hb); have n1_ := aM (blk_below (g := gb256) (o := .cells #[.slice none 0 0] 24 (0, 0)) (by (with_reducible repeat (first | refine bN ?_ _ | refine bD ?_ | refine bA ?_ _)); exact BK256.out) hb); have n2_ := aM (below_step (by repeat (first | (with_reducible first | exact HB.out | apply wA | apply wN | apply wD | refine below_set ?_ GE255.out | refine below_set ?_ GE256.out) | exact HB.out)) hb); clear BK255; clear BK256; clear HB; have BK255 := n0_; have BK256 := n1_; have HB := n2_; clear n0_ n1_ n2_; (try clear hb); (try clear hb2); (try clear hk); (try clear hi); have hcz24_0 : w23.cell? ⟨gb256, 0, none⟩ = some (.slice none 0 0) := (blk_cell BK256.out 0).trans rfl; have hfz24_0 := blk_frozen BK256.out 0))
  refine bodyPost_ret (results_ct rfl _ _ gb256 24 #[.slice none 0 0] (0, 0) _ rfl (by (with_reducible repeat (first | refine bN ?_ _ | refine bD ?_ | refine bA ?_ _)); refine blk_put (cs := #[.slice none 0 0]) ?_ 0 _ rfl; (with_reducible repeat (first | refine bN ?_ _ | refine bD ?_ | refine bA ?_ _)); exact BK256.out) Try.underlying24 rfl (by kernel_rfl)) rfl ?_
  exact ⟨_, by first | rfl | (simp [errW_none, errW_some] <;> rfl) | (simp [*, errW_none, errW_some] <;> rfl), by first | exact Kd.S_nil _ _ _ _ _ | exact Kd.N_nil _ _ _ _ _ | exact Kd.V_nil _ _ _ _ _ | exact Kd.Q_nil _ _ _ _ _ | exact Kd.R_nil _ _ _ _ _, by repeat (first | (with_reducible first | exact HB.out | apply wA | apply wN | apply wD | refine below_set ?_ GE255.out | refine below_set ?_ GE256.out) | exact HB.out)⟩

end Go.Proofs.Ytnfbjdnflifcoaa.PDk
