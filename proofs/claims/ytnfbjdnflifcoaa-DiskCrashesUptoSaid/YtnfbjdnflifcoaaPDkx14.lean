-- Laid by wip/tools/xprint.py, a program of this session over the kit's print: functions as Lean functions, each with its contract.
import Derived.Test.YtnfbjdnflifcoaaPDkx0
import Derived.Test.YtnfbjdnflifcoaaPDkx13
namespace Go.Proofs.Ytnfbjdnflifcoaa.PDk
open Go.RowKit Go.Proofs.YtnfbjdnflifcoaaW.PrintWords Go.Proofs.YtnfbjdnflifcoaaW.PrintLast Go.Proofs.YtnfbjdnflifcoaaW.PrintMore
attribute [local go_sem] max2_int min2_int max_two min_two max_three min_three max_four min_four   -- for this text's walks alone
set_option linter.unusedVariables false
set_option linter.unusedSimpArgs false

/-! ### rollbacknetref10_Crash: function 12 -/
def rollbacknetref10_Crash.l0 : Nat → List (S39) → Int → List (S48) → List (S48) → Option ((List (S48)))
 | 0, _, _, _, _ => none
 | k + 1, x1, x6, x188000, x190000 => if x6 < (x188000.length : Int) then (if x6 < (x1.length : Int) then (if 0 ≤ x6 then (if ([] : List Int).length + ((rd_T48 x188000 x6).f0).length < 140737488355328 then ((some (([] : List Int) ++ ((rd_T48 x188000 x6).f0) : List Int)).bind fun y194 => ((rollbacknetref10_Torn.f k ((rd_T48 x188000 x6).f1) ((rd_T39 x1 x6).f0) ((rd_T39 x1 x6).f1)).bind fun t197 => (if y194.length + t197.length < 140737488355328 then (if x190000.length < 2932031007402 then (rollbacknetref10_Crash.l0 k x1 (wrap64 (x6 + 1)) x188000 (x190000 ++ [(⟨(y194 ++ t197), ([] : List Int)⟩ : S48)])) else (none)) else (none)))) else (none)) else (none)) else (if 0 ≤ x6 then (if ([] : List Int).length + ((rd_T48 x188000 x6).f0).length < 140737488355328 then ((some (([] : List Int) ++ ((rd_T48 x188000 x6).f0) : List Int)).bind fun y208 => ((rollbacknetref10_Torn.f k ((rd_T48 x188000 x6).f1) 0 ([] : List Int)).bind fun t211 => (if y208.length + t211.length < 140737488355328 then (if x190000.length < 2932031007402 then (rollbacknetref10_Crash.l0 k x1 (wrap64 (x6 + 1)) x188000 (x190000 ++ [(⟨(y208 ++ t211), ([] : List Int)⟩ : S48)])) else (none)) else (none)))) else (none)) else (none))) else (some x190000)
def rollbacknetref10_Crash.f (k : Nat) (l0_0 : List (S48)) (l1 : List (S39)) : Option ((List (S48))) := rollbacknetref10_Crash.l0 k l1 0 l0_0 ([] : List (S48))
theorem rollbacknetref10_Crash.mono_l : ∀ k, (∀ y0 y1 y2 y3, LeO (rollbacknetref10_Crash.l0 k y0 y1 y2 y3) (rollbacknetref10_Crash.l0 (k + 1) y0 y1 y2 y3))
 | 0 => fun _ _ _ _ r h => by simp [rollbacknetref10_Crash.l0] at h
 | k + 1 => by
  have ih0 := rollbacknetref10_Crash.mono_l k
  ·intro y0 y1 y2 y3
   unfold rollbacknetref10_Crash.l0
   repeat' first
   | (with_reducible exact ih0 _ _ _ _)
   | (with_reducible exact rollbacknetref10_Torn.mono _ _ _ _)
   | (with_reducible exact LeO.refl _)
   | (with_reducible exact LeO.none _)
   | (with_reducible refine LeO.ite ?_ ?_)
   | (with_reducible refine LeO.bind ?_ (fun _ => ?_))
   | exact ih0 _ _ _ _
   | exact rollbacknetref10_Torn.mono _ _ _ _
   | exact LeO.none _
   | refine LeO.ite ?_ ?_
   | refine LeO.bind ?_ (fun _ => ?_)
theorem rollbacknetref10_Crash.mono : ∀ a0 a1 k, LeO (rollbacknetref10_Crash.f k a0 a1) (rollbacknetref10_Crash.f (k + 1) a0 a1) := by
 intro a0 a1 k
 have ih0 := rollbacknetref10_Crash.mono_l k
 unfold rollbacknetref10_Crash.f
 repeat' first
   | (with_reducible exact ih0 _ _ _ _)
   | (with_reducible exact rollbacknetref10_Torn.mono _ _ _ _)
   | (with_reducible exact LeO.refl _)
   | (with_reducible exact LeO.none _)
   | (with_reducible refine LeO.ite ?_ ?_)
   | (with_reducible refine LeO.bind ?_ (fun _ => ?_))
   | exact ih0 _ _ _ _
   | exact rollbacknetref10_Torn.mono _ _ _ _
   | exact LeO.none _
   | refine LeO.ite ?_ ?_
   | refine LeO.bind ?_ (fun _ => ?_)
def rollbacknetref10_Crash.T9 : Bool × List (List Nat × List Nat) := (true, [([], []), ([0], [0]), ([], []), ([2], [2]), ([3], [3]), ([], []), ([5], [5]), ([], []), ([6, 7, 4], [6, 7]), ([4, 8, 8], [4, 8]), ([9], [9]), ([10], [10]), ([1, 11, 9], [1, 11]), ([0, 1, 2, 3, 4, 5, 6, 7, 8, 9, 10, 11, 12], []), ([13, 12, 12, 0, 1, 2, 3, 4, 5, 6, 7, 8, 9, 10, 11, 12], [12, 13])])
def rollbacknetref10_Crash.B9 : List Nat := [0, 1, 0, 4, 12, 0, 32, 0, 252, 508, 1020, 2044, 4095, 8191, 16383]
theorem rollbacknetref10_Crash.tab9 : rtab .any (opsOf Try.f12 9) = rollbacknetref10_Crash.T9 := by kernel_rfl
theorem rollbacknetref10_Crash.bits9 : waitsOk rollbacknetref10_Crash.T9.2 rollbacknetref10_Crash.B9 = true := by kernel_rfl
set_option maxHeartbeats 8000000 in
set_option maxRecDepth 100000 in
theorem rollbacknetref10_Crash.calls (k : Nat) (A0_0 : Option Addr) (c0_0 : Nat) (l0_0 : List (S48)) (A1 : Option Addr) (c1 : Nat) (l1 : List (S39)) (r : List (S48)) (w : World) (hr0_0 : Kd.C k48 w A0_0 l0_0.length l0_0) (hc0_0 : l0_0.length ≤ c0_0) (hr1 : Kd.C k39 w A1 l1.length l1) (hc1 : l1.length ≤ c1) (h : rollbacknetref10_Crash.f k l0_0 l1 = some r) :
  Calls Try.prog 12 #[.agg #[.slice A0_0 l0_0.length c0_0], .slice A1 l1.length c1] w fun e w' => ∃ v0_ : Value, e = .returned (.agg #[v0_]) ∧ Kd.S k48 48 w' w.heap.size (fun _ => True) v0_ r ∧ Below w.heap.size w w' := by
 have hu24 := Try.underlying24
 have hu39 := Try.underlying39
 have hu48 := Try.underlying48
 have HR0_0 := aM hr0_0
 have HC0_0 := aM hc0_0
 clear hr0_0 hc0_0
 have HR1 := aM hr1
 have HC1 := aM hc1
 clear hr1 hc1
 have HB := aM (Below.refl w.heap.size w)
 have H : (rollbacknetref10_Crash.l0 k l1 0 l0_0 ([] : List (S48))) = some r := h
 clear h
 have H' := aM H
 clear H
 go_enter Try.func12, Try.ntmps12
 go_wp2_with (first | ((with_reducible refine gate_dst (N := 2) rfl ?_); refine box_event ?hg (N := 2) ?hd (cs := #[.slice A0_0 l0_0.length c0_0]) (t := 24) ?hr ?_; (case hd => rfl); (case hg => rfl); (case hr => first | (go_simp; done) | (go_simp; rfl)); intro gb187 hg w3 hbox hb; have n0_ := aM (below_step (by repeat (first | (with_reducible first | exact HB.out | apply wA | apply wN | apply wD) | exact HB.out)) hb); have n1_ := aM (hbox); have n2_ := aM ((by rw [hg]; exact (below_size (by repeat (first | (with_reducible first | exact HB.out | apply wA | apply wN | apply wD) | exact HB.out))) : w.heap.size ≤ gb187)); have n3_ := aM ((by rw [hg]; exact (below_size (by repeat (first | (with_reducible first | exact HB.out | apply wA | apply wN | apply wD) | exact HB.out))) : w.heap.size ≤ gb187)); clear HB; have HB := n0_; have BK187 := n1_; have GW187 := n2_; have GE187 := n3_; clear n0_ n1_ n2_ n3_; clear hb hbox hg) | ((with_reducible refine gate_dst (N := 4) rfl ?_); refine box_event ?hg (N := 4) ?hd (cs := #[.slice none 0 0]) (t := 24) ?hr ?_; (case hd => rfl); (case hg => rfl); (case hr => first | (go_simp; done) | (go_simp; rfl)); intro gb188 hg w4 hbox hb; have n0_ := aM (blk_below (g := gb187) (o := .cells #[.slice A0_0 l0_0.length c0_0] 24 (0, 0)) (by (with_reducible repeat (first | refine bN ?_ _ | refine bD ?_ | refine bA ?_ _)); exact BK187.out) hb); have n1_ := aM (below_step (by repeat (first | (with_reducible first | exact HB.out | apply wA | apply wN | apply wD | refine below_set ?_ GE187.out) | exact HB.out)) hb); have n2_ := aM (hbox); have n3_ := aM ((by rw [hg]; exact (below_size (by repeat (first | (with_reducible first | exact HB.out | apply wA | apply wN | apply wD | refine below_set ?_ GE187.out) | exact HB.out))) : w.heap.size ≤ gb188)); have n4_ := aM ((by rw [hg]; exact (below_size (by repeat (first | (with_reducible first | exact HB.out | apply wA | apply wN | apply wD | refine below_set ?_ GE187.out) | exact HB.out))) : w.heap.size ≤ gb188)); have n5_ := aM ((by rw [hg]; exact Nat.ne_of_lt (blk_lt (g := gb187) (o := .cells #[.slice A0_0 l0_0.length c0_0] 24 (0, 0)) (by (with_reducible repeat (first | refine bN ?_ _ | refine bD ?_ | refine bA ?_ _)); exact BK187.out)) : gb187 ≠ gb188)); have n6_ := aM ((by rw [hg]; exact Nat.ne_of_gt (blk_lt (g := gb187) (o := .cells #[.slice A0_0 l0_0.length c0_0] 24 (0, 0)) (by (with_reducible repeat (first | refine bN ?_ _ | refine bD ?_ | refine bA ?_ _)); exact BK187.out)) : gb188 ≠ gb187)); clear BK187; clear HB; have BK187 := n0_; have HB := n1_; have BK188 := n2_; have GW188 := n3_; have GE188 := n4_; have NB187_188 := n5_; have NB188_187 := n6_; clear n0_ n1_ n2_ n3_ n4_ n5_ n6_; clear hb hbox hg) | ((with_reducible refine gate_dst (N := 5) rfl ?_); refine box_event ?hg (N := 5) ?hd (cs := #[.slice none 0 0]) (t := 24) ?hr ?_; (case hd => rfl); (case hg => rfl); (case hr => first | (go_simp; done) | (go_simp; rfl)); intro gb189 hg w5 hbox hb; have n0_ := aM (blk_below (g := gb187) (o := .cells #[.slice A0_0 l0_0.length c0_0] 24 (0, 0)) (by (with_reducible repeat (first | refine bN ?_ _ | refine bD ?_ | refine bA ?_ _)); exact BK187.out) hb); have n1_ := aM (blk_below (g := gb188) (o := .cells #[.slice none 0 0] 24 (0, 0)) (by (with_reducible repeat (first | refine bN ?_ _ | refine bD ?_ | refine bA ?_ _)); exact BK188.out) hb); have n2_ := aM (below_step (by repeat (first | (with_reducible first | exact HB.out | apply wA | apply wN | apply wD | refine below_set ?_ GE187.out | refine below_set ?_ GE188.out) | exact HB.out)) hb); have n3_ := aM (hbox); have n4_ := aM ((by rw [hg]; exact (below_size (by repeat (first | (with_reducible first | exact HB.out | apply wA | apply wN | apply wD | refine below_set ?_ GE187.out | refine below_set ?_ GE188.out) | exact HB.out))) : w.heap.size ≤ gb189)); have n5_ := aM ((by rw [hg]; exact (below_size (by repeat (first | (with_reducible first | exact HB.out | apply wA | apply wN | apply wD | refine below_set ?_ GE187.out | refine below_set ?_ GE188.out) | exact HB.out))) : w.heap.size ≤ gb189)); have n6_ := aM ((by rw [hg]; exact Nat.ne_of_lt (blk_lt (g := gb187) (o := .cells #[.slice A0_0 l0_0.length c0_0] 24 (0, 0)) (by (with_reducible repeat (first | refine bN ?_ _ | refine bD ?_ | refine bA ?_ _)); exact BK187.out)) : gb187 ≠ gb189)); have n7_ := aM ((by rw [hg]; exact Nat.ne_of_gt (blk_lt (g := gb187) (o := .cells #[.slice A0_0 l0_0.length c0_0] 24 (0, 0)) (by (with_reducible repeat (first | refine bN ?_ _ | refine bD ?_ | refine bA ?_ _)); exact BK187.out)) : gb189 ≠ gb187)); have n8_ := aM ((by rw [hg]; exact Nat.ne_of_lt (blk_lt (g := gb188) (o := .cells #[.slice none 0 0] 24 (0, 0)) (by (with_reducible repeat (first | refine bN ?_ _ | refine bD ?_ | refine bA ?_ _)); exact BK188.out)) : gb188 ≠ gb189)); have n9_ := aM ((by rw [hg]; exact Nat.ne_of_gt (blk_lt (g := gb188) (o := .cells #[.slice none 0 0] 24 (0, 0)) (by (with_reducible repeat (first | refine bN ?_ _ | refine bD ?_ | refine bA ?_ _)); exact BK188.out)) : gb189 ≠ gb188)); clear BK187; clear BK188; clear HB; have BK187 := n0_; have BK188 := n1_; have HB := n2_; have BK189 := n3_; have GW189 := n4_; have GE189 := n5_; have NB187_189 := n6_; have NB189_187 := n7_; have NB188_189 := n8_; have NB189_188 := n9_; clear n0_ n1_ n2_ n3_ n4_ n5_ n6_ n7_ n8_ n9_; clear hb hbox hg))
 go_loopg [6] k (fun kq v6 w' => ∃ (x6_1 : Int) (x190000_1 : List (S48)) (u190000 : Value), v6 = .int .i64 x6_1 ∧ Aside0 (rollbacknetref10_Crash.l0 kq l1 x6_1 l0_0 x190000_1 = some r) ∧ Aside0 (kq ≤ k) ∧ Aside0 (Kd.S k48 48 w' w.heap.size (fun _ => True) u190000 x190000_1) ∧ Aside0 (w'.heap[gb187]? = some (.cells #[(.slice A0_0 l0_0.length c0_0)] 24 (0, 0))) ∧ Aside0 (w'.heap[gb188]? = some (.cells #[(.slice none 0 0)] 24 (0, 0))) ∧ Aside0 (w'.heap[gb189]? = some (.cells #[u190000] 24 (0, 0))) ∧ Aside0 (Below w.heap.size w w'))
 case atStart => exact ⟨(0), (([] : List (S48))), (.slice none 0 0), (by first | rfl | (simp; done) | (simp [*]; done)), H', ⟨Nat.le_refl _⟩, ⟨by first | exact Kd.S_nil _ _ _ _ _ | exact Kd.N_nil _ _ _ _ _ | exact Kd.V_nil _ _ _ _ _ | exact Kd.Q_nil _ _ _ _ _ | exact Kd.R_nil _ _ _ _ _⟩, ⟨by (with_reducible repeat (first | refine bN ?_ _ | refine bD ?_ | refine bA ?_ _)); exact BK187.out⟩, ⟨by (with_reducible repeat (first | refine bN ?_ _ | refine bD ?_ | refine bA ?_ _)); exact BK188.out⟩, ⟨by (with_reducible repeat (first | refine bN ?_ _ | refine bD ?_ | refine bA ?_ _)); exact BK189.out⟩, ⟨by repeat (first | (with_reducible first | exact HB.out | apply wA | apply wN | apply wD | refine below_set ?_ GE187.out | refine below_set ?_ GE188.out | refine below_set ?_ GE189.out) | exact HB.out)⟩⟩
 case round =>
  clear H'
  try clear c1
  try clear p2
  obtain ⟨x6_1, x190000_1, u190000, rfl, HA, HK1, HO_190000, BK187, BK188, BK189, HB⟩ := hrel
  cases gk with
  | zero => exact absurd HA.out (by simp [rollbacknetref10_Crash.l0])
  | succ k1 =>
   have H := HA.out
   clear HA
   simp only [rollbacknetref10_Crash.l0] at H
   by_cases c6 : x6_1 < (l0_0.length : Int)
   ·rw [if_pos c6] at H
    have c6b0 : decide (x6_1 < (l0_0.length : Int)) = true := decide_eq_true c6
    clear c6
    by_cases c7 : x6_1 < (l1.length : Int)
    ·rw [if_pos c7] at H
     have c7b0 : decide (x6_1 < (l1.length : Int)) = true := decide_eq_true c7
     clear c7
     by_cases c8 : 0 ≤ x6_1
     ·rw [if_pos c8] at H
      have c8b0 : decide (0 ≤ x6_1) = true := decide_eq_true c8
      clear c8
      by_cases c9 : ([] : List Int).length + ((rd_T48 l0_0 x6_1).f0).length < 140737488355328
      ·rw [if_pos c9] at H
       have LMc9 := aM c9
       clear c9
       obtain ⟨y194, hy194⟩ : ∃ y_ : List Int, y_ = (([] : List Int) ++ ((rd_T48 l0_0 x6_1).f0)) := ⟨_, rfl⟩
       replace H : ((rollbacknetref10_Torn.f k1 ((rd_T48 l0_0 x6_1).f1) ((rd_T39 l1 x6_1).f0) ((rd_T39 l1 x6_1).f1)).bind fun t197 => (if y194.length + t197.length < 140737488355328 then (if x190000_1.length < 2932031007402 then (rollbacknetref10_Crash.l0 k1 l1 (wrap64 (x6_1 + 1)) l0_0 (x190000_1 ++ [(⟨(y194 ++ t197), ([] : List Int)⟩ : S48)])) else (none)) else (none))) = some r := by first | (rw [hy194]; with_reducible exact H) | (have H2_ := (Option.bind_some _ _).symm.trans H; rw [hy194]; with_reducible exact H2_) | (have H2_ := (Option.bind_some _ _).symm.trans H; with_reducible exact H2_) | with_reducible exact H | (rw [hy194]; exact H) | exact H
       have Ny194 := aM hy194
       clear hy194
       replace H := Option.bind_eq_some_iff.mp H
       obtain ⟨t197, A100, H⟩ := H
       replace H : (if y194.length + t197.length < 140737488355328 then (if x190000_1.length < 2932031007402 then (rollbacknetref10_Crash.l0 k1 l1 (wrap64 (x6_1 + 1)) l0_0 (x190000_1 ++ [(⟨(y194 ++ t197), ([] : List Int)⟩ : S48)])) else (none)) else (none)) = some r := H
       have A10 := aM A100
       clear A100
       by_cases c11 : y194.length + t197.length < 140737488355328
       ·rw [if_pos c11] at H
        have LMc11 := aM c11
        clear c11
        obtain ⟨y200, hy200⟩ : ∃ y_ : List Int, y_ = (y194 ++ t197) := ⟨_, rfl⟩
        replace H : (if x190000_1.length < 2932031007402 then (rollbacknetref10_Crash.l0 k1 l1 (wrap64 (x6_1 + 1)) l0_0 (x190000_1 ++ [(⟨y200, ([] : List Int)⟩ : S48)])) else (none)) = some r := by first | (rw [hy200]; with_reducible exact H) | (have H2_ := (Option.bind_some _ _).symm.trans H; rw [hy200]; with_reducible exact H2_) | (have H2_ := (Option.bind_some _ _).symm.trans H; with_reducible exact H2_) | with_reducible exact H | (rw [hy200]; exact H) | exact H
        have Ny200 := aM hy200
        clear hy200
        by_cases c12 : x190000_1.length < 2932031007402
        ·rw [if_pos c12] at H
         have LMc12 := aM c12
         clear c12
         obtain ⟨y203, hy203⟩ : ∃ y_ : List (S48), y_ = (x190000_1 ++ [(⟨y200, ([] : List Int)⟩ : S48)]) := ⟨_, rfl⟩
         replace H : (rollbacknetref10_Crash.l0 k1 l1 (wrap64 (x6_1 + 1)) l0_0 y203) = some r := by first | (rw [hy203]; with_reducible exact H) | (have H2_ := (Option.bind_some _ _).symm.trans H; rw [hy203]; with_reducible exact H2_) | (have H2_ := (Option.bind_some _ _).symm.trans H; with_reducible exact H2_) | with_reducible exact H | (rw [hy203]; exact H) | exact H
         have Ny203 := aM hy203
         clear hy203
         have H' := aM H
         clear H
         have hnb13 := NB187_188.out
         have hnc13 := NB188_187.out
         have hnb14 := NB187_189.out
         have hnc14 := NB189_187.out
         have hcz15_0 : wr.cell? ⟨gb187, 0, none⟩ = some (.slice A0_0 l0_0.length c0_0) := (blk_cell BK187.out 0).trans rfl
         have hfz15_0 := blk_frozen BK187.out 0
         try go_wp2_with (first | ((with_reducible refine gate_dst (N := 7) rfl ?_); refine box_event ?hg (N := 7) ?hd (cs := #[.int .i64 0, .slice none 0 0]) (t := 39) ?hr ?_; (case hd => rfl); (case hg => rfl); (case hr => first | (go_simp; done) | (go_simp; rfl)); intro gb190 hg w16 hbox hb; have n0_ := aM (Kd.S_below (by (with_reducible repeat (first | apply Kd.S_alloc | apply Kd.S_drewN | apply Kd.S_drew)); exact HO_190000.out) hb); have n1_ := aM (blk_below (g := gb187) (o := .cells #[.slice A0_0 l0_0.length c0_0] 24 (0, 0)) (by (with_reducible repeat (first | refine bN ?_ _ | refine bD ?_ | refine bA ?_ _)); exact BK187.out) hb); have n2_ := aM (blk_below (g := gb188) (o := .cells #[.slice none 0 0] 24 (0, 0)) (by (with_reducible repeat (first | refine bN ?_ _ | refine bD ?_ | refine bA ?_ _)); exact BK188.out) hb); have n3_ := aM (blk_below (g := gb189) (o := .cells #[u190000] 24 (0, 0)) (by (with_reducible repeat (first | refine bN ?_ _ | refine bD ?_ | refine bA ?_ _)); exact BK189.out) hb); have n4_ := aM (below_step (by repeat (first | (with_reducible first | exact HB.out | apply wA | apply wN | apply wD | refine below_set ?_ GE187.out | refine below_set ?_ GE188.out | refine below_set ?_ GE189.out) | exact HB.out)) hb); have n5_ := aM (hbox); have n6_ := aM ((by rw [hg]; exact (below_size (by repeat (first | (with_reducible first | exact HB.out | apply wA | apply wN | apply wD | refine below_set ?_ GE187.out | refine below_set ?_ GE188.out | refine below_set ?_ GE189.out) | exact HB.out))) : w.heap.size ≤ gb190)); have n7_ := aM ((by rw [hg]; exact (below_size (by repeat (first | (with_reducible first | exact HB.out | apply wA | apply wN | apply wD | refine below_set ?_ GE187.out | refine below_set ?_ GE188.out | refine below_set ?_ GE189.out) | exact HB.out))) : w.heap.size ≤ gb190)); have n8_ := aM ((by rw [hg]; exact Nat.ne_of_lt (blk_lt (g := gb187) (o := .cells #[.slice A0_0 l0_0.length c0_0] 24 (0, 0)) (by (with_reducible repeat (first | refine bN ?_ _ | refine bD ?_ | refine bA ?_ _)); exact BK187.out)) : gb187 ≠ gb190)); have n9_ := aM ((by rw [hg]; exact Nat.ne_of_gt (blk_lt (g := gb187) (o := .cells #[.slice A0_0 l0_0.length c0_0] 24 (0, 0)) (by (with_reducible repeat (first | refine bN ?_ _ | refine bD ?_ | refine bA ?_ _)); exact BK187.out)) : gb190 ≠ gb187)); have n10_ := aM ((by rw [hg]; exact Nat.ne_of_lt (blk_lt (g := gb188) (o := .cells #[.slice none 0 0] 24 (0, 0)) (by (with_reducible repeat (first | refine bN ?_ _ | refine bD ?_ | refine bA ?_ _)); exact BK188.out)) : gb188 ≠ gb190)); have n11_ := aM ((by rw [hg]; exact Nat.ne_of_gt (blk_lt (g := gb188) (o := .cells #[.slice none 0 0] 24 (0, 0)) (by (with_reducible repeat (first | refine bN ?_ _ | refine bD ?_ | refine bA ?_ _)); exact BK188.out)) : gb190 ≠ gb188)); have n12_ := aM ((by rw [hg]; exact Nat.ne_of_lt (blk_lt (g := gb189) (o := .cells #[u190000] 24 (0, 0)) (by (with_reducible repeat (first | refine bN ?_ _ | refine bD ?_ | refine bA ?_ _)); exact BK189.out)) : gb189 ≠ gb190)); have n13_ := aM ((by rw [hg]; exact Nat.ne_of_gt (blk_lt (g := gb189) (o := .cells #[u190000] 24 (0, 0)) (by (with_reducible repeat (first | refine bN ?_ _ | refine bD ?_ | refine bA ?_ _)); exact BK189.out)) : gb190 ≠ gb189)); clear HO_190000; clear BK187; clear BK188; clear BK189; clear HB; have HO_190000 := n0_; have BK187 := n1_; have BK188 := n2_; have BK189 := n3_; have HB := n4_; have BK190 := n5_; have GW190 := n6_; have GE190 := n7_; have NB187_190 := n8_; have NB190_187 := n9_; have NB188_190 := n10_; have NB190_188 := n11_; have NB189_190 := n12_; have NB190_189 := n13_; clear n0_ n1_ n2_ n3_ n4_ n5_ n6_ n7_ n8_ n9_ n10_ n11_ n12_ n13_; clear hb hbox hg; have p191 : 0 ≤ (x6_1 : Int) := of_decide_eq_true (by first | (with_reducible assumption) | assumption); have q191 : x6_1 < (l1.length : Int) := of_decide_eq_true (by first | (with_reducible assumption) | assumption); obtain ⟨ad191, A191_1, c191_1, e191, hx191_0, hx191_1, hl191_1, hi191_1⟩ := at_T39 HR1.out x6_1 p191 q191; cases e191; replace hx191_0 := (HB.out.cell (World.block_lt_of_cell? w _ hx191_0)).trans hx191_0; replace hx191_1 := (HB.out.cell (World.block_lt_of_cell? w _ hx191_1)).trans hx191_1; have HR191_1 := aM hi191_1; have HC191_1 := aM hl191_1; clear hi191_1 hl191_1; replace p191 := eq_true p191; replace q191 := eq_true q191; have hnb17 := NB190_187.out; have hnc17 := NB187_190.out; have hnb18 := NB190_188.out; have hnc18 := NB188_190.out; have hnb19 := NB190_189.out; have hnc19 := NB189_190.out; have hcz20_0 : w16.cell? ⟨gb190, 0, none⟩ = some (.int .i64 0) := (blk_cell BK190.out 0).trans rfl; have hcz20_1 : w16.cell? ⟨gb190, 1, none⟩ = some (.slice none 0 0) := (blk_cell BK190.out 1).trans rfl; have hfz20_0 := blk_frozen BK190.out 0; have hfz20_1 := blk_frozen BK190.out 1; have hcz21_0 : w16.cell? ⟨gb187, 0, none⟩ = some (.slice A0_0 l0_0.length c0_0) := (blk_cell BK187.out 0).trans rfl; have hfz21_0 := blk_frozen BK187.out 0; have p192 : 0 ≤ (x6_1 : Int) := of_decide_eq_true (by first | (with_reducible assumption) | assumption); have q192 : x6_1 < (l0_0.length : Int) := of_decide_eq_true (by first | (with_reducible assumption) | assumption); obtain ⟨ad192, A192_0, c192_0, A192_1, c192_1, e192, hx192_0, hx192_1, hl192_0, hi192_0, hl192_1, hi192_1⟩ := at_T48 HR0_0.out x6_1 p192 q192; cases e192; have hn192_0 : ad192.block ≠ gb190 := Nat.ne_of_lt (Nat.lt_of_lt_of_le (by have := World.block_lt_of_cell? _ _ hx192_0; first | rwa [add_block] at this | exact this) GW190.out); have hn192_1 : ad192.block ≠ gb190 := Nat.ne_of_lt (Nat.lt_of_lt_of_le (by have := World.block_lt_of_cell? _ _ hx192_0; first | rwa [add_block] at this | exact this) GW190.out); replace hx192_0 := (HB.out.cell (World.block_lt_of_cell? w _ hx192_0)).trans hx192_0; replace hx192_1 := (HB.out.cell (World.block_lt_of_cell? w _ hx192_1)).trans hx192_1; have HR192_0 := aM hi192_0; have HC192_0 := aM hl192_0; clear hi192_0 hl192_0; have HR192_1 := aM hi192_1; have HC192_1 := aM hl192_1; clear hi192_1 hl192_1; replace hx192_0 := (cell_far (p := ⟨gb190, 0, none⟩) (by first | (rw [add_block]; exact hn192_0) | (show (Addr.add _ _).block ≠ _; rw [add_block]; exact hn192_0) | exact hn192_0) (.int .i64 ((rd_T39 l1 x6_1).f0))).trans hx192_0; replace hx192_1 := (cell_far (p := ⟨gb190, 0, none⟩) (by first | (rw [add_block]; exact hn192_0) | (show (Addr.add _ _).block ≠ _; rw [add_block]; exact hn192_0) | exact hn192_0) (.int .i64 ((rd_T39 l1 x6_1).f0))).trans hx192_1; replace hx192_0 := (cell_far (p := ⟨gb190, 1, none⟩) (by first | (rw [add_block]; exact hn192_1) | (show (Addr.add _ _).block ≠ _; rw [add_block]; exact hn192_1) | exact hn192_1) (.slice A191_1 ((rd_T39 l1 x6_1).f1).length c191_1)).trans hx192_0; replace hx192_1 := (cell_far (p := ⟨gb190, 1, none⟩) (by first | (rw [add_block]; exact hn192_1) | (show (Addr.add _ _).block ≠ _; rw [add_block]; exact hn192_1) | exact hn192_1) (.slice A191_1 ((rd_T39 l1 x6_1).f1).length c191_1)).trans hx192_1; clear hn192_0; clear hn192_1; replace p192 := eq_true p192; replace q192 := eq_true q192) | ((with_reducible refine gate_dst (N := 8) rfl ?_); refine box_event ?hg (N := 8) ?hd (cs := #[.slice none 0 0, .slice none 0 0]) (t := 48) ?hr ?_; (case hd => rfl); (case hg => rfl); (case hr => first | (go_simp; done) | (go_simp; rfl)); intro gb193 hg w22 hbox hb; have n0_ := aM (Kd.S_below (Kd.S_elderB (by (with_reducible repeat (first | apply Kd.S_alloc | apply Kd.S_drewN | apply Kd.S_drew)); exact (Kd.S_mono (Kd.S_far (p := ⟨gb190, 1, none⟩) (Kd.S_far (p := ⟨gb190, 0, none⟩) (Kd.S_types HO_190000.out BK190.out (by decide)) (fun _ hk => hk.2) (.int .i64 ((rd_T39 l1 x6_1).f0))) (fun _ hk => hk.2) (.slice A191_1 ((rd_T39 l1 x6_1).f1).length c191_1)) (fun _ h_ => h_.1))) gb193 (Nat.le_of_eq hg.symm)) hb); have n1_ := aM (blk_below (g := gb187) (o := .cells #[.slice (some ad192) l0_0.length c0_0] 24 (0, 0)) (by (with_reducible repeat (first | refine bN ?_ _ | refine bD ?_ | refine bA ?_ _)); refine blk_far ?_ NB187_190.out _; (with_reducible repeat (first | refine bN ?_ _ | refine bD ?_ | refine bA ?_ _)); refine blk_far ?_ NB187_190.out _; (with_reducible repeat (first | refine bN ?_ _ | refine bD ?_ | refine bA ?_ _)); exact BK187.out) hb); have n2_ := aM (blk_below (g := gb188) (o := .cells #[.slice none 0 0] 24 (0, 0)) (by (with_reducible repeat (first | refine bN ?_ _ | refine bD ?_ | refine bA ?_ _)); refine blk_far ?_ NB188_190.out _; (with_reducible repeat (first | refine bN ?_ _ | refine bD ?_ | refine bA ?_ _)); refine blk_far ?_ NB188_190.out _; (with_reducible repeat (first | refine bN ?_ _ | refine bD ?_ | refine bA ?_ _)); exact BK188.out) hb); have n3_ := aM (blk_below (g := gb189) (o := .cells #[u190000] 24 (0, 0)) (by (with_reducible repeat (first | refine bN ?_ _ | refine bD ?_ | refine bA ?_ _)); refine blk_far ?_ NB189_190.out _; (with_reducible repeat (first | refine bN ?_ _ | refine bD ?_ | refine bA ?_ _)); refine blk_far ?_ NB189_190.out _; (with_reducible repeat (first | refine bN ?_ _ | refine bD ?_ | refine bA ?_ _)); exact BK189.out) hb); have n4_ := aM (blk_below (g := gb190) (o := .cells #[.int .i64 ((rd_T39 l1 x6_1).f0), .slice A191_1 ((rd_T39 l1 x6_1).f1).length c191_1] 39 (0, 0)) (by (with_reducible repeat (first | refine bN ?_ _ | refine bD ?_ | refine bA ?_ _)); refine blk_put (cs := #[.int .i64 ((rd_T39 l1 x6_1).f0), .slice none 0 0]) ?_ 1 _ rfl; (with_reducible repeat (first | refine bN ?_ _ | refine bD ?_ | refine bA ?_ _)); refine blk_put (cs := #[.int .i64 0, .slice none 0 0]) ?_ 0 _ rfl; (with_reducible repeat (first | refine bN ?_ _ | refine bD ?_ | refine bA ?_ _)); exact BK190.out) hb); have n5_ := aM (below_step (by repeat (first | (with_reducible first | exact HB.out | apply wA | apply wN | apply wD | refine below_set ?_ GE187.out | refine below_set ?_ GE188.out | refine below_set ?_ GE189.out | refine below_set ?_ GE190.out) | exact HB.out)) hb); have n6_ := aM (hbox); have n7_ := aM ((by rw [hg]; exact (below_size (by repeat (first | (with_reducible first | exact HB.out | apply wA | apply wN | apply wD | refine below_set ?_ GE187.out | refine below_set ?_ GE188.out | refine below_set ?_ GE189.out | refine below_set ?_ GE190.out) | exact HB.out))) : w.heap.size ≤ gb193)); have n8_ := aM ((by rw [hg]; exact (below_size (by repeat (first | (with_reducible first | exact HB.out | apply wA | apply wN | apply wD | refine below_set ?_ GE187.out | refine below_set ?_ GE188.out | refine below_set ?_ GE189.out | refine below_set ?_ GE190.out) | exact HB.out))) : w.heap.size ≤ gb193)); have n9_ := aM ((by rw [hg]; exact Nat.ne_of_lt (blk_lt (g := gb187) (o := .cells #[.slice (some ad192) l0_0.length c0_0] 24 (0, 0)) (by (with_reducible repeat (first | refine bN ?_ _ | refine bD ?_ | refine bA ?_ _)); refine blk_far ?_ NB187_190.out _; (with_reducible repeat (first | refine bN ?_ _ | refine bD ?_ | refine bA ?_ _)); refine blk_far ?_ NB187_190.out _; (with_reducible repeat (first | refine bN ?_ _ | refine bD ?_ | refine bA ?_ _)); exact BK187.out)) : gb187 ≠ gb193)); have n10_ := aM ((by rw [hg]; exact Nat.ne_of_gt (blk_lt (g := gb187) (o := .cells #[.slice (some ad192) l0_0.length c0_0] 24 (0, 0)) (by (with_reducible repeat (first | refine bN ?_ _ | refine bD ?_ | refine bA ?_ _)); refine blk_far ?_ NB187_190.out _; (with_reducible repeat (first | refine bN ?_ _ | refine bD ?_ | refine bA ?_ _)); refine blk_far ?_ NB187_190.out _; (with_reducible repeat (first | refine bN ?_ _ | refine bD ?_ | refine bA ?_ _)); exact BK187.out)) : gb193 ≠ gb187)); have n11_ := aM ((by rw [hg]; exact Nat.ne_of_lt (blk_lt (g := gb188) (o := .cells #[.slice none 0 0] 24 (0, 0)) (by (with_reducible repeat (first | refine bN ?_ _ | refine bD ?_ | refine bA ?_ _)); refine blk_far ?_ NB188_190.out _; (with_reducible repeat (first | refine bN ?_ _ | refine bD ?_ | refine bA ?_ _)); refine blk_far ?_ NB188_190.out _; (with_reducible repeat (first | refine bN ?_ _ | refine bD ?_ | refine bA ?_ _)); exact BK188.out)) : gb188 ≠ gb193)); have n12_ := aM ((by rw [hg]; exact Nat.ne_of_gt (blk_lt (g := gb188) (o := .cells #[.slice none 0 0] 24 (0, 0)) (by (with_reducible repeat (first | refine bN ?_ _ | refine bD ?_ | refine bA ?_ _)); refine blk_far ?_ NB188_190.out _; (with_reducible repeat (first | refine bN ?_ _ | refine bD ?_ | refine bA ?_ _)); refine blk_far ?_ NB188_190.out _; (with_reducible repeat (first | refine bN ?_ _ | refine bD ?_ | refine bA ?_ _)); exact BK188.out)) : gb193 ≠ gb188)); have n13_ := aM ((by rw [hg]; exact Nat.ne_of_lt (blk_lt (g := gb189) (o := .cells #[u190000] 24 (0, 0)) (by (with_reducible repeat (first | refine bN ?_ _ | refine bD ?_ | refine bA ?_ _)); refine blk_far ?_ NB189_190.out _; (with_reducible repeat (first | refine bN ?_ _ | refine bD ?_ | refine bA ?_ _)); refine blk_far ?_ NB189_190.out _; (with_reducible repeat (first | refine bN ?_ _ | refine bD ?_ | refine bA ?_ _)); exact BK189.out)) : gb189 ≠ gb193)); have n14_ := aM ((by rw [hg]; exact Nat.ne_of_gt (blk_lt (g := gb189) (o := .cells #[u190000] 24 (0, 0)) (by (with_reducible repeat (first | refine bN ?_ _ | refine bD ?_ | refine bA ?_ _)); refine blk_far ?_ NB189_190.out _; (with_reducible repeat (first | refine bN ?_ _ | refine bD ?_ | refine bA ?_ _)); refine blk_far ?_ NB189_190.out _; (with_reducible repeat (first | refine bN ?_ _ | refine bD ?_ | refine bA ?_ _)); exact BK189.out)) : gb193 ≠ gb189)); have n15_ := aM ((by rw [hg]; exact Nat.ne_of_lt (blk_lt (g := gb190) (o := .cells #[.int .i64 ((rd_T39 l1 x6_1).f0), .slice A191_1 ((rd_T39 l1 x6_1).f1).length c191_1] 39 (0, 0)) (by (with_reducible repeat (first | refine bN ?_ _ | refine bD ?_ | refine bA ?_ _)); refine blk_put (cs := #[.int .i64 ((rd_T39 l1 x6_1).f0), .slice none 0 0]) ?_ 1 _ rfl; (with_reducible repeat (first | refine bN ?_ _ | refine bD ?_ | refine bA ?_ _)); refine blk_put (cs := #[.int .i64 0, .slice none 0 0]) ?_ 0 _ rfl; (with_reducible repeat (first | refine bN ?_ _ | refine bD ?_ | refine bA ?_ _)); exact BK190.out)) : gb190 ≠ gb193)); have n16_ := aM ((by rw [hg]; exact Nat.ne_of_gt (blk_lt (g := gb190) (o := .cells #[.int .i64 ((rd_T39 l1 x6_1).f0), .slice A191_1 ((rd_T39 l1 x6_1).f1).length c191_1] 39 (0, 0)) (by (with_reducible repeat (first | refine bN ?_ _ | refine bD ?_ | refine bA ?_ _)); refine blk_put (cs := #[.int .i64 ((rd_T39 l1 x6_1).f0), .slice none 0 0]) ?_ 1 _ rfl; (with_reducible repeat (first | refine bN ?_ _ | refine bD ?_ | refine bA ?_ _)); refine blk_put (cs := #[.int .i64 0, .slice none 0 0]) ?_ 0 _ rfl; (with_reducible repeat (first | refine bN ?_ _ | refine bD ?_ | refine bA ?_ _)); exact BK190.out)) : gb193 ≠ gb190)); clear HO_190000; clear BK187; clear BK188; clear BK189; clear BK190; clear HB; have HO_190000 := n0_; have BK187 := n1_; have BK188 := n2_; have BK189 := n3_; have BK190 := n4_; have HB := n5_; have BK193 := n6_; have GW193 := n7_; have GE193 := n8_; have NB187_193 := n9_; have NB193_187 := n10_; have NB188_193 := n11_; have NB193_188 := n12_; have NB189_193 := n13_; have NB193_189 := n14_; have NB190_193 := n15_; have NB193_190 := n16_; clear n0_ n1_ n2_ n3_ n4_ n5_ n6_ n7_ n8_ n9_ n10_ n11_ n12_ n13_ n14_ n15_ n16_; clear hb hbox hg; have hnb23 := NB193_187.out; have hnc23 := NB187_193.out; have hnb24 := NB193_188.out; have hnc24 := NB188_193.out; have hnb25 := NB193_189.out; have hnc25 := NB189_193.out; have hnb26 := NB193_190.out; have hnc26 := NB190_193.out; have hcz27_0 : w22.cell? ⟨gb193, 0, none⟩ = some (.slice none 0 0) := (blk_cell BK193.out 0).trans rfl; have hcz27_1 : w22.cell? ⟨gb193, 1, none⟩ = some (.slice none 0 0) := (blk_cell BK193.out 1).trans rfl; have hfz27_0 := blk_frozen BK193.out 0; have hfz27_1 := blk_frozen BK193.out 1))
         have n0_ : Aside0 (Kd.S k48 48 ((w22.setCell ⟨gb193, 0, none⟩ (.slice A192_0 ((rd_T48 l0_0 x6_1).f0).length c192_0)).setCell ⟨gb193, 1, none⟩ (.slice A192_1 ((rd_T48 l0_0 x6_1).f1).length c192_1)) w.heap.size (fun k_ => k_ ≠ gb193) u190000 x190000_1) := ⟨by (with_reducible repeat (first | apply Kd.S_alloc | apply Kd.S_drewN | apply Kd.S_drew)); exact Kd.S_mono (Kd.S_far (p := ⟨gb193, 1, none⟩) (Kd.S_far (p := ⟨gb193, 0, none⟩) (Kd.S_mono HO_190000.out (fun k_ hk => (⟨hk, hk.2⟩ : _ ∧ k_ ≠ gb193))) (fun _ hk => hk.2) (.slice A192_0 ((rd_T48 l0_0 x6_1).f0).length c192_0)) (fun _ hk => hk.2) (.slice A192_1 ((rd_T48 l0_0 x6_1).f1).length c192_1)) (fun _ hk => hk.1.2)⟩
         have n1_ : Aside0 (((w22.setCell ⟨gb193, 0, none⟩ (.slice A192_0 ((rd_T48 l0_0 x6_1).f0).length c192_0)).setCell ⟨gb193, 1, none⟩ (.slice A192_1 ((rd_T48 l0_0 x6_1).f1).length c192_1)).heap[gb187]? = some (.cells #[.slice (some ad192) l0_0.length c0_0] 24 (0, 0))) := ⟨by (with_reducible repeat (first | refine bN ?_ _ | refine bD ?_ | refine bA ?_ _)); refine blk_far ?_ NB187_193.out _; (with_reducible repeat (first | refine bN ?_ _ | refine bD ?_ | refine bA ?_ _)); refine blk_far ?_ NB187_193.out _; (with_reducible repeat (first | refine bN ?_ _ | refine bD ?_ | refine bA ?_ _)); exact BK187.out⟩
         have n2_ : Aside0 (((w22.setCell ⟨gb193, 0, none⟩ (.slice A192_0 ((rd_T48 l0_0 x6_1).f0).length c192_0)).setCell ⟨gb193, 1, none⟩ (.slice A192_1 ((rd_T48 l0_0 x6_1).f1).length c192_1)).heap[gb188]? = some (.cells #[.slice none 0 0] 24 (0, 0))) := ⟨by (with_reducible repeat (first | refine bN ?_ _ | refine bD ?_ | refine bA ?_ _)); refine blk_far ?_ NB188_193.out _; (with_reducible repeat (first | refine bN ?_ _ | refine bD ?_ | refine bA ?_ _)); refine blk_far ?_ NB188_193.out _; (with_reducible repeat (first | refine bN ?_ _ | refine bD ?_ | refine bA ?_ _)); exact BK188.out⟩
         have n3_ : Aside0 (((w22.setCell ⟨gb193, 0, none⟩ (.slice A192_0 ((rd_T48 l0_0 x6_1).f0).length c192_0)).setCell ⟨gb193, 1, none⟩ (.slice A192_1 ((rd_T48 l0_0 x6_1).f1).length c192_1)).heap[gb189]? = some (.cells #[u190000] 24 (0, 0))) := ⟨by (with_reducible repeat (first | refine bN ?_ _ | refine bD ?_ | refine bA ?_ _)); refine blk_far ?_ NB189_193.out _; (with_reducible repeat (first | refine bN ?_ _ | refine bD ?_ | refine bA ?_ _)); refine blk_far ?_ NB189_193.out _; (with_reducible repeat (first | refine bN ?_ _ | refine bD ?_ | refine bA ?_ _)); exact BK189.out⟩
         have n4_ : Aside0 (((w22.setCell ⟨gb193, 0, none⟩ (.slice A192_0 ((rd_T48 l0_0 x6_1).f0).length c192_0)).setCell ⟨gb193, 1, none⟩ (.slice A192_1 ((rd_T48 l0_0 x6_1).f1).length c192_1)).heap[gb190]? = some (.cells #[.int .i64 ((rd_T39 l1 x6_1).f0), .slice A191_1 ((rd_T39 l1 x6_1).f1).length c191_1] 39 (0, 0))) := ⟨by (with_reducible repeat (first | refine bN ?_ _ | refine bD ?_ | refine bA ?_ _)); refine blk_far ?_ NB190_193.out _; (with_reducible repeat (first | refine bN ?_ _ | refine bD ?_ | refine bA ?_ _)); refine blk_far ?_ NB190_193.out _; (with_reducible repeat (first | refine bN ?_ _ | refine bD ?_ | refine bA ?_ _)); exact BK190.out⟩
         have n5_ : Aside0 (((w22.setCell ⟨gb193, 0, none⟩ (.slice A192_0 ((rd_T48 l0_0 x6_1).f0).length c192_0)).setCell ⟨gb193, 1, none⟩ (.slice A192_1 ((rd_T48 l0_0 x6_1).f1).length c192_1)).heap[gb193]? = some (.cells #[.slice A192_0 ((rd_T48 l0_0 x6_1).f0).length c192_0, .slice A192_1 ((rd_T48 l0_0 x6_1).f1).length c192_1] 48 (0, 0))) := ⟨by (with_reducible repeat (first | refine bN ?_ _ | refine bD ?_ | refine bA ?_ _)); refine blk_put (cs := #[.slice A192_0 ((rd_T48 l0_0 x6_1).f0).length c192_0, .slice none 0 0]) ?_ 1 _ rfl; (with_reducible repeat (first | refine bN ?_ _ | refine bD ?_ | refine bA ?_ _)); refine blk_put (cs := #[.slice none 0 0, .slice none 0 0]) ?_ 0 _ rfl; (with_reducible repeat (first | refine bN ?_ _ | refine bD ?_ | refine bA ?_ _)); exact BK193.out⟩
         have n6_ : Aside0 (Below w.heap.size w ((w22.setCell ⟨gb193, 0, none⟩ (.slice A192_0 ((rd_T48 l0_0 x6_1).f0).length c192_0)).setCell ⟨gb193, 1, none⟩ (.slice A192_1 ((rd_T48 l0_0 x6_1).f1).length c192_1))) := ⟨by repeat (first | (with_reducible first | exact HB.out | apply wA | apply wN | apply wD | refine below_set ?_ GE187.out | refine below_set ?_ GE188.out | refine below_set ?_ GE189.out | refine below_set ?_ GE190.out | refine below_set ?_ GE193.out) | exact HB.out)⟩
         (try clear HO_190000)
         (try clear BK187)
         (try clear BK188)
         (try clear BK189)
         (try clear BK190)
         (try clear BK193)
         (try clear HB)
         generalize ((w22.setCell ⟨gb193, 0, none⟩ (.slice A192_0 ((rd_T48 l0_0 x6_1).f0).length c192_0)).setCell ⟨gb193, 1, none⟩ (.slice A192_1 ((rd_T48 l0_0 x6_1).f1).length c192_1)) = w28 at n0_ n1_ n2_ n3_ n4_ n5_ n6_ ⊢
         have HO_190000 := n0_
         have BK187 := n1_
         have BK188 := n2_
         have BK189 := n3_
         have BK190 := n4_
         have BK193 := n5_
         have HB := n6_
         clear n0_ n1_ n2_ n3_ n4_ n5_ n6_
         have n0_ := aM (Kd.S_drew HO_190000.out)
         have n1_ := aM (bD BK187.out)
         have n2_ := aM (bD BK188.out)
         have n3_ := aM (bD BK189.out)
         have n4_ := aM (bD BK190.out)
         have n5_ := aM (bD BK193.out)
         have n6_ := aM (wD HB.out)
         clear HO_190000
         clear BK187
         clear BK188
         clear BK189
         clear BK190
         clear BK193
         clear HB
         have HO_190000 := n0_
         have BK187 := n1_
         have BK188 := n2_
         have BK189 := n3_
         have BK190 := n4_
         have BK193 := n5_
         have HB := n6_
         clear n0_ n1_ n2_ n3_ n4_ n5_ n6_
         refine start_ (n := 15) (S := fun w' => w'.cell? ⟨gb189, 0, none⟩ = some (u190000) ∧ w'.cell? ⟨gb193, 0, none⟩ = some (.slice A192_0 ((rd_T48 l0_0 x6_1).f0).length c192_0) ∧ w'.cell? ⟨gb193, 1, none⟩ = some (.slice A192_1 ((rd_T48 l0_0 x6_1).f1).length c192_1) ∧ w'.cell? ⟨gb190, 0, none⟩ = some (.int .i64 ((rd_T39 l1 x6_1).f0)) ∧ w'.cell? ⟨gb190, 1, none⟩ = some (.slice A191_1 ((rd_T39 l1 x6_1).f1).length c191_1)) (ds := [14]) #[false, false, false, false, false, false, false, false, false, false, false, false, false, false, false] (by kernel_rfl) rfl rfl ⟨(blk_cell BK189.out 0).trans rfl, (blk_cell BK193.out 0).trans rfl, (blk_cell BK193.out 1).trans rfl, (blk_cell BK190.out 0).trans rfl, (blk_cell BK190.out 1).trans rfl⟩ (fun hHeld => ?_); refine with_tabW rollbacknetref10_Crash.tab9 rollbacknetref10_Crash.bits9 (fun HT_ HW_ => ?_)
         generalize w28.drew = w29 at HO_190000 BK187 BK188 BK189 BK190 BK193 HB hHeld ⊢
         refine pure_ (i := 0) (N := some 29) (v := ?_) (a' := ?_) #[true, false, false, false, false, false, false, false, false, false, false, false, false, false, false] rfl rfl (any_of HT_.out (by kernel_rfl)) (fun _ _ _ h => h) (Or.inl ⟨by rfl, ?_⟩) ?_ ?_
         rotate_left
         ·intro w'
          go_simp
          with_reducible rfl
         rotate_left
         ·simp only [Act.put, List.setIfInBounds_toArray, List.set_cons_zero, List.set_cons_succ, i64_w, i32_w]
          rfl
         refine pure_ (i := 2) (N := some 31) (v := ?_) (a' := ?_) #[true, false, true, false, false, false, false, false, false, false, false, false, false, false, false] rfl rfl (any_of HT_.out (by kernel_rfl)) (fun _ _ _ h => h) (Or.inl ⟨by rfl, ?_⟩) ?_ ?_
         rotate_left
         ·intro w'
          go_simp
          with_reducible rfl
         rotate_left
         ·simp only [Act.put, List.setIfInBounds_toArray, List.set_cons_zero, List.set_cons_succ, i64_w, i32_w]
          rfl
         refine pure_ (i := 5) (N := some 34) (v := ?_) (a' := ?_) #[true, false, true, false, false, true, false, false, false, false, false, false, false, false, false] rfl rfl (any_of HT_.out (by kernel_rfl)) (fun _ _ _ h => h) (Or.inl ⟨by rfl, ?_⟩) ?_ ?_
         rotate_left
         ·intro w'
          go_simp
          with_reducible rfl
         rotate_left
         ·simp only [Act.put, List.setIfInBounds_toArray, List.set_cons_zero, List.set_cons_succ, i64_w, i32_w]
          rfl
         refine take_ (i := 1) (N := some 30) (v := ?_) (a' := ?_) #[true, true, true, false, false, true, false, false, false, false, false, false, false, false, false] rfl rfl (take_ofW HT_.out HW_.out (by kernel_rfl)) (fun _ _ _ h => h) (Or.inl ⟨by rfl, ?_⟩) hHeld ?_ ?_
         rotate_left
         ·rintro w' ⟨s0, s1, s2, s3, s4⟩
          go_simp
          with_reducible rfl
         rotate_left
         ·simp only [Act.put, List.setIfInBounds_toArray, List.set_cons_zero, List.set_cons_succ, i64_w, i32_w]
          rfl
         refine take_ (i := 3) (N := some 32) (v := ?_) (a' := ?_) #[true, true, true, true, false, true, false, false, false, false, false, false, false, false, false] rfl rfl (take_ofW HT_.out HW_.out (by kernel_rfl)) (fun _ _ _ h => h) (Or.inl ⟨by rfl, ?_⟩) hHeld ?_ ?_
         rotate_left
         ·rintro w' ⟨s0, s1, s2, s3, s4⟩
          go_simp
          with_reducible rfl
         rotate_left
         ·simp only [Act.put, List.setIfInBounds_toArray, List.set_cons_zero, List.set_cons_succ, i64_w, i32_w]
          rfl
         refine take_ (i := 6) (N := some 35) (v := ?_) (a' := ?_) #[true, true, true, true, false, true, true, false, false, false, false, false, false, false, false] rfl rfl (take_ofW HT_.out HW_.out (by kernel_rfl)) (fun _ _ _ h => h) (Or.inl ⟨by rfl, ?_⟩) hHeld ?_ ?_
         rotate_left
         ·rintro w' ⟨s0, s1, s2, s3, s4⟩
          go_simp
          with_reducible rfl
         rotate_left
         ·simp only [Act.put, List.setIfInBounds_toArray, List.set_cons_zero, List.set_cons_succ, i64_w, i32_w]
          rfl
         refine take_ (i := 7) (N := some 36) (v := ?_) (a' := ?_) #[true, true, true, true, false, true, true, true, false, false, false, false, false, false, false] rfl rfl (take_ofW HT_.out HW_.out (by kernel_rfl)) (fun _ _ _ h => h) (Or.inl ⟨by rfl, ?_⟩) hHeld ?_ ?_
         rotate_left
         ·rintro w' ⟨s0, s1, s2, s3, s4⟩
          go_simp
          with_reducible rfl
         rotate_left
         ·simp only [Act.put, List.setIfInBounds_toArray, List.set_cons_zero, List.set_cons_succ, i64_w, i32_w]
          rfl
         refine one_ (i := 4) (N := some 33) #[true, true, true, true, true, true, true, true, false, false, false, false, false, false, false] rfl rfl (one_of HT_.out (by kernel_rfl)) (by decide) (fun K hK => ?_)
         refine Kd.R_append_rows_step (Kd.int .u8) (w0 := w) w.heap.size rfl (.const (.slice none 0 0)) (.tmp 32) 30 5 (.int .u8 0) 1 rfl Try.underlying30 info5 rfl (by decide) (by omega) (.slice none 0 0) ([] : List Int) ((rd_T48 l0_0 x6_1).f0) _ _ _ (fun _ => True) (fun _ => False) rfl rfl ?aO ?aR (fun _ _ h => h) (fun _ h => h.elim) ?aF ?aB ?aS ?aL ?_
         (case aR => repeat (first | exact (Kd.C_below HR192_0.out HB.out) | (with_reducible refine Kd.C_alloc ?_ _) | (with_reducible refine Kd.C_drewN ?_ _) | (with_reducible refine Kd.C_drew ?_)))
         (case aB => exact (by repeat (first | (with_reducible first | exact HB.out | apply wA | apply wN | apply wD | refine below_set ?_ GE187.out | refine below_set ?_ GE188.out | refine below_set ?_ GE189.out | refine below_set ?_ GE190.out | refine below_set ?_ GE193.out) | exact HB.out)))
         (case aF => exact (fun _ _ => trivial))
         (case aO => exact ((Kd.R_nil _ _ _ _ (fun _ => True))))
         (case aS => exact (below_size (by repeat (first | (with_reducible first | exact HB.out | apply wA | apply wN | apply wD | refine below_set ?_ GE187.out | refine below_set ?_ GE188.out | refine below_set ?_ GE189.out | refine below_set ?_ GE190.out | refine below_set ?_ GE193.out) | exact HB.out))))
         (case aL => have := LMc9.out; omega)
         intro v195 w30 ho hb hg hat
         rw [← Ny194.out] at ho
         have n0_ := aM (Kd.S_after (Kd.S_apart_nil (by (with_reducible repeat (first | apply Kd.S_alloc | apply Kd.S_drewN | apply Kd.S_drew)); exact HO_190000.out)) hg hat)
         have n1_ := aM (blk_grown (g := gb187) (o := .cells #[.slice (some ad192) l0_0.length c0_0] 24 (0, 0)) (by (with_reducible repeat (first | refine bN ?_ _ | refine bD ?_ | refine bA ?_ _)); exact BK187.out) hg (by simp [Value.ownBlock]))
         have n2_ := aM (blk_grown (g := gb188) (o := .cells #[.slice none 0 0] 24 (0, 0)) (by (with_reducible repeat (first | refine bN ?_ _ | refine bD ?_ | refine bA ?_ _)); exact BK188.out) hg (by simp [Value.ownBlock]))
         have n3_ := aM (blk_grown (g := gb189) (o := .cells #[u190000] 24 (0, 0)) (by (with_reducible repeat (first | refine bN ?_ _ | refine bD ?_ | refine bA ?_ _)); exact BK189.out) hg (by simp [Value.ownBlock]))
         have n4_ := aM (blk_grown (g := gb190) (o := .cells #[.int .i64 ((rd_T39 l1 x6_1).f0), .slice A191_1 ((rd_T39 l1 x6_1).f1).length c191_1] 39 (0, 0)) (by (with_reducible repeat (first | refine bN ?_ _ | refine bD ?_ | refine bA ?_ _)); exact BK190.out) hg (by simp [Value.ownBlock]))
         have n5_ := aM (blk_grown (g := gb193) (o := .cells #[.slice A192_0 ((rd_T48 l0_0 x6_1).f0).length c192_0, .slice A192_1 ((rd_T48 l0_0 x6_1).f1).length c192_1] 48 (0, 0)) (by (with_reducible repeat (first | refine bN ?_ _ | refine bD ?_ | refine bA ?_ _)); exact BK193.out) hg (by simp [Value.ownBlock]))
         have n6_ := aM (hb)
         have n7_ := aM (ho)
         clear HO_190000
         clear BK187
         clear BK188
         clear BK189
         clear BK190
         clear BK193
         clear HB
         have HO_190000 := n0_
         have BK187 := n1_
         have BK188 := n2_
         have BK189 := n3_
         have BK190 := n4_
         have BK193 := n5_
         have HB := n6_
         have HO196 := n7_
         clear n0_ n1_ n2_ n3_ n4_ n5_ n6_ n7_
         clear ho hb hg hat
         refine hK.out _ _ ⟨(blk_cell BK189.out 0).trans rfl, (blk_cell BK193.out 0).trans rfl, (blk_cell BK193.out 1).trans rfl, (blk_cell BK190.out 0).trans rfl, (blk_cell BK190.out 1).trans rfl⟩ (fun hHeld => ?_)
         clear hK K
         refine norm_ (a' := ?_) ?_ ?_
         rotate_left
         ·show Act.put _ (some 33) _ = _
          simp only [Act.put, List.setIfInBounds_toArray, List.set_cons_zero, List.set_cons_succ, i64_w, i32_w]
          rfl
         refine one_ (i := 8) (N := some 37) #[true, true, true, true, true, true, true, true, true, false, false, false, false, false, false] rfl rfl (one_of HT_.out (by kernel_rfl)) (by decide) (fun K hK => ?_)
         refine goes_ Try.func26 (by kernel_rfl) rfl #[.slice A192_1 ((rd_T48 l0_0 x6_1).f1).length c192_1, .agg #[.int .i64 ((rd_T39 l1 x6_1).f0), .slice A191_1 ((rd_T39 l1 x6_1).f1).length c191_1]] (by rfl) rfl rfl (by (try simp only [List.map_toArray, List.map_cons, List.map_nil]); first | done | rfl | (simp only [List.length_drop, List.length_take]; rfl)) ?_
         with_reducible refine (rollbacknetref10_Torn.calls k1 _ _ ((rd_T48 l0_0 x6_1).f1) ((rd_T39 l1 x6_1).f0) _ _ ((rd_T39 l1 x6_1).f1) t197 _ ?side1 ?side2 ?side3 ?side4 A10.out).mono ?_
         (case side1 => repeat (first | exact (Kd.C_below HR192_1.out HB.out) | (with_reducible refine Kd.C_alloc ?_ _) | (with_reducible refine Kd.C_drewN ?_ _) | (with_reducible refine Kd.C_drew ?_)))
         (case side2 => exact HC192_1.out)
         (case side3 => repeat (first | exact (Kd.C_below HR191_1.out HB.out) | (with_reducible refine Kd.C_alloc ?_ _) | (with_reducible refine Kd.C_drewN ?_ _) | (with_reducible refine Kd.C_drew ?_)))
         (case side4 => exact HC191_1.out)
         rintro e w31 ⟨v198, rfl, ho0, hb⟩
         refine ⟨_, rfl, ?_⟩
         have n0_ := aM (Kd.S_elder' (by (with_reducible repeat (first | apply Kd.S_alloc | apply Kd.S_drewN | apply Kd.S_drew)); exact HO_190000.out) (Kd.R_base ho0) hb)
         have n1_ := aM (Kd.R_elder' (by (with_reducible repeat (first | apply Kd.R_alloc | apply Kd.R_drewN | apply Kd.R_drew)); exact HO196.out) (Kd.R_base ho0) hb)
         have n2_ := aM (Kd.R_lower (Kd.R_new' ho0 (Kd.R_lt (by (with_reducible repeat (first | apply Kd.R_alloc | apply Kd.R_drewN | apply Kd.R_drew)); exact HO196.out))) (below_size (by repeat (first | (with_reducible first | exact HB.out | apply wA | apply wN | apply wD | refine below_set ?_ GE187.out | refine below_set ?_ GE188.out | refine below_set ?_ GE189.out | refine below_set ?_ GE190.out | refine below_set ?_ GE193.out) | exact HB.out))))
         have n3_ := aM (blk_below (g := gb187) (o := .cells #[.slice (some ad192) l0_0.length c0_0] 24 (0, 0)) (by (with_reducible repeat (first | refine bN ?_ _ | refine bD ?_ | refine bA ?_ _)); exact BK187.out) hb)
         have n4_ := aM (blk_below (g := gb188) (o := .cells #[.slice none 0 0] 24 (0, 0)) (by (with_reducible repeat (first | refine bN ?_ _ | refine bD ?_ | refine bA ?_ _)); exact BK188.out) hb)
         have n5_ := aM (blk_below (g := gb189) (o := .cells #[u190000] 24 (0, 0)) (by (with_reducible repeat (first | refine bN ?_ _ | refine bD ?_ | refine bA ?_ _)); exact BK189.out) hb)
         have n6_ := aM (blk_below (g := gb190) (o := .cells #[.int .i64 ((rd_T39 l1 x6_1).f0), .slice A191_1 ((rd_T39 l1 x6_1).f1).length c191_1] 39 (0, 0)) (by (with_reducible repeat (first | refine bN ?_ _ | refine bD ?_ | refine bA ?_ _)); exact BK190.out) hb)
         have n7_ := aM (blk_below (g := gb193) (o := .cells #[.slice A192_0 ((rd_T48 l0_0 x6_1).f0).length c192_0, .slice A192_1 ((rd_T48 l0_0 x6_1).f1).length c192_1] 48 (0, 0)) (by (with_reducible repeat (first | refine bN ?_ _ | refine bD ?_ | refine bA ?_ _)); exact BK193.out) hb)
         have n8_ := aM (below_step (by repeat (first | (with_reducible first | exact HB.out | apply wA | apply wN | apply wD | refine below_set ?_ GE187.out | refine below_set ?_ GE188.out | refine below_set ?_ GE189.out | refine below_set ?_ GE190.out | refine below_set ?_ GE193.out) | exact HB.out)) hb)
         clear HO_190000
         clear HO196
         clear BK187
         clear BK188
         clear BK189
         clear BK190
         clear BK193
         clear HB
         have HO_190000 := n0_
         have HO196 := n1_
         have HO199 := n2_
         have BK187 := n3_
         have BK188 := n4_
         have BK189 := n5_
         have BK190 := n6_
         have BK193 := n7_
         have HB := n8_
         clear n0_ n1_ n2_ n3_ n4_ n5_ n6_ n7_ n8_
         (try clear hb)
         (try clear hb2)
         (try clear hk)
         (try clear hi)
         (try clear ho0)
         obtain ⟨Ao33, co33, eo33⟩ := Kd.R_slice HO199.out
         (first | subst eo33 | (injection eo33 with f1_ f2_ f3_; have f4_ := f1_.symm; have f5_ := f3_.symm; clear f1_ f2_ f3_; subst f4_; subst f5_))
         refine hK.out _ _ ⟨(blk_cell BK189.out 0).trans rfl, (blk_cell BK193.out 0).trans rfl, (blk_cell BK193.out 1).trans rfl, (blk_cell BK190.out 0).trans rfl, (blk_cell BK190.out 1).trans rfl⟩ (fun hHeld => ?_)
         clear hK K
         refine norm_ (a' := ?_) ?_ ?_
         rotate_left
         ·show Act.put _ (some 37) _ = _
          simp only [Act.put, List.setIfInBounds_toArray, List.set_cons_zero, List.set_cons_succ, i64_w, i32_w]
          rfl
         refine one_ (i := 9) (N := some 38) #[true, true, true, true, true, true, true, true, true, true, false, false, false, false, false] rfl rfl (one_of HT_.out (by kernel_rfl)) (by decide) (fun K hK => ?_)
         refine Kd.R_append_rows_step (Kd.int .u8) (w0 := w) w.heap.size (by rfl) (.tmp 33) (.tmp 37) 30 5 (.int .u8 0) 1 rfl Try.underlying30 info5 rfl (by decide) (by omega) v195 y194 t197 _ _ _ (fun k_ => some k_ ≠ (.slice Ao33 t197.length co33 : Value).ownBlock) (fun _ => False) rfl rfl ?aO ?aR (fun _ _ h => h) (fun _ h => h.elim) ?aF ?aB ?aS ?aL ?_
         (case aR => repeat (first | exact (Kd.R_reads' HO199.out).2.2 | (with_reducible refine Kd.C_alloc ?_ _) | (with_reducible refine Kd.C_drewN ?_ _) | (with_reducible refine Kd.C_drew ?_)))
         (case aB => exact (by repeat (first | (with_reducible first | exact HB.out | apply wA | apply wN | apply wD | refine below_set ?_ GE187.out | refine below_set ?_ GE188.out | refine below_set ?_ GE189.out | refine below_set ?_ GE190.out | refine below_set ?_ GE193.out) | exact HB.out)))
         (case aF => exact (fun k_ hk => Kd.fresh' (Kd.R_lt (by (with_reducible repeat (first | apply Kd.R_alloc | apply Kd.R_drewN | apply Kd.R_drew)); exact HO199.out)) k_ hk))
         (case aO => exact (by (with_reducible repeat (first | apply Kd.R_alloc | apply Kd.R_drewN | apply Kd.R_drew)); exact Kd.R_mono HO196.out (fun _ hk => hk.2)))
         (case aS => exact (below_size (by repeat (first | (with_reducible first | exact HB.out | apply wA | apply wN | apply wD | refine below_set ?_ GE187.out | refine below_set ?_ GE188.out | refine below_set ?_ GE189.out | refine below_set ?_ GE190.out | refine below_set ?_ GE193.out) | exact HB.out))))
         (case aL => have := LMc11.out; omega)
         intro v201 w32 ho hb hg hat
         rw [← Ny200.out] at ho
         have n0_ := aM (Kd.S_after (ok := (fun k_ => some k_ ≠ (.slice Ao33 t197.length co33 : Value).ownBlock ∧ k_ ≠ gb193)) (by (with_reducible repeat (first | apply Kd.S_alloc | apply Kd.S_drewN | apply Kd.S_drew)); exact Kd.S_mono HO_190000.out (fun _ hk => ⟨⟨hk.2, hk.1.1⟩, hk.1.2⟩)) hg hat)
         have n1_ := aM (blk_grown (g := gb187) (o := .cells #[.slice (some ad192) l0_0.length c0_0] 24 (0, 0)) (by (with_reducible repeat (first | refine bN ?_ _ | refine bD ?_ | refine bA ?_ _)); exact BK187.out) hg (Kd.R_ne HO196.out BK187.out (by decide)))
         have n2_ := aM (blk_grown (g := gb188) (o := .cells #[.slice none 0 0] 24 (0, 0)) (by (with_reducible repeat (first | refine bN ?_ _ | refine bD ?_ | refine bA ?_ _)); exact BK188.out) hg (Kd.R_ne HO196.out BK188.out (by decide)))
         have n3_ := aM (blk_grown (g := gb189) (o := .cells #[u190000] 24 (0, 0)) (by (with_reducible repeat (first | refine bN ?_ _ | refine bD ?_ | refine bA ?_ _)); exact BK189.out) hg (Kd.R_ne HO196.out BK189.out (by decide)))
         have n4_ := aM (blk_grown (g := gb190) (o := .cells #[.int .i64 ((rd_T39 l1 x6_1).f0), .slice A191_1 ((rd_T39 l1 x6_1).f1).length c191_1] 39 (0, 0)) (by (with_reducible repeat (first | refine bN ?_ _ | refine bD ?_ | refine bA ?_ _)); exact BK190.out) hg (Kd.R_ne HO196.out BK190.out (by decide)))
         have n5_ := aM (blk_grown (g := gb193) (o := .cells #[.slice A192_0 ((rd_T48 l0_0 x6_1).f0).length c192_0, .slice A192_1 ((rd_T48 l0_0 x6_1).f1).length c192_1] 48 (0, 0)) (by (with_reducible repeat (first | refine bN ?_ _ | refine bD ?_ | refine bA ?_ _)); exact BK193.out) hg (Kd.R_ne HO196.out BK193.out (by decide)))
         have n6_ := aM (Kd.R_after (ok := (fun _ => True)) (by (with_reducible repeat (first | apply Kd.R_alloc | apply Kd.R_drewN | apply Kd.R_drew)); exact HO199.out) hg hat)
         have n7_ := aM (hb)
         have n8_ := aM (ho)
         clear HO_190000
         clear BK187
         clear BK188
         clear BK189
         clear BK190
         clear BK193
         clear HO199
         clear HB
         clear HO196
         have HO_190000 := n0_
         have BK187 := n1_
         have BK188 := n2_
         have BK189 := n3_
         have BK190 := n4_
         have BK193 := n5_
         have HO199 := n6_
         have HB := n7_
         have HO202 := n8_
         clear n0_ n1_ n2_ n3_ n4_ n5_ n6_ n7_ n8_
         clear ho hb hg hat
         obtain ⟨Ao34, co34, eo34⟩ := Kd.R_slice HO202.out
         (first | subst eo34 | (injection eo34 with f1_ f2_ f3_; have f4_ := f1_.symm; have f5_ := f3_.symm; clear f1_ f2_ f3_; subst f4_; subst f5_))
         refine hK.out _ _ ⟨(blk_cell BK189.out 0).trans rfl, (blk_cell BK193.out 0).trans rfl, (blk_cell BK193.out 1).trans rfl, (blk_cell BK190.out 0).trans rfl, (blk_cell BK190.out 1).trans rfl⟩ (fun hHeld => ?_)
         clear hK K
         refine norm_ (a' := ?_) ?_ ?_
         rotate_left
         ·show Act.put _ (some 38) _ = _
          simp only [Act.put, List.setIfInBounds_toArray, List.set_cons_zero, List.set_cons_succ, i64_w, i32_w]
          rfl
         refine pure_ (i := 10) (N := some 39) (v := ?_) (a' := ?_) #[true, true, true, true, true, true, true, true, true, true, true, false, false, false, false] rfl rfl (any_of HT_.out (by kernel_rfl)) (fun _ _ _ h => h) (Or.inl ⟨by rfl, ?_⟩) ?_ ?_
         rotate_left
         ·intro w'
          go_simp
          with_reducible rfl
         rotate_left
         ·simp only [Act.put, List.setIfInBounds_toArray, List.set_cons_zero, List.set_cons_succ, i64_w, i32_w]
          rfl
         refine one_ (i := 11) (N := some 40) #[true, true, true, true, true, true, true, true, true, true, true, true, false, false, false] rfl rfl (one_of HT_.out (by kernel_rfl)) (by decide) (fun K hK => ?_)
         refine value_ (w1 := ?_) (v := ?_) (by rfl) rfl ?_ ?_
         rotate_left 2
         ·go_simp
          constructor
          ·rfl
          ·rfl
         refine hK.out _ _ ⟨(blk_cell (bA BK189.out _) 0).trans rfl, (blk_cell (bA BK193.out _) 0).trans rfl, (blk_cell (bA BK193.out _) 1).trans rfl, (blk_cell (bA BK190.out _) 0).trans rfl, (blk_cell (bA BK190.out _) 1).trans rfl⟩ (fun hHeld => ?_)
         clear hK K
         refine norm_ (a' := ?_) ?_ ?_
         rotate_left
         ·show Act.put _ (some 40) _ = _
          simp only [Act.put, List.setIfInBounds_toArray, List.set_cons_zero, List.set_cons_succ, i64_w, i32_w]
          rfl
         refine one_ (i := 12) (N := some 41) #[true, true, true, true, true, true, true, true, true, true, true, true, true, false, false] rfl rfl (one_of HT_.out (by kernel_rfl)) (by decide) (fun K hK => ?_)
         refine Kd.S_append_step k48 (w0 := w) w.heap.size (by rfl) (.tmp 30) (.tmp 40) 22 48 (.agg #[(.slice none 0 0), (.slice none 0 0)]) 48 rfl Try.underlying22 info48 rfl (by decide) (by omega) u190000 x190000_1 (⟨y200, ([] : List Int)⟩ : S48) [.slice Ao34 y200.length co34, .slice none 0 0] (fun k_ => some k_ ≠ (.slice Ao33 t197.length co33 : Value).ownBlock ∧ k_ ≠ gb193) (fun k_ => some k_ = (.slice Ao34 y200.length co34 : Value).ownBlock) rfl rfl ?aP (fun k_ hk_ => ((Kd.R_mono (ok' := fun k_ => ((fun k_ => some k_ ≠ (.slice Ao33 t197.length co33 : Value).ownBlock ∧ k_ ≠ gb193)) k_ ∧ some k_ ≠ (u190000 : Value).ownBlock) (Kd.R_types (Kd.R_apart' (HO202.out) (Kd.S_typed HO_190000.out) (by decide)) BK193.out (by decide)) (fun k_ hk => ⟨⟨hk.1.1, hk.2⟩, hk.1.2⟩))).1 k_ hk_.symm) ?aF ?aO ?aB ?aS ?aL ?_
         (case aP => exact k48_mkM _ _ _ (⟨y200, ([] : List Int)⟩ : S48) (Kd.R_mono (Kd.R_tight rfl (Kd.R_mono (ok' := fun k_ => ((fun k_ => some k_ ≠ (.slice Ao33 t197.length co33 : Value).ownBlock ∧ k_ ≠ gb193)) k_ ∧ some k_ ≠ (u190000 : Value).ownBlock) (Kd.R_types (Kd.R_apart' (HO202.out) (Kd.S_typed HO_190000.out) (by decide)) BK193.out (by decide)) (fun k_ hk => ⟨⟨hk.1.1, hk.2⟩, hk.1.2⟩))) (fun _ h_ => h_)) (Kd.R_nil _ _ _ _ _))
         (case aB => exact (by repeat (first | (with_reducible first | exact HB.out | apply wA | apply wN | apply wD | refine below_set ?_ GE187.out | refine below_set ?_ GE188.out | refine below_set ?_ GE189.out | refine below_set ?_ GE190.out | refine below_set ?_ GE193.out) | exact HB.out)))
         (case aF => exact (fun k_ hk => ⟨Kd.fresh' (Kd.R_lt (by (with_reducible repeat (first | apply Kd.R_alloc | apply Kd.R_drewN | apply Kd.R_drew)); exact HO199.out)) k_ hk, Kd.freshB (g := gb193) (o := .cells #[.slice A192_0 ((rd_T48 l0_0 x6_1).f0).length c192_0, .slice A192_1 ((rd_T48 l0_0 x6_1).f1).length c192_1] 48 (0, 0)) (by (with_reducible repeat (first | refine bN ?_ _ | refine bD ?_ | refine bA ?_ _)); exact BK193.out) k_ hk⟩))
         (case aO => exact (by (with_reducible repeat (first | apply Kd.S_alloc | apply Kd.S_drewN | apply Kd.S_drew)); exact Kd.S_mono HO_190000.out (fun k_ hk => ⟨⟨hk.1.1, hk.1.2⟩, fun e_ => hk.2 e_⟩)))
         (case aS => exact (below_size (by repeat (first | (with_reducible first | exact HB.out | apply wA | apply wN | apply wD | refine below_set ?_ GE187.out | refine below_set ?_ GE188.out | refine below_set ?_ GE189.out | refine below_set ?_ GE190.out | refine below_set ?_ GE193.out) | exact HB.out))))
         (case aL => have := LMc12.out; omega)
         intro v204 w35 ho hb hg hat
         rw [← Ny203.out] at ho
         have n0_ := aM (blk_grown (g := gb187) (o := .cells #[.slice (some ad192) l0_0.length c0_0] 24 (0, 0)) (by (with_reducible repeat (first | refine bN ?_ _ | refine bD ?_ | refine bA ?_ _)); exact BK187.out) hg (Kd.S_ne HO_190000.out BK187.out (by decide)))
         have n1_ := aM (blk_grown (g := gb188) (o := .cells #[.slice none 0 0] 24 (0, 0)) (by (with_reducible repeat (first | refine bN ?_ _ | refine bD ?_ | refine bA ?_ _)); exact BK188.out) hg (Kd.S_ne HO_190000.out BK188.out (by decide)))
         have n2_ := aM (blk_grown (g := gb189) (o := .cells #[u190000] 24 (0, 0)) (by (with_reducible repeat (first | refine bN ?_ _ | refine bD ?_ | refine bA ?_ _)); exact BK189.out) hg (Kd.S_ne HO_190000.out BK189.out (by decide)))
         have n3_ := aM (blk_grown (g := gb190) (o := .cells #[.int .i64 ((rd_T39 l1 x6_1).f0), .slice A191_1 ((rd_T39 l1 x6_1).f1).length c191_1] 39 (0, 0)) (by (with_reducible repeat (first | refine bN ?_ _ | refine bD ?_ | refine bA ?_ _)); exact BK190.out) hg (Kd.S_ne HO_190000.out BK190.out (by decide)))
         have n4_ := aM (blk_grown (g := gb193) (o := .cells #[.slice A192_0 ((rd_T48 l0_0 x6_1).f0).length c192_0, .slice A192_1 ((rd_T48 l0_0 x6_1).f1).length c192_1] 48 (0, 0)) (by (with_reducible repeat (first | refine bN ?_ _ | refine bD ?_ | refine bA ?_ _)); exact BK193.out) hg (Kd.S_away HO_190000.out (fun _ hk => hk.1.2)))
         have n5_ := aM (Kd.R_over' (by (with_reducible repeat (first | apply Kd.R_alloc | apply Kd.R_drewN | apply Kd.R_drew)); exact HO199.out) (Kd.S_typed (by (with_reducible repeat (first | apply Kd.S_alloc | apply Kd.S_drewN | apply Kd.S_drew)); exact HO_190000.out)) (by decide) hg)
         have n6_ := aM (hb)
         have n7_ := aM (ho)
         clear BK187
         clear BK188
         clear BK189
         clear BK190
         clear BK193
         clear HO199
         clear HB
         clear HO_190000
         clear HO202
         have BK187 := n0_
         have BK188 := n1_
         have BK189 := n2_
         have BK190 := n3_
         have BK193 := n4_
         have HO199 := n5_
         have HB := n6_
         have HO205 := n7_
         clear n0_ n1_ n2_ n3_ n4_ n5_ n6_ n7_
         clear ho hb hg hat
         obtain ⟨Ao36, co36, eo36⟩ := Kd.S_slice HO205.out
         (first | subst eo36 | (injection eo36 with f1_ f2_ f3_; have f4_ := f1_.symm; have f5_ := f3_.symm; clear f1_ f2_ f3_; subst f4_; subst f5_))
         refine hK.out _ _ ⟨(blk_cell BK189.out 0).trans rfl, (blk_cell BK193.out 0).trans rfl, (blk_cell BK193.out 1).trans rfl, (blk_cell BK190.out 0).trans rfl, (blk_cell BK190.out 1).trans rfl⟩ (fun hHeld => ?_)
         clear hK K
         refine norm_ (a' := ?_) ?_ ?_
         rotate_left
         ·show Act.put _ (some 41) _ = _
          simp only [Act.put, List.setIfInBounds_toArray, List.set_cons_zero, List.set_cons_succ, i64_w, i32_w]
          rfl
         refine pure_ (i := 13) (N := some 42) (v := ?_) (a' := ?_) #[true, true, true, true, true, true, true, true, true, true, true, true, true, true, false] rfl rfl (any_of HT_.out (by kernel_rfl)) (fun _ _ _ h => h) (Or.inl ⟨by rfl, ?_⟩) ?_ ?_
         rotate_left
         ·intro w'
          go_simp
          with_reducible rfl
         rotate_left
         ·simp only [Act.put, List.setIfInBounds_toArray, List.set_cons_zero, List.set_cons_succ, i64_w, i32_w]
          rfl
         refine last_ (i := 14) (N := none) #[true, true, true, true, true, true, true, true, true, true, true, true, true, true, true] rfl rfl (one_of HT_.out (by kernel_rfl)) (by decide) (fun K hK => ?_)
         have hs37 : w35.cell? ⟨gb189, 0, none⟩ = some (u190000) := (blk_cell BK189.out 0).trans rfl
         have hfs37 := blk_frozen BK189.out 0
         have hns37_0 := NB187_189.out
         have hns37_1 := NB188_189.out
         have hns37_3 := NB190_189.out
         have hns37_4 := NB193_189.out
         have hms37_0 := NB189_187.out
         have hms37_1 := NB189_188.out
         have hms37_3 := NB189_190.out
         have hms37_4 := NB189_193.out
         refine skip_ (w1 := ?_) (by rfl) rfl ?_ ?_
         rotate_left
         ·go_simp
          rfl
         refine hK.out _ _ ?_
         clear hK K
         refine done_ (done_of HT_.out (by kernel_rfl)) ?_
         try go_wp2
         go_roundg k1
         case measure => have := HK1.out; omega
         case rel => exact ⟨(wrap64 (x6_1 + 1)), (y203), (.slice Ao36 y203.length co36), (by first | rfl | (simp; done) | (simp [*]; done)), H', ⟨by have := HK1.out; omega⟩, ⟨by (with_reducible repeat (first | apply Kd.S_alloc | apply Kd.S_drewN | apply Kd.S_drew)); exact Kd.S_mono (Kd.S_far (p := ⟨gb189, 0, none⟩) (Kd.S_types HO205.out BK189.out (by decide)) (fun _ hk => hk.2) (.slice Ao36 y203.length co36)) (fun _ hk => trivial)⟩, ⟨by (with_reducible repeat (first | refine bN ?_ _ | refine bD ?_ | refine bA ?_ _)); refine blk_far ?_ NB187_189.out _; (with_reducible repeat (first | refine bN ?_ _ | refine bD ?_ | refine bA ?_ _)); exact BK187.out⟩, ⟨by (with_reducible repeat (first | refine bN ?_ _ | refine bD ?_ | refine bA ?_ _)); refine blk_far ?_ NB188_189.out _; (with_reducible repeat (first | refine bN ?_ _ | refine bD ?_ | refine bA ?_ _)); exact BK188.out⟩, ⟨by (with_reducible repeat (first | refine bN ?_ _ | refine bD ?_ | refine bA ?_ _)); refine blk_put (cs := #[u190000]) ?_ 0 _ rfl; (with_reducible repeat (first | refine bN ?_ _ | refine bD ?_ | refine bA ?_ _)); exact BK189.out⟩, ⟨by repeat (first | (with_reducible first | exact HB.out | apply wA | apply wN | apply wD | refine below_set ?_ GE187.out | refine below_set ?_ GE188.out | refine below_set ?_ GE189.out | refine below_set ?_ GE190.out | refine below_set ?_ GE193.out) | exact HB.out)⟩⟩
        ·rw [if_neg c12] at H
         exact absurd H (by simp)
       ·rw [if_neg c11] at H
        exact absurd H (by simp)
      ·rw [if_neg c9] at H
       exact absurd H (by simp)
     ·rw [if_neg c8] at H
      exact absurd H (by simp)
    ·rw [if_neg c7] at H
     have c7b0 : decide (x6_1 < (l1.length : Int)) = false := decide_eq_false c7
     clear c7
     by_cases c38 : 0 ≤ x6_1
     ·rw [if_pos c38] at H
      have c38b0 : decide (0 ≤ x6_1) = true := decide_eq_true c38
      clear c38
      by_cases c39 : ([] : List Int).length + ((rd_T48 l0_0 x6_1).f0).length < 140737488355328
      ·rw [if_pos c39] at H
       have LMc39 := aM c39
       clear c39
       obtain ⟨y208, hy208⟩ : ∃ y_ : List Int, y_ = (([] : List Int) ++ ((rd_T48 l0_0 x6_1).f0)) := ⟨_, rfl⟩
       replace H : ((rollbacknetref10_Torn.f k1 ((rd_T48 l0_0 x6_1).f1) 0 ([] : List Int)).bind fun t211 => (if y208.length + t211.length < 140737488355328 then (if x190000_1.length < 2932031007402 then (rollbacknetref10_Crash.l0 k1 l1 (wrap64 (x6_1 + 1)) l0_0 (x190000_1 ++ [(⟨(y208 ++ t211), ([] : List Int)⟩ : S48)])) else (none)) else (none))) = some r := by first | (rw [hy208]; with_reducible exact H) | (have H2_ := (Option.bind_some _ _).symm.trans H; rw [hy208]; with_reducible exact H2_) | (have H2_ := (Option.bind_some _ _).symm.trans H; with_reducible exact H2_) | with_reducible exact H | (rw [hy208]; exact H) | exact H
       have Ny208 := aM hy208
       clear hy208
       replace H := Option.bind_eq_some_iff.mp H
       obtain ⟨t211, A400, H⟩ := H
       replace H : (if y208.length + t211.length < 140737488355328 then (if x190000_1.length < 2932031007402 then (rollbacknetref10_Crash.l0 k1 l1 (wrap64 (x6_1 + 1)) l0_0 (x190000_1 ++ [(⟨(y208 ++ t211), ([] : List Int)⟩ : S48)])) else (none)) else (none)) = some r := H
       have A40 := aM A400
       clear A400
       by_cases c41 : y208.length + t211.length < 140737488355328
       ·rw [if_pos c41] at H
        have LMc41 := aM c41
        clear c41
        obtain ⟨y214, hy214⟩ : ∃ y_ : List Int, y_ = (y208 ++ t211) := ⟨_, rfl⟩
        replace H : (if x190000_1.length < 2932031007402 then (rollbacknetref10_Crash.l0 k1 l1 (wrap64 (x6_1 + 1)) l0_0 (x190000_1 ++ [(⟨y214, ([] : List Int)⟩ : S48)])) else (none)) = some r := by first | (rw [hy214]; with_reducible exact H) | (have H2_ := (Option.bind_some _ _).symm.trans H; rw [hy214]; with_reducible exact H2_) | (have H2_ := (Option.bind_some _ _).symm.trans H; with_reducible exact H2_) | with_reducible exact H | (rw [hy214]; exact H) | exact H
        have Ny214 := aM hy214
        clear hy214
        by_cases c42 : x190000_1.length < 2932031007402
        ·rw [if_pos c42] at H
         have LMc42 := aM c42
         clear c42
         obtain ⟨y217, hy217⟩ : ∃ y_ : List (S48), y_ = (x190000_1 ++ [(⟨y214, ([] : List Int)⟩ : S48)]) := ⟨_, rfl⟩
         replace H : (rollbacknetref10_Crash.l0 k1 l1 (wrap64 (x6_1 + 1)) l0_0 y217) = some r := by first | (rw [hy217]; with_reducible exact H) | (have H2_ := (Option.bind_some _ _).symm.trans H; rw [hy217]; with_reducible exact H2_) | (have H2_ := (Option.bind_some _ _).symm.trans H; with_reducible exact H2_) | with_reducible exact H | (rw [hy217]; exact H) | exact H
         have Ny217 := aM hy217
         clear hy217
         have H' := aM H
         clear H
         have hnb43 := NB187_188.out
         have hnc43 := NB188_187.out
         have hnb44 := NB187_189.out
         have hnc44 := NB189_187.out
         have hcz45_0 : wr.cell? ⟨gb187, 0, none⟩ = some (.slice A0_0 l0_0.length c0_0) := (blk_cell BK187.out 0).trans rfl
         have hfz45_0 := blk_frozen BK187.out 0
         try go_wp2_with (first | ((with_reducible refine gate_dst (N := 7) rfl ?_); refine box_event ?hg (N := 7) ?hd (cs := #[.int .i64 0, .slice none 0 0]) (t := 39) ?hr ?_; (case hd => rfl); (case hg => rfl); (case hr => first | (go_simp; done) | (go_simp; rfl)); intro gb190 hg w46 hbox hb; have n0_ := aM (Kd.S_below (by (with_reducible repeat (first | apply Kd.S_alloc | apply Kd.S_drewN | apply Kd.S_drew)); exact HO_190000.out) hb); have n1_ := aM (blk_below (g := gb187) (o := .cells #[.slice A0_0 l0_0.length c0_0] 24 (0, 0)) (by (with_reducible repeat (first | refine bN ?_ _ | refine bD ?_ | refine bA ?_ _)); exact BK187.out) hb); have n2_ := aM (blk_below (g := gb188) (o := .cells #[.slice none 0 0] 24 (0, 0)) (by (with_reducible repeat (first | refine bN ?_ _ | refine bD ?_ | refine bA ?_ _)); exact BK188.out) hb); have n3_ := aM (blk_below (g := gb189) (o := .cells #[u190000] 24 (0, 0)) (by (with_reducible repeat (first | refine bN ?_ _ | refine bD ?_ | refine bA ?_ _)); exact BK189.out) hb); have n4_ := aM (below_step (by repeat (first | (with_reducible first | exact HB.out | apply wA | apply wN | apply wD | refine below_set ?_ GE187.out | refine below_set ?_ GE188.out | refine below_set ?_ GE189.out) | exact HB.out)) hb); have n5_ := aM (hbox); have n6_ := aM ((by rw [hg]; exact (below_size (by repeat (first | (with_reducible first | exact HB.out | apply wA | apply wN | apply wD | refine below_set ?_ GE187.out | refine below_set ?_ GE188.out | refine below_set ?_ GE189.out) | exact HB.out))) : w.heap.size ≤ gb190)); have n7_ := aM ((by rw [hg]; exact (below_size (by repeat (first | (with_reducible first | exact HB.out | apply wA | apply wN | apply wD | refine below_set ?_ GE187.out | refine below_set ?_ GE188.out | refine below_set ?_ GE189.out) | exact HB.out))) : w.heap.size ≤ gb190)); have n8_ := aM ((by rw [hg]; exact Nat.ne_of_lt (blk_lt (g := gb187) (o := .cells #[.slice A0_0 l0_0.length c0_0] 24 (0, 0)) (by (with_reducible repeat (first | refine bN ?_ _ | refine bD ?_ | refine bA ?_ _)); exact BK187.out)) : gb187 ≠ gb190)); have n9_ := aM ((by rw [hg]; exact Nat.ne_of_gt (blk_lt (g := gb187) (o := .cells #[.slice A0_0 l0_0.length c0_0] 24 (0, 0)) (by (with_reducible repeat (first | refine bN ?_ _ | refine bD ?_ | refine bA ?_ _)); exact BK187.out)) : gb190 ≠ gb187)); have n10_ := aM ((by rw [hg]; exact Nat.ne_of_lt (blk_lt (g := gb188) (o := .cells #[.slice none 0 0] 24 (0, 0)) (by (with_reducible repeat (first | refine bN ?_ _ | refine bD ?_ | refine bA ?_ _)); exact BK188.out)) : gb188 ≠ gb190)); have n11_ := aM ((by rw [hg]; exact Nat.ne_of_gt (blk_lt (g := gb188) (o := .cells #[.slice none 0 0] 24 (0, 0)) (by (with_reducible repeat (first | refine bN ?_ _ | refine bD ?_ | refine bA ?_ _)); exact BK188.out)) : gb190 ≠ gb188)); have n12_ := aM ((by rw [hg]; exact Nat.ne_of_lt (blk_lt (g := gb189) (o := .cells #[u190000] 24 (0, 0)) (by (with_reducible repeat (first | refine bN ?_ _ | refine bD ?_ | refine bA ?_ _)); exact BK189.out)) : gb189 ≠ gb190)); have n13_ := aM ((by rw [hg]; exact Nat.ne_of_gt (blk_lt (g := gb189) (o := .cells #[u190000] 24 (0, 0)) (by (with_reducible repeat (first | refine bN ?_ _ | refine bD ?_ | refine bA ?_ _)); exact BK189.out)) : gb190 ≠ gb189)); clear HO_190000; clear BK187; clear BK188; clear BK189; clear HB; have HO_190000 := n0_; have BK187 := n1_; have BK188 := n2_; have BK189 := n3_; have HB := n4_; have BK190 := n5_; have GW190 := n6_; have GE190 := n7_; have NB187_190 := n8_; have NB190_187 := n9_; have NB188_190 := n10_; have NB190_188 := n11_; have NB189_190 := n12_; have NB190_189 := n13_; clear n0_ n1_ n2_ n3_ n4_ n5_ n6_ n7_ n8_ n9_ n10_ n11_ n12_ n13_; clear hb hbox hg; have hnb47 := NB187_190.out; have hnc47 := NB190_187.out; have hcz48_0 : w46.cell? ⟨gb187, 0, none⟩ = some (.slice A0_0 l0_0.length c0_0) := (blk_cell BK187.out 0).trans rfl; have hfz48_0 := blk_frozen BK187.out 0; have p206 : 0 ≤ (x6_1 : Int) := of_decide_eq_true (by first | (with_reducible assumption) | assumption); have q206 : x6_1 < (l0_0.length : Int) := of_decide_eq_true (by first | (with_reducible assumption) | assumption); obtain ⟨ad206, A206_0, c206_0, A206_1, c206_1, e206, hx206_0, hx206_1, hl206_0, hi206_0, hl206_1, hi206_1⟩ := at_T48 HR0_0.out x6_1 p206 q206; cases e206; replace hx206_0 := (HB.out.cell (World.block_lt_of_cell? w _ hx206_0)).trans hx206_0; replace hx206_1 := (HB.out.cell (World.block_lt_of_cell? w _ hx206_1)).trans hx206_1; have HR206_0 := aM hi206_0; have HC206_0 := aM hl206_0; clear hi206_0 hl206_0; have HR206_1 := aM hi206_1; have HC206_1 := aM hl206_1; clear hi206_1 hl206_1; replace p206 := eq_true p206; replace q206 := eq_true q206) | ((with_reducible refine gate_dst (N := 8) rfl ?_); refine box_event ?hg (N := 8) ?hd (cs := #[.slice none 0 0, .slice none 0 0]) (t := 48) ?hr ?_; (case hd => rfl); (case hg => rfl); (case hr => first | (go_simp; done) | (go_simp; rfl)); intro gb207 hg w49 hbox hb; have n0_ := aM (Kd.S_below (Kd.S_elderB (by (with_reducible repeat (first | apply Kd.S_alloc | apply Kd.S_drewN | apply Kd.S_drew)); exact HO_190000.out) gb207 (Nat.le_of_eq hg.symm)) hb); have n1_ := aM (blk_below (g := gb187) (o := .cells #[.slice (some ad206) l0_0.length c0_0] 24 (0, 0)) (by (with_reducible repeat (first | refine bN ?_ _ | refine bD ?_ | refine bA ?_ _)); exact BK187.out) hb); have n2_ := aM (blk_below (g := gb188) (o := .cells #[.slice none 0 0] 24 (0, 0)) (by (with_reducible repeat (first | refine bN ?_ _ | refine bD ?_ | refine bA ?_ _)); exact BK188.out) hb); have n3_ := aM (blk_below (g := gb189) (o := .cells #[u190000] 24 (0, 0)) (by (with_reducible repeat (first | refine bN ?_ _ | refine bD ?_ | refine bA ?_ _)); exact BK189.out) hb); have n4_ := aM (blk_below (g := gb190) (o := .cells #[.int .i64 0, .slice none 0 0] 39 (0, 0)) (by (with_reducible repeat (first | refine bN ?_ _ | refine bD ?_ | refine bA ?_ _)); exact BK190.out) hb); have n5_ := aM (below_step (by repeat (first | (with_reducible first | exact HB.out | apply wA | apply wN | apply wD | refine below_set ?_ GE187.out | refine below_set ?_ GE188.out | refine below_set ?_ GE189.out | refine below_set ?_ GE190.out) | exact HB.out)) hb); have n6_ := aM (hbox); have n7_ := aM ((by rw [hg]; exact (below_size (by repeat (first | (with_reducible first | exact HB.out | apply wA | apply wN | apply wD | refine below_set ?_ GE187.out | refine below_set ?_ GE188.out | refine below_set ?_ GE189.out | refine below_set ?_ GE190.out) | exact HB.out))) : w.heap.size ≤ gb207)); have n8_ := aM ((by rw [hg]; exact (below_size (by repeat (first | (with_reducible first | exact HB.out | apply wA | apply wN | apply wD | refine below_set ?_ GE187.out | refine below_set ?_ GE188.out | refine below_set ?_ GE189.out | refine below_set ?_ GE190.out) | exact HB.out))) : w.heap.size ≤ gb207)); have n9_ := aM ((by rw [hg]; exact Nat.ne_of_lt (blk_lt (g := gb187) (o := .cells #[.slice (some ad206) l0_0.length c0_0] 24 (0, 0)) (by (with_reducible repeat (first | refine bN ?_ _ | refine bD ?_ | refine bA ?_ _)); exact BK187.out)) : gb187 ≠ gb207)); have n10_ := aM ((by rw [hg]; exact Nat.ne_of_gt (blk_lt (g := gb187) (o := .cells #[.slice (some ad206) l0_0.length c0_0] 24 (0, 0)) (by (with_reducible repeat (first | refine bN ?_ _ | refine bD ?_ | refine bA ?_ _)); exact BK187.out)) : gb207 ≠ gb187)); have n11_ := aM ((by rw [hg]; exact Nat.ne_of_lt (blk_lt (g := gb188) (o := .cells #[.slice none 0 0] 24 (0, 0)) (by (with_reducible repeat (first | refine bN ?_ _ | refine bD ?_ | refine bA ?_ _)); exact BK188.out)) : gb188 ≠ gb207)); have n12_ := aM ((by rw [hg]; exact Nat.ne_of_gt (blk_lt (g := gb188) (o := .cells #[.slice none 0 0] 24 (0, 0)) (by (with_reducible repeat (first | refine bN ?_ _ | refine bD ?_ | refine bA ?_ _)); exact BK188.out)) : gb207 ≠ gb188)); have n13_ := aM ((by rw [hg]; exact Nat.ne_of_lt (blk_lt (g := gb189) (o := .cells #[u190000] 24 (0, 0)) (by (with_reducible repeat (first | refine bN ?_ _ | refine bD ?_ | refine bA ?_ _)); exact BK189.out)) : gb189 ≠ gb207)); have n14_ := aM ((by rw [hg]; exact Nat.ne_of_gt (blk_lt (g := gb189) (o := .cells #[u190000] 24 (0, 0)) (by (with_reducible repeat (first | refine bN ?_ _ | refine bD ?_ | refine bA ?_ _)); exact BK189.out)) : gb207 ≠ gb189)); have n15_ := aM ((by rw [hg]; exact Nat.ne_of_lt (blk_lt (g := gb190) (o := .cells #[.int .i64 0, .slice none 0 0] 39 (0, 0)) (by (with_reducible repeat (first | refine bN ?_ _ | refine bD ?_ | refine bA ?_ _)); exact BK190.out)) : gb190 ≠ gb207)); have n16_ := aM ((by rw [hg]; exact Nat.ne_of_gt (blk_lt (g := gb190) (o := .cells #[.int .i64 0, .slice none 0 0] 39 (0, 0)) (by (with_reducible repeat (first | refine bN ?_ _ | refine bD ?_ | refine bA ?_ _)); exact BK190.out)) : gb207 ≠ gb190)); clear HO_190000; clear BK187; clear BK188; clear BK189; clear BK190; clear HB; have HO_190000 := n0_; have BK187 := n1_; have BK188 := n2_; have BK189 := n3_; have BK190 := n4_; have HB := n5_; have BK207 := n6_; have GW207 := n7_; have GE207 := n8_; have NB187_207 := n9_; have NB207_187 := n10_; have NB188_207 := n11_; have NB207_188 := n12_; have NB189_207 := n13_; have NB207_189 := n14_; have NB190_207 := n15_; have NB207_190 := n16_; clear n0_ n1_ n2_ n3_ n4_ n5_ n6_ n7_ n8_ n9_ n10_ n11_ n12_ n13_ n14_ n15_ n16_; clear hb hbox hg; have hnb50 := NB207_187.out; have hnc50 := NB187_207.out; have hnb51 := NB207_188.out; have hnc51 := NB188_207.out; have hnb52 := NB207_189.out; have hnc52 := NB189_207.out; have hnb53 := NB207_190.out; have hnc53 := NB190_207.out; have hcz54_0 : w49.cell? ⟨gb207, 0, none⟩ = some (.slice none 0 0) := (blk_cell BK207.out 0).trans rfl; have hcz54_1 : w49.cell? ⟨gb207, 1, none⟩ = some (.slice none 0 0) := (blk_cell BK207.out 1).trans rfl; have hfz54_0 := blk_frozen BK207.out 0; have hfz54_1 := blk_frozen BK207.out 1))
         have n0_ : Aside0 (Kd.S k48 48 ((w49.setCell ⟨gb207, 0, none⟩ (.slice A206_0 ((rd_T48 l0_0 x6_1).f0).length c206_0)).setCell ⟨gb207, 1, none⟩ (.slice A206_1 ((rd_T48 l0_0 x6_1).f1).length c206_1)) w.heap.size (fun k_ => k_ ≠ gb207) u190000 x190000_1) := ⟨by (with_reducible repeat (first | apply Kd.S_alloc | apply Kd.S_drewN | apply Kd.S_drew)); exact Kd.S_mono (Kd.S_far (p := ⟨gb207, 1, none⟩) (Kd.S_far (p := ⟨gb207, 0, none⟩) (Kd.S_mono HO_190000.out (fun k_ hk => (⟨hk, hk.2⟩ : _ ∧ k_ ≠ gb207))) (fun _ hk => hk.2) (.slice A206_0 ((rd_T48 l0_0 x6_1).f0).length c206_0)) (fun _ hk => hk.2) (.slice A206_1 ((rd_T48 l0_0 x6_1).f1).length c206_1)) (fun _ hk => hk.1.2)⟩
         have n1_ : Aside0 (((w49.setCell ⟨gb207, 0, none⟩ (.slice A206_0 ((rd_T48 l0_0 x6_1).f0).length c206_0)).setCell ⟨gb207, 1, none⟩ (.slice A206_1 ((rd_T48 l0_0 x6_1).f1).length c206_1)).heap[gb187]? = some (.cells #[.slice (some ad206) l0_0.length c0_0] 24 (0, 0))) := ⟨by (with_reducible repeat (first | refine bN ?_ _ | refine bD ?_ | refine bA ?_ _)); refine blk_far ?_ NB187_207.out _; (with_reducible repeat (first | refine bN ?_ _ | refine bD ?_ | refine bA ?_ _)); refine blk_far ?_ NB187_207.out _; (with_reducible repeat (first | refine bN ?_ _ | refine bD ?_ | refine bA ?_ _)); exact BK187.out⟩
         have n2_ : Aside0 (((w49.setCell ⟨gb207, 0, none⟩ (.slice A206_0 ((rd_T48 l0_0 x6_1).f0).length c206_0)).setCell ⟨gb207, 1, none⟩ (.slice A206_1 ((rd_T48 l0_0 x6_1).f1).length c206_1)).heap[gb188]? = some (.cells #[.slice none 0 0] 24 (0, 0))) := ⟨by (with_reducible repeat (first | refine bN ?_ _ | refine bD ?_ | refine bA ?_ _)); refine blk_far ?_ NB188_207.out _; (with_reducible repeat (first | refine bN ?_ _ | refine bD ?_ | refine bA ?_ _)); refine blk_far ?_ NB188_207.out _; (with_reducible repeat (first | refine bN ?_ _ | refine bD ?_ | refine bA ?_ _)); exact BK188.out⟩
         have n3_ : Aside0 (((w49.setCell ⟨gb207, 0, none⟩ (.slice A206_0 ((rd_T48 l0_0 x6_1).f0).length c206_0)).setCell ⟨gb207, 1, none⟩ (.slice A206_1 ((rd_T48 l0_0 x6_1).f1).length c206_1)).heap[gb189]? = some (.cells #[u190000] 24 (0, 0))) := ⟨by (with_reducible repeat (first | refine bN ?_ _ | refine bD ?_ | refine bA ?_ _)); refine blk_far ?_ NB189_207.out _; (with_reducible repeat (first | refine bN ?_ _ | refine bD ?_ | refine bA ?_ _)); refine blk_far ?_ NB189_207.out _; (with_reducible repeat (first | refine bN ?_ _ | refine bD ?_ | refine bA ?_ _)); exact BK189.out⟩
         have n4_ : Aside0 (((w49.setCell ⟨gb207, 0, none⟩ (.slice A206_0 ((rd_T48 l0_0 x6_1).f0).length c206_0)).setCell ⟨gb207, 1, none⟩ (.slice A206_1 ((rd_T48 l0_0 x6_1).f1).length c206_1)).heap[gb190]? = some (.cells #[.int .i64 0, .slice none 0 0] 39 (0, 0))) := ⟨by (with_reducible repeat (first | refine bN ?_ _ | refine bD ?_ | refine bA ?_ _)); refine blk_far ?_ NB190_207.out _; (with_reducible repeat (first | refine bN ?_ _ | refine bD ?_ | refine bA ?_ _)); refine blk_far ?_ NB190_207.out _; (with_reducible repeat (first | refine bN ?_ _ | refine bD ?_ | refine bA ?_ _)); exact BK190.out⟩
         have n5_ : Aside0 (((w49.setCell ⟨gb207, 0, none⟩ (.slice A206_0 ((rd_T48 l0_0 x6_1).f0).length c206_0)).setCell ⟨gb207, 1, none⟩ (.slice A206_1 ((rd_T48 l0_0 x6_1).f1).length c206_1)).heap[gb207]? = some (.cells #[.slice A206_0 ((rd_T48 l0_0 x6_1).f0).length c206_0, .slice A206_1 ((rd_T48 l0_0 x6_1).f1).length c206_1] 48 (0, 0))) := ⟨by (with_reducible repeat (first | refine bN ?_ _ | refine bD ?_ | refine bA ?_ _)); refine blk_put (cs := #[.slice A206_0 ((rd_T48 l0_0 x6_1).f0).length c206_0, .slice none 0 0]) ?_ 1 _ rfl; (with_reducible repeat (first | refine bN ?_ _ | refine bD ?_ | refine bA ?_ _)); refine blk_put (cs := #[.slice none 0 0, .slice none 0 0]) ?_ 0 _ rfl; (with_reducible repeat (first | refine bN ?_ _ | refine bD ?_ | refine bA ?_ _)); exact BK207.out⟩
         have n6_ : Aside0 (Below w.heap.size w ((w49.setCell ⟨gb207, 0, none⟩ (.slice A206_0 ((rd_T48 l0_0 x6_1).f0).length c206_0)).setCell ⟨gb207, 1, none⟩ (.slice A206_1 ((rd_T48 l0_0 x6_1).f1).length c206_1))) := ⟨by repeat (first | (with_reducible first | exact HB.out | apply wA | apply wN | apply wD | refine below_set ?_ GE187.out | refine below_set ?_ GE188.out | refine below_set ?_ GE189.out | refine below_set ?_ GE190.out | refine below_set ?_ GE207.out) | exact HB.out)⟩
         (try clear HO_190000)
         (try clear BK187)
         (try clear BK188)
         (try clear BK189)
         (try clear BK190)
         (try clear BK207)
         (try clear HB)
         generalize ((w49.setCell ⟨gb207, 0, none⟩ (.slice A206_0 ((rd_T48 l0_0 x6_1).f0).length c206_0)).setCell ⟨gb207, 1, none⟩ (.slice A206_1 ((rd_T48 l0_0 x6_1).f1).length c206_1)) = w55 at n0_ n1_ n2_ n3_ n4_ n5_ n6_ ⊢
         have HO_190000 := n0_
         have BK187 := n1_
         have BK188 := n2_
         have BK189 := n3_
         have BK190 := n4_
         have BK207 := n5_
         have HB := n6_
         clear n0_ n1_ n2_ n3_ n4_ n5_ n6_
         have n0_ := aM (Kd.S_drew HO_190000.out)
         have n1_ := aM (bD BK187.out)
         have n2_ := aM (bD BK188.out)
         have n3_ := aM (bD BK189.out)
         have n4_ := aM (bD BK190.out)
         have n5_ := aM (bD BK207.out)
         have n6_ := aM (wD HB.out)
         clear HO_190000
         clear BK187
         clear BK188
         clear BK189
         clear BK190
         clear BK207
         clear HB
         have HO_190000 := n0_
         have BK187 := n1_
         have BK188 := n2_
         have BK189 := n3_
         have BK190 := n4_
         have BK207 := n5_
         have HB := n6_
         clear n0_ n1_ n2_ n3_ n4_ n5_ n6_
         refine start_ (n := 15) (S := fun w' => w'.cell? ⟨gb189, 0, none⟩ = some (u190000) ∧ w'.cell? ⟨gb207, 0, none⟩ = some (.slice A206_0 ((rd_T48 l0_0 x6_1).f0).length c206_0) ∧ w'.cell? ⟨gb207, 1, none⟩ = some (.slice A206_1 ((rd_T48 l0_0 x6_1).f1).length c206_1) ∧ w'.cell? ⟨gb190, 0, none⟩ = some (.int .i64 0) ∧ w'.cell? ⟨gb190, 1, none⟩ = some (.slice none 0 0)) (ds := [14]) #[false, false, false, false, false, false, false, false, false, false, false, false, false, false, false] (by kernel_rfl) rfl rfl ⟨(blk_cell BK189.out 0).trans rfl, (blk_cell BK207.out 0).trans rfl, (blk_cell BK207.out 1).trans rfl, (blk_cell BK190.out 0).trans rfl, (blk_cell BK190.out 1).trans rfl⟩ (fun hHeld => ?_); refine with_tabW rollbacknetref10_Crash.tab9 rollbacknetref10_Crash.bits9 (fun HT_ HW_ => ?_)
         generalize w55.drew = w56 at HO_190000 BK187 BK188 BK189 BK190 BK207 HB hHeld ⊢
         refine pure_ (i := 0) (N := some 29) (v := ?_) (a' := ?_) #[true, false, false, false, false, false, false, false, false, false, false, false, false, false, false] rfl rfl (any_of HT_.out (by kernel_rfl)) (fun _ _ _ h => h) (Or.inl ⟨by rfl, ?_⟩) ?_ ?_
         rotate_left
         ·intro w'
          go_simp
          with_reducible rfl
         rotate_left
         ·simp only [Act.put, List.setIfInBounds_toArray, List.set_cons_zero, List.set_cons_succ, i64_w, i32_w]
          rfl
         refine pure_ (i := 2) (N := some 31) (v := ?_) (a' := ?_) #[true, false, true, false, false, false, false, false, false, false, false, false, false, false, false] rfl rfl (any_of HT_.out (by kernel_rfl)) (fun _ _ _ h => h) (Or.inl ⟨by rfl, ?_⟩) ?_ ?_
         rotate_left
         ·intro w'
          go_simp
          with_reducible rfl
         rotate_left
         ·simp only [Act.put, List.setIfInBounds_toArray, List.set_cons_zero, List.set_cons_succ, i64_w, i32_w]
          rfl
         refine pure_ (i := 5) (N := some 34) (v := ?_) (a' := ?_) #[true, false, true, false, false, true, false, false, false, false, false, false, false, false, false] rfl rfl (any_of HT_.out (by kernel_rfl)) (fun _ _ _ h => h) (Or.inl ⟨by rfl, ?_⟩) ?_ ?_
         rotate_left
         ·intro w'
          go_simp
          with_reducible rfl
         rotate_left
         ·simp only [Act.put, List.setIfInBounds_toArray, List.set_cons_zero, List.set_cons_succ, i64_w, i32_w]
          rfl
         refine take_ (i := 1) (N := some 30) (v := ?_) (a' := ?_) #[true, true, true, false, false, true, false, false, false, false, false, false, false, false, false] rfl rfl (take_ofW HT_.out HW_.out (by kernel_rfl)) (fun _ _ _ h => h) (Or.inl ⟨by rfl, ?_⟩) hHeld ?_ ?_
         rotate_left
         ·rintro w' ⟨s0, s1, s2, s3, s4⟩
          go_simp
          with_reducible rfl
         rotate_left
         ·simp only [Act.put, List.setIfInBounds_toArray, List.set_cons_zero, List.set_cons_succ, i64_w, i32_w]
          rfl
         refine take_ (i := 3) (N := some 32) (v := ?_) (a' := ?_) #[true, true, true, true, false, true, false, false, false, false, false, false, false, false, false] rfl rfl (take_ofW HT_.out HW_.out (by kernel_rfl)) (fun _ _ _ h => h) (Or.inl ⟨by rfl, ?_⟩) hHeld ?_ ?_
         rotate_left
         ·rintro w' ⟨s0, s1, s2, s3, s4⟩
          go_simp
          with_reducible rfl
         rotate_left
         ·simp only [Act.put, List.setIfInBounds_toArray, List.set_cons_zero, List.set_cons_succ, i64_w, i32_w]
          rfl
         refine take_ (i := 6) (N := some 35) (v := ?_) (a' := ?_) #[true, true, true, true, false, true, true, false, false, false, false, false, false, false, false] rfl rfl (take_ofW HT_.out HW_.out (by kernel_rfl)) (fun _ _ _ h => h) (Or.inl ⟨by rfl, ?_⟩) hHeld ?_ ?_
         rotate_left
         ·rintro w' ⟨s0, s1, s2, s3, s4⟩
          go_simp
          with_reducible rfl
         rotate_left
         ·simp only [Act.put, List.setIfInBounds_toArray, List.set_cons_zero, List.set_cons_succ, i64_w, i32_w]
          rfl
         refine take_ (i := 7) (N := some 36) (v := ?_) (a' := ?_) #[true, true, true, true, false, true, true, true, false, false, false, false, false, false, false] rfl rfl (take_ofW HT_.out HW_.out (by kernel_rfl)) (fun _ _ _ h => h) (Or.inl ⟨by rfl, ?_⟩) hHeld ?_ ?_
         rotate_left
         ·rintro w' ⟨s0, s1, s2, s3, s4⟩
          go_simp
          with_reducible rfl
         rotate_left
         ·simp only [Act.put, List.setIfInBounds_toArray, List.set_cons_zero, List.set_cons_succ, i64_w, i32_w]
          rfl
         refine one_ (i := 4) (N := some 33) #[true, true, true, true, true, true, true, true, false, false, false, false, false, false, false] rfl rfl (one_of HT_.out (by kernel_rfl)) (by decide) (fun K hK => ?_)
         refine Kd.R_append_rows_step (Kd.int .u8) (w0 := w) w.heap.size rfl (.const (.slice none 0 0)) (.tmp 32) 30 5 (.int .u8 0) 1 rfl Try.underlying30 info5 rfl (by decide) (by omega) (.slice none 0 0) ([] : List Int) ((rd_T48 l0_0 x6_1).f0) _ _ _ (fun _ => True) (fun _ => False) rfl rfl ?aO ?aR (fun _ _ h => h) (fun _ h => h.elim) ?aF ?aB ?aS ?aL ?_
         (case aR => repeat (first | exact (Kd.C_below HR206_0.out HB.out) | (with_reducible refine Kd.C_alloc ?_ _) | (with_reducible refine Kd.C_drewN ?_ _) | (with_reducible refine Kd.C_drew ?_)))
         (case aB => exact (by repeat (first | (with_reducible first | exact HB.out | apply wA | apply wN | apply wD | refine below_set ?_ GE187.out | refine below_set ?_ GE188.out | refine below_set ?_ GE189.out | refine below_set ?_ GE190.out | refine below_set ?_ GE207.out) | exact HB.out)))
         (case aF => exact (fun _ _ => trivial))
         (case aO => exact ((Kd.R_nil _ _ _ _ (fun _ => True))))
         (case aS => exact (below_size (by repeat (first | (with_reducible first | exact HB.out | apply wA | apply wN | apply wD | refine below_set ?_ GE187.out | refine below_set ?_ GE188.out | refine below_set ?_ GE189.out | refine below_set ?_ GE190.out | refine below_set ?_ GE207.out) | exact HB.out))))
         (case aL => have := LMc39.out; omega)
         intro v209 w57 ho hb hg hat
         rw [← Ny208.out] at ho
         have n0_ := aM (Kd.S_after (Kd.S_apart_nil (by (with_reducible repeat (first | apply Kd.S_alloc | apply Kd.S_drewN | apply Kd.S_drew)); exact HO_190000.out)) hg hat)
         have n1_ := aM (blk_grown (g := gb187) (o := .cells #[.slice (some ad206) l0_0.length c0_0] 24 (0, 0)) (by (with_reducible repeat (first | refine bN ?_ _ | refine bD ?_ | refine bA ?_ _)); exact BK187.out) hg (by simp [Value.ownBlock]))
         have n2_ := aM (blk_grown (g := gb188) (o := .cells #[.slice none 0 0] 24 (0, 0)) (by (with_reducible repeat (first | refine bN ?_ _ | refine bD ?_ | refine bA ?_ _)); exact BK188.out) hg (by simp [Value.ownBlock]))
         have n3_ := aM (blk_grown (g := gb189) (o := .cells #[u190000] 24 (0, 0)) (by (with_reducible repeat (first | refine bN ?_ _ | refine bD ?_ | refine bA ?_ _)); exact BK189.out) hg (by simp [Value.ownBlock]))
         have n4_ := aM (blk_grown (g := gb190) (o := .cells #[.int .i64 0, .slice none 0 0] 39 (0, 0)) (by (with_reducible repeat (first | refine bN ?_ _ | refine bD ?_ | refine bA ?_ _)); exact BK190.out) hg (by simp [Value.ownBlock]))
         have n5_ := aM (blk_grown (g := gb207) (o := .cells #[.slice A206_0 ((rd_T48 l0_0 x6_1).f0).length c206_0, .slice A206_1 ((rd_T48 l0_0 x6_1).f1).length c206_1] 48 (0, 0)) (by (with_reducible repeat (first | refine bN ?_ _ | refine bD ?_ | refine bA ?_ _)); exact BK207.out) hg (by simp [Value.ownBlock]))
         have n6_ := aM (hb)
         have n7_ := aM (ho)
         clear HO_190000
         clear BK187
         clear BK188
         clear BK189
         clear BK190
         clear BK207
         clear HB
         have HO_190000 := n0_
         have BK187 := n1_
         have BK188 := n2_
         have BK189 := n3_
         have BK190 := n4_
         have BK207 := n5_
         have HB := n6_
         have HO210 := n7_
         clear n0_ n1_ n2_ n3_ n4_ n5_ n6_ n7_
         clear ho hb hg hat
         refine hK.out _ _ ⟨(blk_cell BK189.out 0).trans rfl, (blk_cell BK207.out 0).trans rfl, (blk_cell BK207.out 1).trans rfl, (blk_cell BK190.out 0).trans rfl, (blk_cell BK190.out 1).trans rfl⟩ (fun hHeld => ?_)
         clear hK K
         refine norm_ (a' := ?_) ?_ ?_
         rotate_left
         ·show Act.put _ (some 33) _ = _
          simp only [Act.put, List.setIfInBounds_toArray, List.set_cons_zero, List.set_cons_succ, i64_w, i32_w]
          rfl
         refine one_ (i := 8) (N := some 37) #[true, true, true, true, true, true, true, true, true, false, false, false, false, false, false] rfl rfl (one_of HT_.out (by kernel_rfl)) (by decide) (fun K hK => ?_)
         refine goes_ Try.func26 (by kernel_rfl) rfl #[.slice A206_1 ((rd_T48 l0_0 x6_1).f1).length c206_1, .agg #[.int .i64 0, .slice none 0 0]] (by rfl) rfl rfl (by (try simp only [List.map_toArray, List.map_cons, List.map_nil]); first | done | rfl | (simp only [List.length_drop, List.length_take]; rfl)) ?_
         refine (rollbacknetref10_Torn.calls k1 _ _ ((rd_T48 l0_0 x6_1).f1) 0 _ _ ([] : List Int) t211 _ ?side1 ?side2 ?side3 ?side4 A40.out).mono ?_
         (case side1 => repeat (first | exact (Kd.C_below HR206_1.out HB.out) | (with_reducible refine Kd.C_alloc ?_ _) | (with_reducible refine Kd.C_drewN ?_ _) | (with_reducible refine Kd.C_drew ?_)))
         (case side2 => exact HC206_1.out)
         (case side3 => exact Kd.C_nil _ _)
         (case side4 => exact Nat.le_refl _)
         rintro e w58 ⟨v212, rfl, ho0, hb⟩
         refine ⟨_, rfl, ?_⟩
         have n0_ := aM (Kd.S_elder' (by (with_reducible repeat (first | apply Kd.S_alloc | apply Kd.S_drewN | apply Kd.S_drew)); exact HO_190000.out) (Kd.R_base ho0) hb)
         have n1_ := aM (Kd.R_elder' (by (with_reducible repeat (first | apply Kd.R_alloc | apply Kd.R_drewN | apply Kd.R_drew)); exact HO210.out) (Kd.R_base ho0) hb)
         have n2_ := aM (Kd.R_lower (Kd.R_new' ho0 (Kd.R_lt (by (with_reducible repeat (first | apply Kd.R_alloc | apply Kd.R_drewN | apply Kd.R_drew)); exact HO210.out))) (below_size (by repeat (first | (with_reducible first | exact HB.out | apply wA | apply wN | apply wD | refine below_set ?_ GE187.out | refine below_set ?_ GE188.out | refine below_set ?_ GE189.out | refine below_set ?_ GE190.out | refine below_set ?_ GE207.out) | exact HB.out))))
         have n3_ := aM (blk_below (g := gb187) (o := .cells #[.slice (some ad206) l0_0.length c0_0] 24 (0, 0)) (by (with_reducible repeat (first | refine bN ?_ _ | refine bD ?_ | refine bA ?_ _)); exact BK187.out) hb)
         have n4_ := aM (blk_below (g := gb188) (o := .cells #[.slice none 0 0] 24 (0, 0)) (by (with_reducible repeat (first | refine bN ?_ _ | refine bD ?_ | refine bA ?_ _)); exact BK188.out) hb)
         have n5_ := aM (blk_below (g := gb189) (o := .cells #[u190000] 24 (0, 0)) (by (with_reducible repeat (first | refine bN ?_ _ | refine bD ?_ | refine bA ?_ _)); exact BK189.out) hb)
         have n6_ := aM (blk_below (g := gb190) (o := .cells #[.int .i64 0, .slice none 0 0] 39 (0, 0)) (by (with_reducible repeat (first | refine bN ?_ _ | refine bD ?_ | refine bA ?_ _)); exact BK190.out) hb)
         have n7_ := aM (blk_below (g := gb207) (o := .cells #[.slice A206_0 ((rd_T48 l0_0 x6_1).f0).length c206_0, .slice A206_1 ((rd_T48 l0_0 x6_1).f1).length c206_1] 48 (0, 0)) (by (with_reducible repeat (first | refine bN ?_ _ | refine bD ?_ | refine bA ?_ _)); exact BK207.out) hb)
         have n8_ := aM (below_step (by repeat (first | (with_reducible first | exact HB.out | apply wA | apply wN | apply wD | refine below_set ?_ GE187.out | refine below_set ?_ GE188.out | refine below_set ?_ GE189.out | refine below_set ?_ GE190.out | refine below_set ?_ GE207.out) | exact HB.out)) hb)
         clear HO_190000
         clear HO210
         clear BK187
         clear BK188
         clear BK189
         clear BK190
         clear BK207
         clear HB
         have HO_190000 := n0_
         have HO210 := n1_
         have HO213 := n2_
         have BK187 := n3_
         have BK188 := n4_
         have BK189 := n5_
         have BK190 := n6_
         have BK207 := n7_
         have HB := n8_
         clear n0_ n1_ n2_ n3_ n4_ n5_ n6_ n7_ n8_
         (try clear hb)
         (try clear hb2)
         (try clear hk)
         (try clear hi)
         (try clear ho0)
         obtain ⟨Ao60, co60, eo60⟩ := Kd.R_slice HO213.out
         (first | subst eo60 | (injection eo60 with f1_ f2_ f3_; have f4_ := f1_.symm; have f5_ := f3_.symm; clear f1_ f2_ f3_; subst f4_; subst f5_))
         refine hK.out _ _ ⟨(blk_cell BK189.out 0).trans rfl, (blk_cell BK207.out 0).trans rfl, (blk_cell BK207.out 1).trans rfl, (blk_cell BK190.out 0).trans rfl, (blk_cell BK190.out 1).trans rfl⟩ (fun hHeld => ?_)
         clear hK K
         refine norm_ (a' := ?_) ?_ ?_
         rotate_left
         ·show Act.put _ (some 37) _ = _
          simp only [Act.put, List.setIfInBounds_toArray, List.set_cons_zero, List.set_cons_succ, i64_w, i32_w]
          rfl
         refine one_ (i := 9) (N := some 38) #[true, true, true, true, true, true, true, true, true, true, false, false, false, false, false] rfl rfl (one_of HT_.out (by kernel_rfl)) (by decide) (fun K hK => ?_)
         refine Kd.R_append_rows_step (Kd.int .u8) (w0 := w) w.heap.size (by rfl) (.tmp 33) (.tmp 37) 30 5 (.int .u8 0) 1 rfl Try.underlying30 info5 rfl (by decide) (by omega) v209 y208 t211 _ _ _ (fun k_ => some k_ ≠ (.slice Ao60 t211.length co60 : Value).ownBlock) (fun _ => False) rfl rfl ?aO ?aR (fun _ _ h => h) (fun _ h => h.elim) ?aF ?aB ?aS ?aL ?_
         (case aR => repeat (first | exact (Kd.R_reads' HO213.out).2.2 | (with_reducible refine Kd.C_alloc ?_ _) | (with_reducible refine Kd.C_drewN ?_ _) | (with_reducible refine Kd.C_drew ?_)))
         (case aB => exact (by repeat (first | (with_reducible first | exact HB.out | apply wA | apply wN | apply wD | refine below_set ?_ GE187.out | refine below_set ?_ GE188.out | refine below_set ?_ GE189.out | refine below_set ?_ GE190.out | refine below_set ?_ GE207.out) | exact HB.out)))
         (case aF => exact (fun k_ hk => Kd.fresh' (Kd.R_lt (by (with_reducible repeat (first | apply Kd.R_alloc | apply Kd.R_drewN | apply Kd.R_drew)); exact HO213.out)) k_ hk))
         (case aO => exact (by (with_reducible repeat (first | apply Kd.R_alloc | apply Kd.R_drewN | apply Kd.R_drew)); exact Kd.R_mono HO210.out (fun _ hk => hk.2)))
         (case aS => exact (below_size (by repeat (first | (with_reducible first | exact HB.out | apply wA | apply wN | apply wD | refine below_set ?_ GE187.out | refine below_set ?_ GE188.out | refine below_set ?_ GE189.out | refine below_set ?_ GE190.out | refine below_set ?_ GE207.out) | exact HB.out))))
         (case aL => have := LMc41.out; omega)
         intro v215 w59 ho hb hg hat
         rw [← Ny214.out] at ho
         have n0_ := aM (Kd.S_after (ok := (fun k_ => some k_ ≠ (.slice Ao60 t211.length co60 : Value).ownBlock ∧ k_ ≠ gb207)) (by (with_reducible repeat (first | apply Kd.S_alloc | apply Kd.S_drewN | apply Kd.S_drew)); exact Kd.S_mono HO_190000.out (fun _ hk => ⟨⟨hk.2, hk.1.1⟩, hk.1.2⟩)) hg hat)
         have n1_ := aM (blk_grown (g := gb187) (o := .cells #[.slice (some ad206) l0_0.length c0_0] 24 (0, 0)) (by (with_reducible repeat (first | refine bN ?_ _ | refine bD ?_ | refine bA ?_ _)); exact BK187.out) hg (Kd.R_ne HO210.out BK187.out (by decide)))
         have n2_ := aM (blk_grown (g := gb188) (o := .cells #[.slice none 0 0] 24 (0, 0)) (by (with_reducible repeat (first | refine bN ?_ _ | refine bD ?_ | refine bA ?_ _)); exact BK188.out) hg (Kd.R_ne HO210.out BK188.out (by decide)))
         have n3_ := aM (blk_grown (g := gb189) (o := .cells #[u190000] 24 (0, 0)) (by (with_reducible repeat (first | refine bN ?_ _ | refine bD ?_ | refine bA ?_ _)); exact BK189.out) hg (Kd.R_ne HO210.out BK189.out (by decide)))
         have n4_ := aM (blk_grown (g := gb190) (o := .cells #[.int .i64 0, .slice none 0 0] 39 (0, 0)) (by (with_reducible repeat (first | refine bN ?_ _ | refine bD ?_ | refine bA ?_ _)); exact BK190.out) hg (Kd.R_ne HO210.out BK190.out (by decide)))
         have n5_ := aM (blk_grown (g := gb207) (o := .cells #[.slice A206_0 ((rd_T48 l0_0 x6_1).f0).length c206_0, .slice A206_1 ((rd_T48 l0_0 x6_1).f1).length c206_1] 48 (0, 0)) (by (with_reducible repeat (first | refine bN ?_ _ | refine bD ?_ | refine bA ?_ _)); exact BK207.out) hg (Kd.R_ne HO210.out BK207.out (by decide)))
         have n6_ := aM (Kd.R_after (ok := (fun _ => True)) (by (with_reducible repeat (first | apply Kd.R_alloc | apply Kd.R_drewN | apply Kd.R_drew)); exact HO213.out) hg hat)
         have n7_ := aM (hb)
         have n8_ := aM (ho)
         clear HO_190000
         clear BK187
         clear BK188
         clear BK189
         clear BK190
         clear BK207
         clear HO213
         clear HB
         clear HO210
         have HO_190000 := n0_
         have BK187 := n1_
         have BK188 := n2_
         have BK189 := n3_
         have BK190 := n4_
         have BK207 := n5_
         have HO213 := n6_
         have HB := n7_
         have HO216 := n8_
         clear n0_ n1_ n2_ n3_ n4_ n5_ n6_ n7_ n8_
         clear ho hb hg hat
         obtain ⟨Ao61, co61, eo61⟩ := Kd.R_slice HO216.out
         (first | subst eo61 | (injection eo61 with f1_ f2_ f3_; have f4_ := f1_.symm; have f5_ := f3_.symm; clear f1_ f2_ f3_; subst f4_; subst f5_))
         refine hK.out _ _ ⟨(blk_cell BK189.out 0).trans rfl, (blk_cell BK207.out 0).trans rfl, (blk_cell BK207.out 1).trans rfl, (blk_cell BK190.out 0).trans rfl, (blk_cell BK190.out 1).trans rfl⟩ (fun hHeld => ?_)
         clear hK K
         refine norm_ (a' := ?_) ?_ ?_
         rotate_left
         ·show Act.put _ (some 38) _ = _
          simp only [Act.put, List.setIfInBounds_toArray, List.set_cons_zero, List.set_cons_succ, i64_w, i32_w]
          rfl
         refine pure_ (i := 10) (N := some 39) (v := ?_) (a' := ?_) #[true, true, true, true, true, true, true, true, true, true, true, false, false, false, false] rfl rfl (any_of HT_.out (by kernel_rfl)) (fun _ _ _ h => h) (Or.inl ⟨by rfl, ?_⟩) ?_ ?_
         rotate_left
         ·intro w'
          go_simp
          with_reducible rfl
         rotate_left
         ·simp only [Act.put, List.setIfInBounds_toArray, List.set_cons_zero, List.set_cons_succ, i64_w, i32_w]
          rfl
         refine one_ (i := 11) (N := some 40) #[true, true, true, true, true, true, true, true, true, true, true, true, false, false, false] rfl rfl (one_of HT_.out (by kernel_rfl)) (by decide) (fun K hK => ?_)
         refine value_ (w1 := ?_) (v := ?_) (by rfl) rfl ?_ ?_
         rotate_left 2
         ·go_simp
          constructor
          ·rfl
          ·rfl
         refine hK.out _ _ ⟨(blk_cell (bA BK189.out _) 0).trans rfl, (blk_cell (bA BK207.out _) 0).trans rfl, (blk_cell (bA BK207.out _) 1).trans rfl, (blk_cell (bA BK190.out _) 0).trans rfl, (blk_cell (bA BK190.out _) 1).trans rfl⟩ (fun hHeld => ?_)
         clear hK K
         refine norm_ (a' := ?_) ?_ ?_
         rotate_left
         ·show Act.put _ (some 40) _ = _
          simp only [Act.put, List.setIfInBounds_toArray, List.set_cons_zero, List.set_cons_succ, i64_w, i32_w]
          rfl
         refine one_ (i := 12) (N := some 41) #[true, true, true, true, true, true, true, true, true, true, true, true, true, false, false] rfl rfl (one_of HT_.out (by kernel_rfl)) (by decide) (fun K hK => ?_)
         refine Kd.S_append_step k48 (w0 := w) w.heap.size (by rfl) (.tmp 30) (.tmp 40) 22 48 (.agg #[(.slice none 0 0), (.slice none 0 0)]) 48 rfl Try.underlying22 info48 rfl (by decide) (by omega) u190000 x190000_1 (⟨y214, ([] : List Int)⟩ : S48) [.slice Ao61 y214.length co61, .slice none 0 0] (fun k_ => some k_ ≠ (.slice Ao60 t211.length co60 : Value).ownBlock ∧ k_ ≠ gb207) (fun k_ => some k_ = (.slice Ao61 y214.length co61 : Value).ownBlock) rfl rfl ?aP (fun k_ hk_ => ((Kd.R_mono (ok' := fun k_ => ((fun k_ => some k_ ≠ (.slice Ao60 t211.length co60 : Value).ownBlock ∧ k_ ≠ gb207)) k_ ∧ some k_ ≠ (u190000 : Value).ownBlock) (Kd.R_types (Kd.R_apart' (HO216.out) (Kd.S_typed HO_190000.out) (by decide)) BK207.out (by decide)) (fun k_ hk => ⟨⟨hk.1.1, hk.2⟩, hk.1.2⟩))).1 k_ hk_.symm) ?aF ?aO ?aB ?aS ?aL ?_
         (case aP => exact k48_mkM _ _ _ (⟨y214, ([] : List Int)⟩ : S48) (Kd.R_mono (Kd.R_tight rfl (Kd.R_mono (ok' := fun k_ => ((fun k_ => some k_ ≠ (.slice Ao60 t211.length co60 : Value).ownBlock ∧ k_ ≠ gb207)) k_ ∧ some k_ ≠ (u190000 : Value).ownBlock) (Kd.R_types (Kd.R_apart' (HO216.out) (Kd.S_typed HO_190000.out) (by decide)) BK207.out (by decide)) (fun k_ hk => ⟨⟨hk.1.1, hk.2⟩, hk.1.2⟩))) (fun _ h_ => h_)) (Kd.R_nil _ _ _ _ _))
         (case aB => exact (by repeat (first | (with_reducible first | exact HB.out | apply wA | apply wN | apply wD | refine below_set ?_ GE187.out | refine below_set ?_ GE188.out | refine below_set ?_ GE189.out | refine below_set ?_ GE190.out | refine below_set ?_ GE207.out) | exact HB.out)))
         (case aF => exact (fun k_ hk => ⟨Kd.fresh' (Kd.R_lt (by (with_reducible repeat (first | apply Kd.R_alloc | apply Kd.R_drewN | apply Kd.R_drew)); exact HO213.out)) k_ hk, Kd.freshB (g := gb207) (o := .cells #[.slice A206_0 ((rd_T48 l0_0 x6_1).f0).length c206_0, .slice A206_1 ((rd_T48 l0_0 x6_1).f1).length c206_1] 48 (0, 0)) (by (with_reducible repeat (first | refine bN ?_ _ | refine bD ?_ | refine bA ?_ _)); exact BK207.out) k_ hk⟩))
         (case aO => exact (by (with_reducible repeat (first | apply Kd.S_alloc | apply Kd.S_drewN | apply Kd.S_drew)); exact Kd.S_mono HO_190000.out (fun k_ hk => ⟨⟨hk.1.1, hk.1.2⟩, fun e_ => hk.2 e_⟩)))
         (case aS => exact (below_size (by repeat (first | (with_reducible first | exact HB.out | apply wA | apply wN | apply wD | refine below_set ?_ GE187.out | refine below_set ?_ GE188.out | refine below_set ?_ GE189.out | refine below_set ?_ GE190.out | refine below_set ?_ GE207.out) | exact HB.out))))
         (case aL => have := LMc42.out; omega)
         intro v218 w62 ho hb hg hat
         rw [← Ny217.out] at ho
         have n0_ := aM (blk_grown (g := gb187) (o := .cells #[.slice (some ad206) l0_0.length c0_0] 24 (0, 0)) (by (with_reducible repeat (first | refine bN ?_ _ | refine bD ?_ | refine bA ?_ _)); exact BK187.out) hg (Kd.S_ne HO_190000.out BK187.out (by decide)))
         have n1_ := aM (blk_grown (g := gb188) (o := .cells #[.slice none 0 0] 24 (0, 0)) (by (with_reducible repeat (first | refine bN ?_ _ | refine bD ?_ | refine bA ?_ _)); exact BK188.out) hg (Kd.S_ne HO_190000.out BK188.out (by decide)))
         have n2_ := aM (blk_grown (g := gb189) (o := .cells #[u190000] 24 (0, 0)) (by (with_reducible repeat (first | refine bN ?_ _ | refine bD ?_ | refine bA ?_ _)); exact BK189.out) hg (Kd.S_ne HO_190000.out BK189.out (by decide)))
         have n3_ := aM (blk_grown (g := gb190) (o := .cells #[.int .i64 0, .slice none 0 0] 39 (0, 0)) (by (with_reducible repeat (first | refine bN ?_ _ | refine bD ?_ | refine bA ?_ _)); exact BK190.out) hg (Kd.S_ne HO_190000.out BK190.out (by decide)))
         have n4_ := aM (blk_grown (g := gb207) (o := .cells #[.slice A206_0 ((rd_T48 l0_0 x6_1).f0).length c206_0, .slice A206_1 ((rd_T48 l0_0 x6_1).f1).length c206_1] 48 (0, 0)) (by (with_reducible repeat (first | refine bN ?_ _ | refine bD ?_ | refine bA ?_ _)); exact BK207.out) hg (Kd.S_away HO_190000.out (fun _ hk => hk.1.2)))
         have n5_ := aM (Kd.R_over' (by (with_reducible repeat (first | apply Kd.R_alloc | apply Kd.R_drewN | apply Kd.R_drew)); exact HO213.out) (Kd.S_typed (by (with_reducible repeat (first | apply Kd.S_alloc | apply Kd.S_drewN | apply Kd.S_drew)); exact HO_190000.out)) (by decide) hg)
         have n6_ := aM (hb)
         have n7_ := aM (ho)
         clear BK187
         clear BK188
         clear BK189
         clear BK190
         clear BK207
         clear HO213
         clear HB
         clear HO_190000
         clear HO216
         have BK187 := n0_
         have BK188 := n1_
         have BK189 := n2_
         have BK190 := n3_
         have BK207 := n4_
         have HO213 := n5_
         have HB := n6_
         have HO219 := n7_
         clear n0_ n1_ n2_ n3_ n4_ n5_ n6_ n7_
         clear ho hb hg hat
         obtain ⟨Ao63, co63, eo63⟩ := Kd.S_slice HO219.out
         (first | subst eo63 | (injection eo63 with f1_ f2_ f3_; have f4_ := f1_.symm; have f5_ := f3_.symm; clear f1_ f2_ f3_; subst f4_; subst f5_))
         refine hK.out _ _ ⟨(blk_cell BK189.out 0).trans rfl, (blk_cell BK207.out 0).trans rfl, (blk_cell BK207.out 1).trans rfl, (blk_cell BK190.out 0).trans rfl, (blk_cell BK190.out 1).trans rfl⟩ (fun hHeld => ?_)
         clear hK K
         refine norm_ (a' := ?_) ?_ ?_
         rotate_left
         ·show Act.put _ (some 41) _ = _
          simp only [Act.put, List.setIfInBounds_toArray, List.set_cons_zero, List.set_cons_succ, i64_w, i32_w]
          rfl
         refine pure_ (i := 13) (N := some 42) (v := ?_) (a' := ?_) #[true, true, true, true, true, true, true, true, true, true, true, true, true, true, false] rfl rfl (any_of HT_.out (by kernel_rfl)) (fun _ _ _ h => h) (Or.inl ⟨by rfl, ?_⟩) ?_ ?_
         rotate_left
         ·intro w'
          go_simp
          with_reducible rfl
         rotate_left
         ·simp only [Act.put, List.setIfInBounds_toArray, List.set_cons_zero, List.set_cons_succ, i64_w, i32_w]
          rfl
         refine last_ (i := 14) (N := none) #[true, true, true, true, true, true, true, true, true, true, true, true, true, true, true] rfl rfl (one_of HT_.out (by kernel_rfl)) (by decide) (fun K hK => ?_)
         have hs64 : w62.cell? ⟨gb189, 0, none⟩ = some (u190000) := (blk_cell BK189.out 0).trans rfl
         have hfs64 := blk_frozen BK189.out 0
         have hns64_0 := NB187_189.out
         have hns64_1 := NB188_189.out
         have hns64_3 := NB190_189.out
         have hns64_4 := NB207_189.out
         have hms64_0 := NB189_187.out
         have hms64_1 := NB189_188.out
         have hms64_3 := NB189_190.out
         have hms64_4 := NB189_207.out
         refine skip_ (w1 := ?_) (by rfl) rfl ?_ ?_
         rotate_left
         ·go_simp
          rfl
         refine hK.out _ _ ?_
         clear hK K
         refine done_ (done_of HT_.out (by kernel_rfl)) ?_
         try go_wp2
         go_roundg k1
         case measure => have := HK1.out; omega
         case rel => exact ⟨(wrap64 (x6_1 + 1)), (y217), (.slice Ao63 y217.length co63), (by first | rfl | (simp; done) | (simp [*]; done)), H', ⟨by have := HK1.out; omega⟩, ⟨by (with_reducible repeat (first | apply Kd.S_alloc | apply Kd.S_drewN | apply Kd.S_drew)); exact Kd.S_mono (Kd.S_far (p := ⟨gb189, 0, none⟩) (Kd.S_types HO219.out BK189.out (by decide)) (fun _ hk => hk.2) (.slice Ao63 y217.length co63)) (fun _ hk => trivial)⟩, ⟨by (with_reducible repeat (first | refine bN ?_ _ | refine bD ?_ | refine bA ?_ _)); refine blk_far ?_ NB187_189.out _; (with_reducible repeat (first | refine bN ?_ _ | refine bD ?_ | refine bA ?_ _)); exact BK187.out⟩, ⟨by (with_reducible repeat (first | refine bN ?_ _ | refine bD ?_ | refine bA ?_ _)); refine blk_far ?_ NB188_189.out _; (with_reducible repeat (first | refine bN ?_ _ | refine bD ?_ | refine bA ?_ _)); exact BK188.out⟩, ⟨by (with_reducible repeat (first | refine bN ?_ _ | refine bD ?_ | refine bA ?_ _)); refine blk_put (cs := #[u190000]) ?_ 0 _ rfl; (with_reducible repeat (first | refine bN ?_ _ | refine bD ?_ | refine bA ?_ _)); exact BK189.out⟩, ⟨by repeat (first | (with_reducible first | exact HB.out | apply wA | apply wN | apply wD | refine below_set ?_ GE187.out | refine below_set ?_ GE188.out | refine below_set ?_ GE189.out | refine below_set ?_ GE190.out | refine below_set ?_ GE207.out) | exact HB.out)⟩⟩
        ·rw [if_neg c42] at H
         exact absurd H (by simp)
       ·rw [if_neg c41] at H
        exact absurd H (by simp)
      ·rw [if_neg c39] at H
       exact absurd H (by simp)
     ·rw [if_neg c38] at H
      exact absurd H (by simp)
   ·rw [if_neg c6] at H
    have c6b0 : decide (x6_1 < (l0_0.length : Int)) = false := decide_eq_false c6
    clear c6
    obtain rfl := Option.some.inj H
    have hnb65 := NB187_188.out
    have hnc65 := NB188_187.out
    have hnb66 := NB187_189.out
    have hnc66 := NB189_187.out
    have hcz67_0 : wr.cell? ⟨gb187, 0, none⟩ = some (.slice A0_0 l0_0.length c0_0) := (blk_cell BK187.out 0).trans rfl
    have hfz67_0 := blk_frozen BK187.out 0
    have hnb68 := NB189_188.out
    have hnc68 := NB188_189.out
    have hcz69_0 : wr.cell? ⟨gb189, 0, none⟩ = some (u190000) := (blk_cell BK189.out 0).trans rfl
    have hfz69_0 := blk_frozen BK189.out 0
    obtain ⟨Ao70, co70, eo70⟩ := Kd.S_slice HO_190000.out
    subst eo70
    have hcz71_0 : wr.cell? ⟨gb188, 0, none⟩ = some (.slice none 0 0) := (blk_cell BK188.out 0).trans rfl
    have hfz71_0 := blk_frozen BK188.out 0
    go_wp2
    refine bodyPost_ret (results_cell_row rfl _ _ gb188 24 #[.slice Ao70 x190000_1.length co70] (0, 0) _ rfl (by (with_reducible repeat (first | refine bN ?_ _ | refine bD ?_ | refine bA ?_ _)); refine blk_put (cs := #[.slice none 0 0]) ?_ 0 _ rfl; (with_reducible repeat (first | refine bN ?_ _ | refine bD ?_ | refine bA ?_ _)); exact BK188.out) Try.underlying24 rfl (by kernel_rfl)) rfl ?_
    exact ⟨_, by first | rfl | (simp [errW_none, errW_some] <;> rfl) | (simp [*, errW_none, errW_some] <;> rfl), by (with_reducible repeat (first | apply Kd.S_alloc | apply Kd.S_drewN | apply Kd.S_drew)); exact Kd.S_mono (Kd.S_far (p := ⟨gb188, 0, none⟩) (Kd.S_types HO_190000.out BK188.out (by decide)) (fun _ hk => hk.2) (.slice Ao70 x190000_1.length co70)) (fun _ hk => trivial), by repeat (first | (with_reducible first | exact HB.out | apply wA | apply wN | apply wD | refine below_set ?_ GE187.out | refine below_set ?_ GE188.out | refine below_set ?_ GE189.out) | exact HB.out)⟩

end Go.Proofs.Ytnfbjdnflifcoaa.PDk
