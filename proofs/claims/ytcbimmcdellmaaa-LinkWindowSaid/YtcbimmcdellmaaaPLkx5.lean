-- Laid by wip/tools/xprint.py, a program of this session over the kit's print: functions as Lean functions, each with its contract.
import Derived.Test.YtcbimmcdellmaaaPLkx0
import Derived.Test.YtcbimmcdellmaaaPLkx2
import Derived.Test.YtcbimmcdellmaaaPLkx4
namespace Go.Proofs.Ytcbimmcdellmaaa.PLk
open Go.RowKit Go.Proofs.YtcbimmcdellmaaaW.PrintWords Go.Proofs.YtcbimmcdellmaaaW.PrintLast Go.Proofs.YtcbimmcdellmaaaW.PrintMore
attribute [local go_sem] max2_int min2_int max_two min_two max_three min_three max_four min_four   -- for this text's walks alone
set_option linter.unusedVariables false
set_option linter.unusedSimpArgs false

/-! ### link_Arrive: function 17 -/
def link_Arrive.l0 : Nat → List Int → Int → Int → List Int → Int → List (S42) → Option (Int × Int × List Int × Int × (List (S42)) × List Int × Int × Int × Int)
 | 0, _, _, _, _, _, _ => none
 | k + 1, x7, x156000, x156001, x156002, x156003, x156004 => if (x156004.length : Int) > 0 then (if 0 < (x156004.length : Int) then (if ((rd_T42 x156004 0).f0) = x156003 then (if x7.length < 17592186044416 then (if 1 ≤ (x156004.length : Int) then (link_Arrive.l0 k (x7 ++ [(rd_T42 x156004 0).f2]) x156000 x156001 x156002 (wrap64 (x156003 + 1)) (x156004.drop (1 : Int).toNat)) else (none)) else (none)) else (some (x156000, x156001, x156002, x156003, x156004, x7, 0, wrap64 (x156003 - 1), 0))) else (none)) else (some (x156000, x156001, x156002, x156003, x156004, x7, 0, wrap64 (x156003 - 1), 0))
def link_Arrive.f (k : Nat) (a0_0 : Int) (a0_1 : Int) (l0_2 : List Int) (a0_3 : Int) (l0_4 : List (S42)) (a1_0 : Int) (a1_1 : Int) (a1_2 : Int) : Option (Int × Int × List Int × Int × (List (S42)) × List Int × Int × Int × Int) := (link_clone.f a0_0 a0_1 l0_2 a0_3 l0_4).bind fun bt159 => (if a1_0 = bt159.2.2.2.1 then (if ([] : List Int).length < 17592186044416 then (link_Arrive.l0 k (([] : List Int) ++ [a1_2]) bt159.1 bt159.2.1 bt159.2.2.1 (wrap64 (bt159.2.2.2.1 + 1)) bt159.2.2.2.2) else (none)) else (if a1_0 > bt159.2.2.2.1 then (if a1_0 < (wrap64 (bt159.2.2.2.1 + bt159.1)) then ((link_early.f k bt159.2.2.2.2 a1_0 0 a1_2).bind fun t179 => (some (bt159.1, bt159.2.1, bt159.2.2.1, bt159.2.2.2.1, t179, ([] : List Int), 0, wrap64 (bt159.2.2.2.1 - 1), 0))) else (some (bt159.1, bt159.2.1, bt159.2.2.1, bt159.2.2.2.1, bt159.2.2.2.2, ([] : List Int), 0, wrap64 (bt159.2.2.2.1 - 1), 0))) else (some (bt159.1, bt159.2.1, bt159.2.2.1, bt159.2.2.2.1, bt159.2.2.2.2, ([] : List Int), 0, wrap64 (bt159.2.2.2.1 - 1), 0))))
theorem link_Arrive.mono_l : ∀ k, (∀ y0 y1 y2 y3 y4 y5, LeO (link_Arrive.l0 k y0 y1 y2 y3 y4 y5) (link_Arrive.l0 (k + 1) y0 y1 y2 y3 y4 y5))
 | 0 => fun _ _ _ _ _ _ r h => by simp [link_Arrive.l0] at h
 | k + 1 => by
  have ih0 := link_Arrive.mono_l k
  ·intro y0 y1 y2 y3 y4 y5
   unfold link_Arrive.l0
   repeat' first
   | (with_reducible exact ih0 _ _ _ _ _ _)
   | (with_reducible exact link_early.mono _ _ _ _ _)
   | (with_reducible exact LeO.refl _)
   | (with_reducible exact LeO.none _)
   | (with_reducible refine LeO.ite ?_ ?_)
   | (with_reducible refine LeO.bind ?_ (fun _ => ?_))
   | exact ih0 _ _ _ _ _ _
   | exact link_early.mono _ _ _ _ _
   | exact LeO.none _
   | refine LeO.ite ?_ ?_
   | refine LeO.bind ?_ (fun _ => ?_)
theorem link_Arrive.mono : ∀ a0 a1 a2 a3 a4 a5 a6 a7 k, LeO (link_Arrive.f k a0 a1 a2 a3 a4 a5 a6 a7) (link_Arrive.f (k + 1) a0 a1 a2 a3 a4 a5 a6 a7) := by
 intro a0 a1 a2 a3 a4 a5 a6 a7 k
 have ih0 := link_Arrive.mono_l k
 unfold link_Arrive.f
 repeat' first
   | (with_reducible exact ih0 _ _ _ _ _ _)
   | (with_reducible exact link_early.mono _ _ _ _ _)
   | (with_reducible exact LeO.refl _)
   | (with_reducible exact LeO.none _)
   | (with_reducible refine LeO.ite ?_ ?_)
   | (with_reducible refine LeO.bind ?_ (fun _ => ?_))
   | exact ih0 _ _ _ _ _ _
   | exact link_early.mono _ _ _ _ _
   | exact LeO.none _
   | refine LeO.ite ?_ ?_
   | refine LeO.bind ?_ (fun _ => ?_)
def link_Arrive.T6 : Bool × List (List Nat × List Nat) := (true, [([], []), ([0], [0]), ([1], [1]), ([2], [2]), ([3], [3]), ([4], [4]), ([5, 4], [4, 5]), ([6, 4], [4, 6]), ([7, 4], [4, 7]), ([8, 4], [4, 8]), ([4], [4]), ([10, 4], [4, 10]), ([9, 11, 4], [4, 9, 11]), ([4, 12], [4, 12])])
def link_Arrive.B6 : List Nat := [0, 1, 3, 7, 15, 31, 63, 127, 255, 511, 31, 1055, 4095, 8191]
theorem link_Arrive.tab6 : rtab .any (opsOf Try.f17 6) = link_Arrive.T6 := by kernel_rfl
theorem link_Arrive.bits6 : waitsOk link_Arrive.T6.2 link_Arrive.B6 = true := by kernel_rfl
def link_Arrive.T12 : Bool × List (List Nat × List Nat) := (true, [([], []), ([], []), ([], []), ([2], [2]), ([3], [3]), ([4], [4]), ([0, 0], [0]), ([1, 6, 0, 1, 6], [1]), ([5, 7, 0, 1, 2, 3, 4, 5, 6, 7], [5])])
def link_Arrive.B12 : List Nat := [0, 0, 0, 4, 12, 28, 1, 67, 255]
theorem link_Arrive.tab12 : rtab .any (opsOf Try.f17 12) = link_Arrive.T12 := by kernel_rfl
theorem link_Arrive.bits12 : waitsOk link_Arrive.T12.2 link_Arrive.B12 = true := by kernel_rfl
set_option maxHeartbeats 8000000 in
set_option maxRecDepth 100000 in
theorem link_Arrive.calls (k : Nat) (a0_0 : Int) (a0_1 : Int) (A0_2 : Option Addr) (c0_2 : Nat) (l0_2 : List Int) (a0_3 : Int) (A0_4 : Option Addr) (c0_4 : Nat) (l0_4 : List (S42)) (a1_0 : Int) (a1_1 : Int) (a1_2 : Int) (r1 : Int) (r2 : Int) (r3 : List Int) (r4 : Int) (r5 : List (S42)) (r6 : List Int) (r7 : Int) (r8 : Int) (r9 : Int) (w : World) (hr0_2 : Kd.C (Kd.int .i64) w A0_2 l0_2.length l0_2) (hc0_2 : l0_2.length ≤ c0_2) (hr0_4 : Kd.C k42 w A0_4 l0_4.length l0_4) (hc0_4 : l0_4.length ≤ c0_4) (h : link_Arrive.f k a0_0 a0_1 l0_2 a0_3 l0_4 a1_0 a1_1 a1_2 = some (r1, r2, r3, r4, r5, r6, r7, r8, r9)) :
  Calls Try.prog 17 #[.agg #[.int .i64 a0_0, .int .i64 a0_1, .slice A0_2 l0_2.length c0_2, .int .i64 a0_3, .slice A0_4 l0_4.length c0_4], .agg #[.int .i64 a1_0, .int .i64 a1_1, .int .i64 a1_2]] w fun e w' => ∃ v2_ v4_ v5_ : Value, e = .returned (.tuple #[.agg #[.int .i64 r1, .int .i64 r2, v2_, .int .i64 r4, v4_], v5_, .agg #[.int .i64 r7, .int .i64 r8, .int .i64 r9]]) ∧ Kd.R (Kd.int .i64) 3 w' w.heap.size (fun k_ => some k_ ≠ (v5_ : Value).ownBlock) v2_ r3 ∧ Kd.Q k42 42 w' w.heap.size (fun _ => True) v4_ r5 ∧ Kd.R (Kd.int .i64) 3 w' w.heap.size (fun k_ => some k_ ≠ (v2_ : Value).ownBlock) v5_ r6 ∧ Below w.heap.size w w' := by
 have hu27 := Try.underlying27
 have hu42 := Try.underlying42
 have HR0_2 := aM hr0_2
 have HC0_2 := aM hc0_2
 clear hr0_2 hc0_2
 have HR0_4 := aM hr0_4
 have HC0_4 := aM hc0_4
 clear hr0_4 hc0_4
 have HB := aM (Below.refl w.heap.size w)
 have H : ((link_clone.f a0_0 a0_1 l0_2 a0_3 l0_4).bind fun bt159 => (if a1_0 = bt159.2.2.2.1 then (if ([] : List Int).length < 17592186044416 then (link_Arrive.l0 k (([] : List Int) ++ [a1_2]) bt159.1 bt159.2.1 bt159.2.2.1 (wrap64 (bt159.2.2.2.1 + 1)) bt159.2.2.2.2) else (none)) else (if a1_0 > bt159.2.2.2.1 then (if a1_0 < (wrap64 (bt159.2.2.2.1 + bt159.1)) then ((link_early.f k bt159.2.2.2.2 a1_0 0 a1_2).bind fun t179 => (some (bt159.1, bt159.2.1, bt159.2.2.1, bt159.2.2.2.1, t179, ([] : List Int), 0, wrap64 (bt159.2.2.2.1 - 1), 0))) else (some (bt159.1, bt159.2.1, bt159.2.2.1, bt159.2.2.2.1, bt159.2.2.2.2, ([] : List Int), 0, wrap64 (bt159.2.2.2.1 - 1), 0))) else (some (bt159.1, bt159.2.1, bt159.2.2.1, bt159.2.2.2.1, bt159.2.2.2.2, ([] : List Int), 0, wrap64 (bt159.2.2.2.1 - 1), 0))))) = some (r1, r2, r3, r4, r5, r6, r7, r8, r9) := h
 clear h
 replace H := Option.bind_eq_some_iff.mp H
 obtain ⟨⟨t159, t160, t161, t164, t165⟩, A30, H⟩ := H
 replace H : (if a1_0 = t164 then (if ([] : List Int).length < 17592186044416 then (link_Arrive.l0 k (([] : List Int) ++ [a1_2]) t159 t160 t161 (wrap64 (t164 + 1)) t165) else (none)) else (if a1_0 > t164 then (if a1_0 < (wrap64 (t164 + t159)) then ((link_early.f k t165 a1_0 0 a1_2).bind fun t179 => (some (t159, t160, t161, t164, t179, ([] : List Int), 0, wrap64 (t164 - 1), 0))) else (some (t159, t160, t161, t164, t165, ([] : List Int), 0, wrap64 (t164 - 1), 0))) else (some (t159, t160, t161, t164, t165, ([] : List Int), 0, wrap64 (t164 - 1), 0)))) = some (r1, r2, r3, r4, r5, r6, r7, r8, r9) := H
 have A3 := aM A30
 clear A30
 by_cases c4 : a1_0 = t164
 ·rw [if_pos c4] at H
  have c4b0 : (a1_0 == t164) = true := beq_iff_eq.mpr c4
  have c4b1 : (a1_0 != t164) = false := bne_eq_false_iff_eq.mpr c4
  clear c4
  by_cases c5 : ([] : List Int).length < 17592186044416
  ·rw [if_pos c5] at H
   have LMc5 := aM c5
   clear c5
   obtain ⟨y168, hy168⟩ : ∃ y_ : List Int, y_ = (([] : List Int) ++ [a1_2]) := ⟨_, rfl⟩
   replace H : (link_Arrive.l0 k y168 t159 t160 t161 (wrap64 (t164 + 1)) t165) = some (r1, r2, r3, r4, r5, r6, r7, r8, r9) := by first | (rw [hy168]; with_reducible exact H) | (have H2_ := (Option.bind_some _ _).symm.trans H; rw [hy168]; with_reducible exact H2_) | (have H2_ := (Option.bind_some _ _).symm.trans H; with_reducible exact H2_) | with_reducible exact H | (rw [hy168]; exact H) | exact H
   have Ny168 := aM hy168
   clear hy168
   have H' := aM H
   clear H
   go_enter Try.func17, Try.ntmps17
   go_wp2_with (first | ((with_reducible refine gate_dst (N := 2) rfl ?_); refine box_event ?hg (N := 2) ?hd (cs := #[.int .i64 a0_0, .int .i64 a0_1, .slice A0_2 l0_2.length c0_2, .int .i64 a0_3, .slice A0_4 l0_4.length c0_4]) (t := 27) ?hr ?_; (case hd => rfl); (case hg => rfl); (case hr => first | (go_simp; done) | (go_simp; rfl)); intro gb155 hg w6 hbox hb; have n0_ := aM (below_step (by repeat (first | (with_reducible first | exact HB.out | apply wA | apply wN | apply wD) | exact HB.out)) hb); have n1_ := aM (hbox); have n2_ := aM ((by rw [hg]; exact (below_size (by repeat (first | (with_reducible first | exact HB.out | apply wA | apply wN | apply wD) | exact HB.out))) : w.heap.size ≤ gb155)); have n3_ := aM ((by rw [hg]; exact (below_size (by repeat (first | (with_reducible first | exact HB.out | apply wA | apply wN | apply wD) | exact HB.out))) : w.heap.size ≤ gb155)); clear HB; have HB := n0_; have BK155 := n1_; have GW155 := n2_; have GE155 := n3_; clear n0_ n1_ n2_ n3_; clear hb hbox hg) | ((with_reducible refine gate_dst (N := 3) rfl ?_); refine box_event ?hg (N := 3) ?hd (cs := #[.int .i64 a1_0, .int .i64 a1_1, .int .i64 a1_2]) (t := 42) ?hr ?_; (case hd => rfl); (case hg => rfl); (case hr => first | (go_simp; done) | (go_simp; rfl)); intro gb156 hg w7 hbox hb; have n0_ := aM (blk_below (g := gb155) (o := .cells #[.int .i64 a0_0, .int .i64 a0_1, .slice A0_2 l0_2.length c0_2, .int .i64 a0_3, .slice A0_4 l0_4.length c0_4] 27 (0, 0)) (by (with_reducible repeat (first | refine bN ?_ _ | refine bD ?_ | refine bA ?_ _)); exact BK155.out) hb); have n1_ := aM (below_step (by repeat (first | (with_reducible first | exact HB.out | apply wA | apply wN | apply wD | refine below_set ?_ GE155.out) | exact HB.out)) hb); have n2_ := aM (hbox); have n3_ := aM ((by rw [hg]; exact (below_size (by repeat (first | (with_reducible first | exact HB.out | apply wA | apply wN | apply wD | refine below_set ?_ GE155.out) | exact HB.out))) : w.heap.size ≤ gb156)); have n4_ := aM ((by rw [hg]; exact (below_size (by repeat (first | (with_reducible first | exact HB.out | apply wA | apply wN | apply wD | refine below_set ?_ GE155.out) | exact HB.out))) : w.heap.size ≤ gb156)); have n5_ := aM ((by rw [hg]; exact Nat.ne_of_lt (blk_lt (g := gb155) (o := .cells #[.int .i64 a0_0, .int .i64 a0_1, .slice A0_2 l0_2.length c0_2, .int .i64 a0_3, .slice A0_4 l0_4.length c0_4] 27 (0, 0)) (by (with_reducible repeat (first | refine bN ?_ _ | refine bD ?_ | refine bA ?_ _)); exact BK155.out)) : gb155 ≠ gb156)); have n6_ := aM ((by rw [hg]; exact Nat.ne_of_gt (blk_lt (g := gb155) (o := .cells #[.int .i64 a0_0, .int .i64 a0_1, .slice A0_2 l0_2.length c0_2, .int .i64 a0_3, .slice A0_4 l0_4.length c0_4] 27 (0, 0)) (by (with_reducible repeat (first | refine bN ?_ _ | refine bD ?_ | refine bA ?_ _)); exact BK155.out)) : gb156 ≠ gb155)); clear BK155; clear HB; have BK155 := n0_; have HB := n1_; have BK156 := n2_; have GW156 := n3_; have GE156 := n4_; have NB155_156 := n5_; have NB156_155 := n6_; clear n0_ n1_ n2_ n3_ n4_ n5_ n6_; clear hb hbox hg) | ((with_reducible refine gate_dst (N := 4) rfl ?_); refine box_event ?hg (N := 4) ?hd (cs := #[.int .i64 0, .int .i64 0, .slice none 0 0, .int .i64 0, .slice none 0 0]) (t := 27) ?hr ?_; (case hd => rfl); (case hg => rfl); (case hr => first | (go_simp; done) | (go_simp; rfl)); intro gb157 hg w8 hbox hb; have n0_ := aM (blk_below (g := gb155) (o := .cells #[.int .i64 a0_0, .int .i64 a0_1, .slice A0_2 l0_2.length c0_2, .int .i64 a0_3, .slice A0_4 l0_4.length c0_4] 27 (0, 0)) (by (with_reducible repeat (first | refine bN ?_ _ | refine bD ?_ | refine bA ?_ _)); exact BK155.out) hb); have n1_ := aM (blk_below (g := gb156) (o := .cells #[.int .i64 a1_0, .int .i64 a1_1, .int .i64 a1_2] 42 (0, 0)) (by (with_reducible repeat (first | refine bN ?_ _ | refine bD ?_ | refine bA ?_ _)); exact BK156.out) hb); have n2_ := aM (below_step (by repeat (first | (with_reducible first | exact HB.out | apply wA | apply wN | apply wD | refine below_set ?_ GE155.out | refine below_set ?_ GE156.out) | exact HB.out)) hb); have n3_ := aM (hbox); have n4_ := aM ((by rw [hg]; exact (below_size (by repeat (first | (with_reducible first | exact HB.out | apply wA | apply wN | apply wD | refine below_set ?_ GE155.out | refine below_set ?_ GE156.out) | exact HB.out))) : w.heap.size ≤ gb157)); have n5_ := aM ((by rw [hg]; exact (below_size (by repeat (first | (with_reducible first | exact HB.out | apply wA | apply wN | apply wD | refine below_set ?_ GE155.out | refine below_set ?_ GE156.out) | exact HB.out))) : w.heap.size ≤ gb157)); have n6_ := aM ((by rw [hg]; exact Nat.ne_of_lt (blk_lt (g := gb155) (o := .cells #[.int .i64 a0_0, .int .i64 a0_1, .slice A0_2 l0_2.length c0_2, .int .i64 a0_3, .slice A0_4 l0_4.length c0_4] 27 (0, 0)) (by (with_reducible repeat (first | refine bN ?_ _ | refine bD ?_ | refine bA ?_ _)); exact BK155.out)) : gb155 ≠ gb157)); have n7_ := aM ((by rw [hg]; exact Nat.ne_of_gt (blk_lt (g := gb155) (o := .cells #[.int .i64 a0_0, .int .i64 a0_1, .slice A0_2 l0_2.length c0_2, .int .i64 a0_3, .slice A0_4 l0_4.length c0_4] 27 (0, 0)) (by (with_reducible repeat (first | refine bN ?_ _ | refine bD ?_ | refine bA ?_ _)); exact BK155.out)) : gb157 ≠ gb155)); have n8_ := aM ((by rw [hg]; exact Nat.ne_of_lt (blk_lt (g := gb156) (o := .cells #[.int .i64 a1_0, .int .i64 a1_1, .int .i64 a1_2] 42 (0, 0)) (by (with_reducible repeat (first | refine bN ?_ _ | refine bD ?_ | refine bA ?_ _)); exact BK156.out)) : gb156 ≠ gb157)); have n9_ := aM ((by rw [hg]; exact Nat.ne_of_gt (blk_lt (g := gb156) (o := .cells #[.int .i64 a1_0, .int .i64 a1_1, .int .i64 a1_2] 42 (0, 0)) (by (with_reducible repeat (first | refine bN ?_ _ | refine bD ?_ | refine bA ?_ _)); exact BK156.out)) : gb157 ≠ gb156)); clear BK155; clear BK156; clear HB; have BK155 := n0_; have BK156 := n1_; have HB := n2_; have BK157 := n3_; have GW157 := n4_; have GE157 := n5_; have NB155_157 := n6_; have NB157_155 := n7_; have NB156_157 := n8_; have NB157_156 := n9_; clear n0_ n1_ n2_ n3_ n4_ n5_ n6_ n7_ n8_ n9_; clear hb hbox hg) | ((with_reducible refine gate_dst (N := 6) rfl ?_); refine box_event ?hg (N := 6) ?hd (cs := #[.int .i64 0, .int .i64 0, .int .i64 0]) (t := 42) ?hr ?_; (case hd => rfl); (case hg => rfl); (case hr => first | (go_simp; done) | (go_simp; rfl)); intro gb158 hg w9 hbox hb; have n0_ := aM (blk_below (g := gb155) (o := .cells #[.int .i64 a0_0, .int .i64 a0_1, .slice A0_2 l0_2.length c0_2, .int .i64 a0_3, .slice A0_4 l0_4.length c0_4] 27 (0, 0)) (by (with_reducible repeat (first | refine bN ?_ _ | refine bD ?_ | refine bA ?_ _)); exact BK155.out) hb); have n1_ := aM (blk_below (g := gb156) (o := .cells #[.int .i64 a1_0, .int .i64 a1_1, .int .i64 a1_2] 42 (0, 0)) (by (with_reducible repeat (first | refine bN ?_ _ | refine bD ?_ | refine bA ?_ _)); exact BK156.out) hb); have n2_ := aM (blk_below (g := gb157) (o := .cells #[.int .i64 0, .int .i64 0, .slice none 0 0, .int .i64 0, .slice none 0 0] 27 (0, 0)) (by (with_reducible repeat (first | refine bN ?_ _ | refine bD ?_ | refine bA ?_ _)); exact BK157.out) hb); have n3_ := aM (below_step (by repeat (first | (with_reducible first | exact HB.out | apply wA | apply wN | apply wD | refine below_set ?_ GE155.out | refine below_set ?_ GE156.out | refine below_set ?_ GE157.out) | exact HB.out)) hb); have n4_ := aM (hbox); have n5_ := aM ((by rw [hg]; exact (below_size (by repeat (first | (with_reducible first | exact HB.out | apply wA | apply wN | apply wD | refine below_set ?_ GE155.out | refine below_set ?_ GE156.out | refine below_set ?_ GE157.out) | exact HB.out))) : w.heap.size ≤ gb158)); have n6_ := aM ((by rw [hg]; exact (below_size (by repeat (first | (with_reducible first | exact HB.out | apply wA | apply wN | apply wD | refine below_set ?_ GE155.out | refine below_set ?_ GE156.out | refine below_set ?_ GE157.out) | exact HB.out))) : w.heap.size ≤ gb158)); have n7_ := aM ((by rw [hg]; exact Nat.ne_of_lt (blk_lt (g := gb155) (o := .cells #[.int .i64 a0_0, .int .i64 a0_1, .slice A0_2 l0_2.length c0_2, .int .i64 a0_3, .slice A0_4 l0_4.length c0_4] 27 (0, 0)) (by (with_reducible repeat (first | refine bN ?_ _ | refine bD ?_ | refine bA ?_ _)); exact BK155.out)) : gb155 ≠ gb158)); have n8_ := aM ((by rw [hg]; exact Nat.ne_of_gt (blk_lt (g := gb155) (o := .cells #[.int .i64 a0_0, .int .i64 a0_1, .slice A0_2 l0_2.length c0_2, .int .i64 a0_3, .slice A0_4 l0_4.length c0_4] 27 (0, 0)) (by (with_reducible repeat (first | refine bN ?_ _ | refine bD ?_ | refine bA ?_ _)); exact BK155.out)) : gb158 ≠ gb155)); have n9_ := aM ((by rw [hg]; exact Nat.ne_of_lt (blk_lt (g := gb156) (o := .cells #[.int .i64 a1_0, .int .i64 a1_1, .int .i64 a1_2] 42 (0, 0)) (by (with_reducible repeat (first | refine bN ?_ _ | refine bD ?_ | refine bA ?_ _)); exact BK156.out)) : gb156 ≠ gb158)); have n10_ := aM ((by rw [hg]; exact Nat.ne_of_gt (blk_lt (g := gb156) (o := .cells #[.int .i64 a1_0, .int .i64 a1_1, .int .i64 a1_2] 42 (0, 0)) (by (with_reducible repeat (first | refine bN ?_ _ | refine bD ?_ | refine bA ?_ _)); exact BK156.out)) : gb158 ≠ gb156)); have n11_ := aM ((by rw [hg]; exact Nat.ne_of_lt (blk_lt (g := gb157) (o := .cells #[.int .i64 0, .int .i64 0, .slice none 0 0, .int .i64 0, .slice none 0 0] 27 (0, 0)) (by (with_reducible repeat (first | refine bN ?_ _ | refine bD ?_ | refine bA ?_ _)); exact BK157.out)) : gb157 ≠ gb158)); have n12_ := aM ((by rw [hg]; exact Nat.ne_of_gt (blk_lt (g := gb157) (o := .cells #[.int .i64 0, .int .i64 0, .slice none 0 0, .int .i64 0, .slice none 0 0] 27 (0, 0)) (by (with_reducible repeat (first | refine bN ?_ _ | refine bD ?_ | refine bA ?_ _)); exact BK157.out)) : gb158 ≠ gb157)); clear BK155; clear BK156; clear BK157; clear HB; have BK155 := n0_; have BK156 := n1_; have BK157 := n2_; have HB := n3_; have BK158 := n4_; have GW158 := n5_; have GE158 := n6_; have NB155_158 := n7_; have NB158_155 := n8_; have NB156_158 := n9_; have NB158_156 := n10_; have NB157_158 := n11_; have NB158_157 := n12_; clear n0_ n1_ n2_ n3_ n4_ n5_ n6_ n7_ n8_ n9_ n10_ n11_ n12_; clear hb hbox hg; have hnb10 := NB155_156.out; have hnc10 := NB156_155.out; have hnb11 := NB155_157.out; have hnc11 := NB157_155.out; have hnb12 := NB155_158.out; have hnc12 := NB158_155.out; have hcz13_0 : w9.cell? ⟨gb155, 0, none⟩ = some (.int .i64 a0_0) := (blk_cell BK155.out 0).trans rfl; have hcz13_1 : w9.cell? ⟨gb155, 1, none⟩ = some (.int .i64 a0_1) := (blk_cell BK155.out 1).trans rfl; have hcz13_2 : w9.cell? ⟨gb155, 2, none⟩ = some (.slice A0_2 l0_2.length c0_2) := (blk_cell BK155.out 2).trans rfl; have hcz13_3 : w9.cell? ⟨gb155, 3, none⟩ = some (.int .i64 a0_3) := (blk_cell BK155.out 3).trans rfl; have hcz13_4 : w9.cell? ⟨gb155, 4, none⟩ = some (.slice A0_4 l0_4.length c0_4) := (blk_cell BK155.out 4).trans rfl; have hfz13_0 := blk_frozen BK155.out 0; have hfz13_1 := blk_frozen BK155.out 1; have hfz13_2 := blk_frozen BK155.out 2; have hfz13_3 := blk_frozen BK155.out 3; have hfz13_4 := blk_frozen BK155.out 4) | ((with_reducible refine gate_callee (f := 30) rfl ?_); refine goesL_ (some 9) rfl rfl Try.func30 (by kernel_rfl) rfl #[.agg #[.int .i64 a0_0, .int .i64 a0_1, .slice A0_2 l0_2.length c0_2, .int .i64 a0_3, .slice A0_4 l0_4.length c0_4]] rfl (by (try simp only [List.map_toArray, List.map_cons, List.map_nil]); first | done | rfl | (simp only [List.length_drop, List.length_take]; rfl)) ?_; (with_reducible refine (link_clone.calls a0_0 a0_1 _ _ l0_2 a0_3 _ _ l0_4 t159 t160 t161 t164 t165 _ ?side1 ?side2 ?side3 ?side4 A3.out).mono ?_); (case side1 => repeat (first | exact (Kd.C_below HR0_2.out HB.out) | (with_reducible refine Kd.C_alloc ?_ _) | (with_reducible refine Kd.C_drewN ?_ _) | (with_reducible refine Kd.C_drew ?_))); (case side2 => exact HC0_2.out); (case side3 => repeat (first | exact (Kd.C_below HR0_4.out HB.out) | (with_reducible refine Kd.C_alloc ?_ _) | (with_reducible refine Kd.C_drewN ?_ _) | (with_reducible refine Kd.C_drew ?_))); (case side4 => exact HC0_4.out); rintro e w14 ⟨v162, v166, rfl, ho0, ho1, hb⟩; refine ⟨_, rfl, ?_⟩; have n0_ := aM (Kd.R_lower ho0 (below_size (by repeat (first | (with_reducible first | exact HB.out | apply wA | apply wN | apply wD | refine below_set ?_ GE155.out | refine below_set ?_ GE156.out | refine below_set ?_ GE157.out | refine below_set ?_ GE158.out) | exact HB.out)))); have n1_ := aM (Kd.R_lower (Kd.R_newB (Kd.R_newB ho1 (g := gb156) (o := .cells #[.int .i64 a1_0, .int .i64 a1_1, .int .i64 a1_2] 42 (0, 0)) (by (with_reducible repeat (first | refine bN ?_ _ | refine bD ?_ | refine bA ?_ _)); exact BK156.out)) (g := gb158) (o := .cells #[.int .i64 0, .int .i64 0, .int .i64 0] 42 (0, 0)) (by (with_reducible repeat (first | refine bN ?_ _ | refine bD ?_ | refine bA ?_ _)); exact BK158.out)) (below_size (by repeat (first | (with_reducible first | exact HB.out | apply wA | apply wN | apply wD | refine below_set ?_ GE155.out | refine below_set ?_ GE156.out | refine below_set ?_ GE157.out | refine below_set ?_ GE158.out) | exact HB.out)))); have n2_ := aM (blk_below (g := gb155) (o := .cells #[.int .i64 a0_0, .int .i64 a0_1, .slice A0_2 l0_2.length c0_2, .int .i64 a0_3, .slice A0_4 l0_4.length c0_4] 27 (0, 0)) (by (with_reducible repeat (first | refine bN ?_ _ | refine bD ?_ | refine bA ?_ _)); exact BK155.out) hb); have n3_ := aM (blk_below (g := gb156) (o := .cells #[.int .i64 a1_0, .int .i64 a1_1, .int .i64 a1_2] 42 (0, 0)) (by (with_reducible repeat (first | refine bN ?_ _ | refine bD ?_ | refine bA ?_ _)); exact BK156.out) hb); have n4_ := aM (blk_below (g := gb157) (o := .cells #[.int .i64 0, .int .i64 0, .slice none 0 0, .int .i64 0, .slice none 0 0] 27 (0, 0)) (by (with_reducible repeat (first | refine bN ?_ _ | refine bD ?_ | refine bA ?_ _)); exact BK157.out) hb); have n5_ := aM (blk_below (g := gb158) (o := .cells #[.int .i64 0, .int .i64 0, .int .i64 0] 42 (0, 0)) (by (with_reducible repeat (first | refine bN ?_ _ | refine bD ?_ | refine bA ?_ _)); exact BK158.out) hb); have n6_ := aM (below_step (by repeat (first | (with_reducible first | exact HB.out | apply wA | apply wN | apply wD | refine below_set ?_ GE155.out | refine below_set ?_ GE156.out | refine below_set ?_ GE157.out | refine below_set ?_ GE158.out) | exact HB.out)) hb); clear BK155; clear BK156; clear BK157; clear BK158; clear HB; have HO163 := n0_; have HO167 := n1_; have BK155 := n2_; have BK156 := n3_; have BK157 := n4_; have BK158 := n5_; have HB := n6_; clear n0_ n1_ n2_ n3_ n4_ n5_ n6_; (try clear hb); (try clear hb2); (try clear hk); (try clear hi); (try clear hge_); (try clear ho0); (try clear ho1); have hcz15_0 : w14.cell? ⟨gb155, 0, none⟩ = some (.int .i64 a0_0) := (blk_cell BK155.out 0).trans rfl; have hcz15_1 : w14.cell? ⟨gb155, 1, none⟩ = some (.int .i64 a0_1) := (blk_cell BK155.out 1).trans rfl; have hcz15_2 : w14.cell? ⟨gb155, 2, none⟩ = some (.slice A0_2 l0_2.length c0_2) := (blk_cell BK155.out 2).trans rfl; have hcz15_3 : w14.cell? ⟨gb155, 3, none⟩ = some (.int .i64 a0_3) := (blk_cell BK155.out 3).trans rfl; have hcz15_4 : w14.cell? ⟨gb155, 4, none⟩ = some (.slice A0_4 l0_4.length c0_4) := (blk_cell BK155.out 4).trans rfl; have hfz15_0 := blk_frozen BK155.out 0; have hfz15_1 := blk_frozen BK155.out 1; have hfz15_2 := blk_frozen BK155.out 2; have hfz15_3 := blk_frozen BK155.out 3; have hfz15_4 := blk_frozen BK155.out 4; obtain ⟨Ao16, co16, eo16⟩ := Kd.R_slice HO163.out; subst eo16; obtain ⟨Ao17, co17, eo17⟩ := Kd.R_slice HO167.out; subst eo17; have hnb18 := NB156_157.out; have hnc18 := NB157_156.out; have hnb19 := NB156_158.out; have hnc19 := NB158_156.out; have hcz20_0 : w14.cell? ⟨gb156, 0, none⟩ = some (.int .i64 a1_0) := (blk_cell BK156.out 0).trans rfl; have hcz20_1 : w14.cell? ⟨gb156, 1, none⟩ = some (.int .i64 a1_1) := (blk_cell BK156.out 1).trans rfl; have hcz20_2 : w14.cell? ⟨gb156, 2, none⟩ = some (.int .i64 a1_2) := (blk_cell BK156.out 2).trans rfl; have hfz20_0 := blk_frozen BK156.out 0; have hfz20_1 := blk_frozen BK156.out 1; have hfz20_2 := blk_frozen BK156.out 2) | ((with_reducible refine gate_builtin (b := .append) (xs := #[(.tmp 16), .tmp 19]) rfl ?_); at_builtin; refine Kd.R_append (Kd.int .i64) (w0 := w) w.heap.size rfl (.tmp 16) (.tmp 19) 24 3 (.int .i64 0) 8 rfl Try.underlying24 info3 rfl (by decide) (by omega) (.slice none 0 0) ([] : List Int) a1_2 [.int .i64 a1_2] (fun k_ => some k_ ≠ (.slice Ao16 t161.length co16 : Value).ownBlock) (fun _ => False) rfl (by first | (go_simp; done) | (go_simp; rfl)) ?aP (fun _ hk => hk.elim) ?aF ?aO ?aB ?aS ?aL ?_; (case aP => exact rfl); (case aB => exact (by repeat (first | (with_reducible first | exact HB.out | apply wA | apply wN | apply wD | refine below_set ?_ GE155.out | refine below_set ?_ GE156.out | refine below_set ?_ GE157.out | refine below_set ?_ GE158.out) | exact HB.out))); (case aF => exact (fun k_ hk => Kd.fresh' (Kd.R_lt (by (with_reducible repeat (first | apply Kd.R_alloc | apply Kd.R_drewN | apply Kd.R_drew)); exact (Kd.R_mono (Kd.R_far (p := ⟨gb155, 4, none⟩) (Kd.R_far (p := ⟨gb155, 3, none⟩) (Kd.R_far (p := ⟨gb155, 2, none⟩) (Kd.R_far (p := ⟨gb155, 1, none⟩) (Kd.R_far (p := ⟨gb155, 0, none⟩) (Kd.R_types HO163.out BK155.out (by decide)) (fun _ hk => hk.2) (.int .i64 t159)) (fun _ hk => hk.2) (.int .i64 t160)) (fun _ hk => hk.2) (.slice Ao16 t161.length co16)) (fun _ hk => hk.2) (.int .i64 t164)) (fun _ hk => hk.2) (.slice Ao17 t165.length co17)) (fun _ h_ => h_.1)))) k_ hk)); (case aO => exact ((Kd.R_nil _ _ _ _ (fun k_ => some k_ ≠ (.slice Ao16 t161.length co16 : Value).ownBlock)))); (case aS => exact (below_size (by repeat (first | (with_reducible first | exact HB.out | apply wA | apply wN | apply wD | refine below_set ?_ GE155.out | refine below_set ?_ GE156.out | refine below_set ?_ GE157.out | refine below_set ?_ GE158.out) | exact HB.out)))); (case aL => have := LMc5.out; omega); intro v169 w21 ho hb hg hat; rw [← Ny168.out] at ho; have n0_ := aM (blk_grown (g := gb155) (o := .cells #[.int .i64 t159, .int .i64 t160, .slice Ao16 t161.length co16, .int .i64 t164, .slice Ao17 t165.length co17] 27 (0, 0)) (by (with_reducible repeat (first | refine bN ?_ _ | refine bD ?_ | refine bA ?_ _)); refine blk_put (cs := #[.int .i64 t159, .int .i64 t160, .slice Ao16 t161.length co16, .int .i64 t164, .slice A0_4 l0_4.length c0_4]) ?_ 4 _ rfl; (with_reducible repeat (first | refine bN ?_ _ | refine bD ?_ | refine bA ?_ _)); refine blk_put (cs := #[.int .i64 t159, .int .i64 t160, .slice Ao16 t161.length co16, .int .i64 a0_3, .slice A0_4 l0_4.length c0_4]) ?_ 3 _ rfl; (with_reducible repeat (first | refine bN ?_ _ | refine bD ?_ | refine bA ?_ _)); refine blk_put (cs := #[.int .i64 t159, .int .i64 t160, .slice A0_2 l0_2.length c0_2, .int .i64 a0_3, .slice A0_4 l0_4.length c0_4]) ?_ 2 _ rfl; (with_reducible repeat (first | refine bN ?_ _ | refine bD ?_ | refine bA ?_ _)); refine blk_put (cs := #[.int .i64 t159, .int .i64 a0_1, .slice A0_2 l0_2.length c0_2, .int .i64 a0_3, .slice A0_4 l0_4.length c0_4]) ?_ 1 _ rfl; (with_reducible repeat (first | refine bN ?_ _ | refine bD ?_ | refine bA ?_ _)); refine blk_put (cs := #[.int .i64 a0_0, .int .i64 a0_1, .slice A0_2 l0_2.length c0_2, .int .i64 a0_3, .slice A0_4 l0_4.length c0_4]) ?_ 0 _ rfl; (with_reducible repeat (first | refine bN ?_ _ | refine bD ?_ | refine bA ?_ _)); exact BK155.out) hg (by simp [Value.ownBlock])); have n1_ := aM (blk_grown (g := gb156) (o := .cells #[.int .i64 a1_0, .int .i64 a1_1, .int .i64 a1_2] 42 (0, 0)) (by (with_reducible repeat (first | refine bN ?_ _ | refine bD ?_ | refine bA ?_ _)); refine blk_far ?_ NB156_155.out _; (with_reducible repeat (first | refine bN ?_ _ | refine bD ?_ | refine bA ?_ _)); refine blk_far ?_ NB156_155.out _; (with_reducible repeat (first | refine bN ?_ _ | refine bD ?_ | refine bA ?_ _)); refine blk_far ?_ NB156_155.out _; (with_reducible repeat (first | refine bN ?_ _ | refine bD ?_ | refine bA ?_ _)); refine blk_far ?_ NB156_155.out _; (with_reducible repeat (first | refine bN ?_ _ | refine bD ?_ | refine bA ?_ _)); refine blk_far ?_ NB156_155.out _; (with_reducible repeat (first | refine bN ?_ _ | refine bD ?_ | refine bA ?_ _)); exact BK156.out) hg (by simp [Value.ownBlock])); have n2_ := aM (blk_grown (g := gb157) (o := .cells #[.int .i64 0, .int .i64 0, .slice none 0 0, .int .i64 0, .slice none 0 0] 27 (0, 0)) (by (with_reducible repeat (first | refine bN ?_ _ | refine bD ?_ | refine bA ?_ _)); refine blk_far ?_ NB157_155.out _; (with_reducible repeat (first | refine bN ?_ _ | refine bD ?_ | refine bA ?_ _)); refine blk_far ?_ NB157_155.out _; (with_reducible repeat (first | refine bN ?_ _ | refine bD ?_ | refine bA ?_ _)); refine blk_far ?_ NB157_155.out _; (with_reducible repeat (first | refine bN ?_ _ | refine bD ?_ | refine bA ?_ _)); refine blk_far ?_ NB157_155.out _; (with_reducible repeat (first | refine bN ?_ _ | refine bD ?_ | refine bA ?_ _)); refine blk_far ?_ NB157_155.out _; (with_reducible repeat (first | refine bN ?_ _ | refine bD ?_ | refine bA ?_ _)); exact BK157.out) hg (by simp [Value.ownBlock])); have n3_ := aM (blk_grown (g := gb158) (o := .cells #[.int .i64 0, .int .i64 0, .int .i64 0] 42 (0, 0)) (by (with_reducible repeat (first | refine bN ?_ _ | refine bD ?_ | refine bA ?_ _)); refine blk_far ?_ NB158_155.out _; (with_reducible repeat (first | refine bN ?_ _ | refine bD ?_ | refine bA ?_ _)); refine blk_far ?_ NB158_155.out _; (with_reducible repeat (first | refine bN ?_ _ | refine bD ?_ | refine bA ?_ _)); refine blk_far ?_ NB158_155.out _; (with_reducible repeat (first | refine bN ?_ _ | refine bD ?_ | refine bA ?_ _)); refine blk_far ?_ NB158_155.out _; (with_reducible repeat (first | refine bN ?_ _ | refine bD ?_ | refine bA ?_ _)); refine blk_far ?_ NB158_155.out _; (with_reducible repeat (first | refine bN ?_ _ | refine bD ?_ | refine bA ?_ _)); exact BK158.out) hg (by simp [Value.ownBlock])); have n4_ := aM (Kd.R_after (Kd.R_apart_nil (by (with_reducible repeat (first | apply Kd.R_alloc | apply Kd.R_drewN | apply Kd.R_drew)); exact (Kd.R_mono (Kd.R_far (p := ⟨gb155, 4, none⟩) (Kd.R_far (p := ⟨gb155, 3, none⟩) (Kd.R_far (p := ⟨gb155, 2, none⟩) (Kd.R_far (p := ⟨gb155, 1, none⟩) (Kd.R_far (p := ⟨gb155, 0, none⟩) (Kd.R_types HO163.out BK155.out (by decide)) (fun _ hk => hk.2) (.int .i64 t159)) (fun _ hk => hk.2) (.int .i64 t160)) (fun _ hk => hk.2) (.slice Ao16 t161.length co16)) (fun _ hk => hk.2) (.int .i64 t164)) (fun _ hk => hk.2) (.slice Ao17 t165.length co17)) (fun _ h_ => h_.1)))) hg hat); have n5_ := aM (Kd.R_grown (by (with_reducible repeat (first | apply Kd.R_alloc | apply Kd.R_drewN | apply Kd.R_drew)); exact (Kd.R_mono (Kd.R_far (p := ⟨gb155, 4, none⟩) (Kd.R_far (p := ⟨gb155, 3, none⟩) (Kd.R_far (p := ⟨gb155, 2, none⟩) (Kd.R_far (p := ⟨gb155, 1, none⟩) (Kd.R_far (p := ⟨gb155, 0, none⟩) (Kd.R_types HO167.out BK155.out (by decide)) (fun _ hk => hk.2) (.int .i64 t159)) (fun _ hk => hk.2) (.int .i64 t160)) (fun _ hk => hk.2) (.slice Ao16 t161.length co16)) (fun _ hk => hk.2) (.int .i64 t164)) (fun _ hk => hk.2) (.slice Ao17 t165.length co17)) (fun _ h_ => h_.1))) hg (fun _ _ => by simp [Value.ownBlock])); have n6_ := aM (hb); have n7_ := aM (ho); clear BK155; clear BK156; clear BK157; clear BK158; clear HO163; clear HO167; clear HB; have BK155 := n0_; have BK156 := n1_; have BK157 := n2_; have BK158 := n3_; have HO163 := n4_; have HO167 := n5_; have HB := n6_; have HO170 := n7_; clear n0_ n1_ n2_ n3_ n4_ n5_ n6_ n7_; clear ho hb hg hat; have hcz22_0 : w21.cell? ⟨gb155, 0, none⟩ = some (.int .i64 t159) := (blk_cell BK155.out 0).trans rfl; have hcz22_1 : w21.cell? ⟨gb155, 1, none⟩ = some (.int .i64 t160) := (blk_cell BK155.out 1).trans rfl; have hcz22_2 : w21.cell? ⟨gb155, 2, none⟩ = some (.slice Ao16 t161.length co16) := (blk_cell BK155.out 2).trans rfl; have hcz22_3 : w21.cell? ⟨gb155, 3, none⟩ = some (.int .i64 t164) := (blk_cell BK155.out 3).trans rfl; have hcz22_4 : w21.cell? ⟨gb155, 4, none⟩ = some (.slice Ao17 t165.length co17) := (blk_cell BK155.out 4).trans rfl; have hfz22_0 := blk_frozen BK155.out 0; have hfz22_1 := blk_frozen BK155.out 1; have hfz22_2 := blk_frozen BK155.out 2; have hfz22_3 := blk_frozen BK155.out 3; have hfz22_4 := blk_frozen BK155.out 4))
   go_loopg [7] k (fun kq v7 w' => ∃ (x7_1 : List Int) (x156003_1 : Int) (x156004_1 : List (S42)) (u156004 : Value), Aside0 (link_Arrive.l0 kq x7_1 t159 t160 t161 x156003_1 x156004_1 = some (r1, r2, r3, r4, r5, r6, r7, r8, r9)) ∧ Aside0 (kq ≤ k) ∧ Aside0 (Kd.R (Kd.int .i64) 3 w' w.heap.size (fun k_ => some k_ ≠ ((.slice Ao16 t161.length co16) : Value).ownBlock) v7 x7_1) ∧ Aside0 (Kd.R (Kd.int .i64) 3 w' w.heap.size (fun k_ => some k_ ≠ (v7 : Value).ownBlock) (.slice Ao16 t161.length co16) t161) ∧ Aside0 (Kd.Q k42 42 w' w.heap.size (fun k_ => k_ ≠ gb156 ∧ k_ ≠ gb158) u156004 x156004_1) ∧ Aside0 (w'.heap[gb155]? = some (.cells #[.int .i64 t159, .int .i64 t160, (.slice Ao16 t161.length co16), .int .i64 x156003_1, u156004] 27 (0, 0))) ∧ Aside0 (w'.heap[gb156]? = some (.cells #[.int .i64 a1_0, .int .i64 a1_1, .int .i64 a1_2] 42 (0, 0))) ∧ Aside0 (w'.heap[gb157]? = some (.cells #[.int .i64 0, .int .i64 0, (.slice none 0 0), .int .i64 0, (.slice none 0 0)] 27 (0, 0))) ∧ Aside0 (w'.heap[gb158]? = some (.cells #[.int .i64 0, .int .i64 0, .int .i64 0] 42 (0, 0))) ∧ Aside0 (Below w.heap.size w w'))
   case atStart => exact ⟨(y168), (wrap64 (t164 + 1)), (t165), (.slice Ao17 t165.length co17), H', ⟨Nat.le_refl _⟩, ⟨by (with_reducible repeat (first | apply Kd.R_alloc | apply Kd.R_drewN | apply Kd.R_drew)); exact Kd.R_mono (Kd.R_far (p := ⟨gb155, 3, none⟩) (Kd.R_types HO170.out BK155.out (by decide)) (fun _ hk => hk.2) (.int .i64 (wrap64 (t164 + 1)))) (fun _ hk => hk.1)⟩, ⟨by (with_reducible repeat (first | apply Kd.R_alloc | apply Kd.R_drewN | apply Kd.R_drew)); exact Kd.R_mono (Kd.R_far (p := ⟨gb155, 3, none⟩) (Kd.R_types HO163.out BK155.out (by decide)) (fun _ hk => hk.2) (.int .i64 (wrap64 (t164 + 1)))) (fun _ hk => hk.1.2)⟩, ⟨Kd.Q_of_R (by (with_reducible repeat (first | apply Kd.R_alloc | apply Kd.R_drewN | apply Kd.R_drew)); exact Kd.R_mono (Kd.R_far (p := ⟨gb155, 3, none⟩) (Kd.R_types HO167.out BK155.out (by decide)) (fun _ hk => hk.2) (.int .i64 (wrap64 (t164 + 1)))) (fun _ hk => ⟨hk.1.1.2, hk.1.2⟩))⟩, ⟨by (with_reducible repeat (first | refine bN ?_ _ | refine bD ?_ | refine bA ?_ _)); refine blk_put (cs := #[.int .i64 t159, .int .i64 t160, .slice Ao16 t161.length co16, .int .i64 t164, .slice Ao17 t165.length co17]) ?_ 3 _ rfl; (with_reducible repeat (first | refine bN ?_ _ | refine bD ?_ | refine bA ?_ _)); exact BK155.out⟩, ⟨by (with_reducible repeat (first | refine bN ?_ _ | refine bD ?_ | refine bA ?_ _)); refine blk_far ?_ NB156_155.out _; (with_reducible repeat (first | refine bN ?_ _ | refine bD ?_ | refine bA ?_ _)); exact BK156.out⟩, ⟨by (with_reducible repeat (first | refine bN ?_ _ | refine bD ?_ | refine bA ?_ _)); refine blk_far ?_ NB157_155.out _; (with_reducible repeat (first | refine bN ?_ _ | refine bD ?_ | refine bA ?_ _)); exact BK157.out⟩, ⟨by (with_reducible repeat (first | refine bN ?_ _ | refine bD ?_ | refine bA ?_ _)); refine blk_far ?_ NB158_155.out _; (with_reducible repeat (first | refine bN ?_ _ | refine bD ?_ | refine bA ?_ _)); exact BK158.out⟩, ⟨by repeat (first | (with_reducible first | exact HB.out | apply wA | apply wN | apply wD | refine below_set ?_ GE155.out | refine below_set ?_ GE156.out | refine below_set ?_ GE157.out | refine below_set ?_ GE158.out) | exact HB.out)⟩⟩
   case round =>
    clear H'
    try clear c1
    try clear p2
    try clear c3
    try clear c4
    try clear c4b0
    try clear c4b1
    try clear c5
    try clear p6
    try clear c10
    try clear c11
    try clear c12
    try clear c17
    try clear c18
    try clear c19
    try clear hcz13_0
    try clear hcz13_1
    try clear hcz13_2
    try clear hcz13_3
    try clear hcz13_4
    try clear hcz15_0
    try clear hcz15_1
    try clear hcz15_2
    try clear hcz15_3
    try clear hcz15_4
    try clear hcz20_0
    try clear hcz20_1
    try clear hcz20_2
    try clear hcz22_0
    try clear hcz22_1
    try clear hcz22_2
    try clear hcz22_3
    try clear hcz22_4
    try clear hfz13_0
    try clear hfz13_1
    try clear hfz13_2
    try clear hfz13_3
    try clear hfz13_4
    try clear hfz15_0
    try clear hfz15_1
    try clear hfz15_2
    try clear hfz15_3
    try clear hfz15_4
    try clear hfz20_0
    try clear hfz20_1
    try clear hfz20_2
    try clear hfz22_0
    try clear hfz22_1
    try clear hfz22_2
    try clear hfz22_3
    try clear hfz22_4
    obtain ⟨x7_1, x156003_1, x156004_1, u156004, HA, HK1, HO_7, HO_156002, HO_156004, BK155, BK156, BK157, BK158, HB⟩ := hrel
    cases gk with
    | zero => exact absurd HA.out (by simp [link_Arrive.l0])
    | succ k1 =>
     have H := HA.out
     clear HA
     simp only [link_Arrive.l0] at H
     by_cases c23 : (x156004_1.length : Int) > 0
     ·rw [if_pos c23] at H
      have c23b0 : decide (0 < (x156004_1.length : Int)) = true := decide_eq_true c23
      have c23b1 : decide (0 < x156004_1.length) = true := decide_eq_true (by omega)
      clear c23
      by_cases c24 : 0 < (x156004_1.length : Int)
      ·rw [if_pos c24] at H
       have c24b0 : decide (0 < (x156004_1.length : Int)) = true := decide_eq_true c24
       have c24b1 : decide (0 < x156004_1.length) = true := decide_eq_true (by omega)
       clear c24
       by_cases c25 : ((rd_T42 x156004_1 0).f0) = x156003_1
       ·rw [if_pos c25] at H
        have c25b0 : (((rd_T42 x156004_1 0).f0) == x156003_1) = true := beq_iff_eq.mpr c25
        have c25b1 : (((rd_T42 x156004_1 0).f0) != x156003_1) = false := bne_eq_false_iff_eq.mpr c25
        clear c25
        by_cases c26 : x7_1.length < 17592186044416
        ·rw [if_pos c26] at H
         have LMc26 := aM c26
         clear c26
         obtain ⟨y173, hy173⟩ : ∃ y_ : List Int, y_ = (x7_1 ++ [(rd_T42 x156004_1 0).f2]) := ⟨_, rfl⟩
         replace H : (if 1 ≤ (x156004_1.length : Int) then (link_Arrive.l0 k1 y173 t159 t160 t161 (wrap64 (x156003_1 + 1)) (x156004_1.drop (1 : Int).toNat)) else (none)) = some (r1, r2, r3, r4, r5, r6, r7, r8, r9) := by first | (rw [hy173]; with_reducible exact H) | (have H2_ := (Option.bind_some _ _).symm.trans H; rw [hy173]; with_reducible exact H2_) | (have H2_ := (Option.bind_some _ _).symm.trans H; with_reducible exact H2_) | with_reducible exact H | (rw [hy173]; exact H) | exact H
         have Ny173 := aM hy173
         clear hy173
         by_cases c27 : 1 ≤ (x156004_1.length : Int)
         ·rw [if_pos c27] at H
          have c27b0 := eq_true c27
          have c27b1 : decide (1 ≤ (x156004_1.length : Int)) = true := decide_eq_true c27
          clear c27
          obtain ⟨y176, hy176⟩ : ∃ y_ : List (S42), y_ = (x156004_1.drop (1 : Int).toNat) := ⟨_, rfl⟩
          replace H : (link_Arrive.l0 k1 y173 t159 t160 t161 (wrap64 (x156003_1 + 1)) y176) = some (r1, r2, r3, r4, r5, r6, r7, r8, r9) := by first | (rw [hy176]; with_reducible exact H) | (have H2_ := (Option.bind_some _ _).symm.trans H; rw [hy176]; with_reducible exact H2_) | (have H2_ := (Option.bind_some _ _).symm.trans H; with_reducible exact H2_) | with_reducible exact H | (rw [hy176]; exact H) | exact H
          have Ny176 := aM hy176
          clear hy176
          have H' := aM H
          clear H
          try go_wp2
          have n0_ := aM (Kd.R_drew HO_7.out)
          have n1_ := aM (Kd.R_drew HO_156002.out)
          have n2_ := aM (Kd.Q_drew HO_156004.out)
          have n3_ := aM (bD BK155.out)
          have n4_ := aM (bD BK156.out)
          have n5_ := aM (bD BK157.out)
          have n6_ := aM (bD BK158.out)
          have n7_ := aM (wD HB.out)
          clear HO_7
          clear HO_156002
          clear HO_156004
          clear BK155
          clear BK156
          clear BK157
          clear BK158
          clear HB
          have HO_7 := n0_
          have HO_156002 := n1_
          have HO_156004 := n2_
          have BK155 := n3_
          have BK156 := n4_
          have BK157 := n5_
          have BK158 := n6_
          have HB := n7_
          clear n0_ n1_ n2_ n3_ n4_ n5_ n6_ n7_
          obtain ⟨Ao29, co29, eo29, _⟩ := Kd.Q_slice HO_156004.out
          (first | subst eo29 | (injection eo29 with f1_ f2_ f3_; have f4_ := f1_.symm; have f5_ := f3_.symm; clear f1_ f2_ f3_; subst f4_; subst f5_))
          have p171 : 0 ≤ (0 : Int) := (by omega)
          have q171 : 0 < (x156004_1.length : Int) := of_decide_eq_true (by first | (with_reducible assumption) | assumption)
          obtain ⟨ad171, e171, hx171_0, hx171_1, hx171_2⟩ := at_T42 (Kd.Q_reads' HO_156004.out).2.2 0 p171 q171
          cases e171
          have qi171 : (0 < x156004_1.length) = True := eq_true (by omega)
          (try rw [show ((0 : Int)).toNat = 0 from rfl] at hx171_0)
          (try rw [show 0 * 3 = 0 from rfl] at hx171_0)
          (try rw [Addr.add_zero'] at hx171_0)
          (try rw [show ((0 : Int)).toNat = 0 from rfl] at hx171_1)
          (try rw [show 0 * 3 = 0 from rfl] at hx171_1)
          (try rw [Addr.add_zero'] at hx171_1)
          (try rw [show ((0 : Int)).toNat = 0 from rfl] at hx171_2)
          (try rw [show 0 * 3 = 0 from rfl] at hx171_2)
          (try rw [Addr.add_zero'] at hx171_2)
          replace p171 := eq_true p171
          replace q171 := eq_true q171
          refine start_ (n := 14) (S := fun w' => w'.cell? ⟨gb155, 0, none⟩ = some (.int .i64 t159) ∧ w'.cell? ⟨gb155, 1, none⟩ = some (.int .i64 t160) ∧ w'.cell? ⟨gb155, 2, none⟩ = some (.slice Ao16 t161.length co16) ∧ w'.cell? ⟨gb155, 3, none⟩ = some (.int .i64 x156003_1) ∧ w'.cell? ⟨gb155, 4, none⟩ = some (.slice (some ad171) x156004_1.length co29) ∧ w'.cell? ad171 = some (.int .i64 ((rd_T42 x156004_1 0).f0)) ∧ w'.cell? ⟨ad171.block, ad171.off + 1, none⟩ = some (.int .i64 ((rd_T42 x156004_1 0).f1)) ∧ w'.cell? ⟨ad171.block, ad171.off + 2, none⟩ = some (.int .i64 ((rd_T42 x156004_1 0).f2))) (ds := []) #[false, false, false, false, false, false, false, false, false, false, false, false, false, false] (by kernel_rfl) rfl rfl ⟨(blk_cell BK155.out 0).trans rfl, (blk_cell BK155.out 1).trans rfl, (blk_cell BK155.out 2).trans rfl, (blk_cell BK155.out 3).trans rfl, (blk_cell BK155.out 4).trans rfl, hx171_0, hx171_1, hx171_2⟩ (fun hHeld => ?_); refine with_tabW link_Arrive.tab6 link_Arrive.bits6 (fun HT_ HW_ => ?_)
          generalize wr.drew = w28 at HO_7 HO_156002 HO_156004 BK155 BK156 BK157 BK158 HB hx171_0 hx171_1 hx171_2 hHeld ⊢
          refine pure_ (i := 0) (N := some 25) (v := ?_) (a' := ?_) #[true, false, false, false, false, false, false, false, false, false, false, false, false, false] rfl rfl (any_of HT_.out (by kernel_rfl)) (fun _ _ _ h => h) (Or.inl ⟨by rfl, ?_⟩) ?_ ?_
          rotate_left
          ·intro w'
           go_simp
           with_reducible rfl
          rotate_left
          ·simp only [Act.put, List.setIfInBounds_toArray, List.set_cons_zero, List.set_cons_succ, i64_w, i32_w]
           rfl
          refine take_ (i := 1) (N := some 26) (v := ?_) (a' := ?_) #[true, true, false, false, false, false, false, false, false, false, false, false, false, false] rfl rfl (take_ofW HT_.out HW_.out (by kernel_rfl)) (fun _ _ _ h => h) (Or.inl ⟨by rfl, ?_⟩) hHeld ?_ ?_
          rotate_left
          ·rintro w' ⟨s0, s1, s2, s3, s4, s5, s6, s7⟩
           go_simp
           with_reducible rfl
          rotate_left
          ·simp only [Act.put, List.setIfInBounds_toArray, List.set_cons_zero, List.set_cons_succ, i64_w, i32_w]
           rfl
          refine pure_ (i := 2) (N := some 27) (v := ?_) (a' := ?_) #[true, true, true, false, false, false, false, false, false, false, false, false, false, false] rfl rfl (any_of HT_.out (by kernel_rfl)) (fun _ _ _ h => h) (Or.inl ⟨by rfl, ?_⟩) ?_ ?_
          rotate_left
          ·intro w'
           go_simp
           with_reducible rfl
          rotate_left
          ·simp only [Act.put, List.setIfInBounds_toArray, List.set_cons_zero, List.set_cons_succ, i64_w, i32_w]
           rfl
          refine pure_ (i := 3) (N := some 28) (v := ?_) (a' := ?_) #[true, true, true, true, false, false, false, false, false, false, false, false, false, false] rfl rfl (any_of HT_.out (by kernel_rfl)) (fun _ _ _ h => h) (Or.inl ⟨by rfl, ?_⟩) ?_ ?_
          rotate_left
          ·intro w'
           go_simp
           with_reducible rfl
          rotate_left
          ·simp only [Act.put, List.setIfInBounds_toArray, List.set_cons_zero, List.set_cons_succ, i64_w, i32_w]
           rfl
          refine pure_ (i := 4) (N := some 29) (v := ?_) (a' := ?_) #[true, true, true, true, true, false, false, false, false, false, false, false, false, false] rfl rfl (any_of HT_.out (by kernel_rfl)) (fun _ _ _ h => h) (Or.inl ⟨by rfl, ?_⟩) ?_ ?_
          rotate_left
          ·intro w'
           go_simp
           with_reducible rfl
          rotate_left
          ·simp only [Act.put, List.setIfInBounds_toArray, List.set_cons_zero, List.set_cons_succ, i64_w, i32_w]
           rfl
          refine pure_ (i := 5) (N := some 30) (v := ?_) (a' := ?_) #[true, true, true, true, true, true, false, false, false, false, false, false, false, false] rfl rfl (any_of HT_.out (by kernel_rfl)) (fun _ _ _ h => h) (Or.inl ⟨by rfl, ?_⟩) ?_ ?_
          rotate_left
          ·intro w'
           go_simp
           with_reducible rfl
          rotate_left
          ·simp only [Act.put, List.setIfInBounds_toArray, List.set_cons_zero, List.set_cons_succ, i64_w, i32_w]
           rfl
          refine pure_ (i := 10) (N := some 35) (v := ?_) (a' := ?_) #[true, true, true, true, true, true, false, false, false, false, true, false, false, false] rfl rfl (any_of HT_.out (by kernel_rfl)) (fun _ _ _ h => h) (Or.inl ⟨by rfl, ?_⟩) ?_ ?_
          rotate_left
          ·intro w'
           go_simp
           with_reducible rfl
          rotate_left
          ·simp only [Act.put, List.setIfInBounds_toArray, List.set_cons_zero, List.set_cons_succ, i64_w, i32_w]
           rfl
          refine take_ (i := 6) (N := some 31) (v := ?_) (a' := ?_) #[true, true, true, true, true, true, true, false, false, false, true, false, false, false] rfl rfl (take_ofW HT_.out HW_.out (by kernel_rfl)) (fun _ _ _ h => h) (Or.inl ⟨by rfl, ?_⟩) hHeld ?_ ?_
          rotate_left
          ·rintro w' ⟨s0, s1, s2, s3, s4, s5, s6, s7⟩
           go_simp
           with_reducible rfl
          rotate_left
          ·simp only [Act.put, List.setIfInBounds_toArray, List.set_cons_zero, List.set_cons_succ, i64_w, i32_w]
           rfl
          refine pure_ (i := 7) (N := some 32) (v := ?_) (a' := ?_) #[true, true, true, true, true, true, true, true, false, false, true, false, false, false] rfl rfl (any_of HT_.out (by kernel_rfl)) (fun _ _ _ h => h) (Or.inl ⟨by rfl, ?_⟩) ?_ ?_
          rotate_left
          ·intro w'
           go_simp
           with_reducible rfl
          rotate_left
          ·simp only [Act.put, List.setIfInBounds_toArray, List.set_cons_zero, List.set_cons_succ, i64_w, i32_w]
           rfl
          refine pure_ (i := 8) (N := some 33) (v := ?_) (a' := ?_) #[true, true, true, true, true, true, true, true, true, false, true, false, false, false] rfl rfl (any_of HT_.out (by kernel_rfl)) (fun _ _ _ h => h) (Or.inl ⟨by rfl, ?_⟩) ?_ ?_
          rotate_left
          ·intro w'
           go_simp
           with_reducible rfl
          rotate_left
          ·simp only [Act.put, List.setIfInBounds_toArray, List.set_cons_zero, List.set_cons_succ, i64_w, i32_w]
           rfl
          refine take_ (i := 9) (N := some 34) (v := ?_) (a' := ?_) #[true, true, true, true, true, true, true, true, true, true, true, false, false, false] rfl rfl (take_ofW HT_.out HW_.out (by kernel_rfl)) (fun _ _ _ h => h) (Or.inl ⟨by rfl, ?_⟩) hHeld ?_ ?_
          rotate_left
          ·rintro w' ⟨s0, s1, s2, s3, s4, s5, s6, s7⟩
           go_simp
           with_reducible rfl
          rotate_left
          ·simp only [Act.put, List.setIfInBounds_toArray, List.set_cons_zero, List.set_cons_succ, i64_w, i32_w]
           rfl
          refine take_ (i := 11) (N := some 36) (v := ?_) (a' := ?_) #[true, true, true, true, true, true, true, true, true, true, true, true, false, false] rfl rfl (take_ofW HT_.out HW_.out (by kernel_rfl)) (fun _ _ _ h => h) (Or.inl ⟨by rfl, ?_⟩) hHeld ?_ ?_
          rotate_left
          ·rintro w' ⟨s0, s1, s2, s3, s4, s5, s6, s7⟩
           go_simp
           with_reducible rfl
          rotate_left
          ·simp only [Act.put, List.setIfInBounds_toArray, List.set_cons_zero, List.set_cons_succ, i64_w, i32_w]
           rfl
          refine pure_ (i := 12) (N := some 37) (v := ?_) (a' := ?_) #[true, true, true, true, true, true, true, true, true, true, true, true, true, false] rfl rfl (any_of HT_.out (by kernel_rfl)) (fun _ _ _ h => h) (Or.inl ⟨by rfl, ?_⟩) ?_ ?_
          rotate_left
          ·intro w'
           go_simp
           with_reducible rfl
          rotate_left
          ·simp only [Act.put, List.setIfInBounds_toArray, List.set_cons_zero, List.set_cons_succ, i64_w, i32_w]
           rfl
          refine pure_ (i := 13) (N := some 38) (v := ?_) (a' := ?_) #[true, true, true, true, true, true, true, true, true, true, true, true, true, true] rfl rfl (any_of HT_.out (by kernel_rfl)) (fun _ _ _ h => h) (Or.inl ⟨by rfl, ?_⟩) ?_ ?_
          rotate_left
          ·intro w'
           go_simp
           with_reducible rfl
          rotate_left
          ·simp only [Act.put, List.setIfInBounds_toArray, List.set_cons_zero, List.set_cons_succ, i64_w, i32_w]
           rfl
          refine done_ (done_of HT_.out (by kernel_rfl)) ?_
          have hnb30 := NB155_156.out
          have hnc30 := NB156_155.out
          have hnb31 := NB155_157.out
          have hnc31 := NB157_155.out
          have hnb32 := NB155_158.out
          have hnc32 := NB158_155.out
          have hcz33_0 : w28.cell? ⟨gb155, 0, none⟩ = some (.int .i64 t159) := (blk_cell BK155.out 0).trans rfl
          have hcz33_1 : w28.cell? ⟨gb155, 1, none⟩ = some (.int .i64 t160) := (blk_cell BK155.out 1).trans rfl
          have hcz33_2 : w28.cell? ⟨gb155, 2, none⟩ = some (.slice Ao16 t161.length co16) := (blk_cell BK155.out 2).trans rfl
          have hcz33_3 : w28.cell? ⟨gb155, 3, none⟩ = some (.int .i64 x156003_1) := (blk_cell BK155.out 3).trans rfl
          have hcz33_4 : w28.cell? ⟨gb155, 4, none⟩ = some (.slice (some ad171) x156004_1.length co29) := (blk_cell BK155.out 4).trans rfl
          have hfz33_0 := blk_frozen BK155.out 0
          have hfz33_1 := blk_frozen BK155.out 1
          have hfz33_2 := blk_frozen BK155.out 2
          have hfz33_3 := blk_frozen BK155.out 3
          have hfz33_4 := blk_frozen BK155.out 4
          have p172 : 0 ≤ (0 : Int) := (by omega)
          have q172 : 0 < (x156004_1.length : Int) := of_decide_eq_true (by first | (with_reducible assumption) | assumption)
          obtain ⟨ad172, e172, hx172_0, hx172_1, hx172_2⟩ := at_T42 (Kd.Q_reads' HO_156004.out).2.2 0 p172 q172
          obtain rfl : ad171 = ad172 := (by injection e172)
          have qi172 : (0 < x156004_1.length) = True := eq_true (by omega)
          (try rw [show ((0 : Int)).toNat = 0 from rfl] at hx172_0)
          (try rw [show 0 * 3 = 0 from rfl] at hx172_0)
          (try rw [Addr.add_zero'] at hx172_0)
          (try rw [show ((0 : Int)).toNat = 0 from rfl] at hx172_1)
          (try rw [show 0 * 3 = 0 from rfl] at hx172_1)
          (try rw [Addr.add_zero'] at hx172_1)
          (try rw [show ((0 : Int)).toNat = 0 from rfl] at hx172_2)
          (try rw [show 0 * 3 = 0 from rfl] at hx172_2)
          (try rw [Addr.add_zero'] at hx172_2)
          replace p172 := eq_true p172
          replace q172 := eq_true q172
          try go_wp2_with (first | ((with_reducible refine gate_builtin (b := .append) (xs := #[(.tmp 39), .tmp 45]) rfl ?_); at_builtin; refine Kd.R_append (Kd.int .i64) (w0 := w) w.heap.size rfl (.tmp 39) (.tmp 45) 24 3 (.int .i64 0) 8 rfl Try.underlying24 info3 rfl (by decide) (by omega) u7 x7_1 ((rd_T42 x156004_1 0).f2) [.int .i64 ((rd_T42 x156004_1 0).f2)] (fun k_ => some k_ ≠ (.slice Ao16 t161.length co16 : Value).ownBlock) (fun _ => False) rfl rfl ?aP (fun _ hk => hk.elim) ?aF ?aO ?aB ?aS ?aL ?_; (case aP => exact rfl); (case aB => exact (by repeat (first | (with_reducible first | exact HB.out | apply wA | apply wN | apply wD | refine below_set ?_ GE155.out | refine below_set ?_ GE156.out | refine below_set ?_ GE157.out | refine below_set ?_ GE158.out) | exact HB.out))); (case aF => exact (fun k_ hk => Kd.fresh' (Kd.R_lt (by (with_reducible repeat (first | apply Kd.R_alloc | apply Kd.R_drewN | apply Kd.R_drew)); exact HO_156002.out)) k_ hk)); (case aO => exact (by (with_reducible repeat (first | apply Kd.R_alloc | apply Kd.R_drewN | apply Kd.R_drew)); exact HO_7.out)); (case aS => exact (below_size (by repeat (first | (with_reducible first | exact HB.out | apply wA | apply wN | apply wD | refine below_set ?_ GE155.out | refine below_set ?_ GE156.out | refine below_set ?_ GE157.out | refine below_set ?_ GE158.out) | exact HB.out)))); (case aL => have := LMc26.out; omega); intro v174 w34 ho hb hg hat; rw [← Ny173.out] at ho; have n0_ := aM (Kd.R_after (ok := (fun _ => True)) (by (with_reducible repeat (first | apply Kd.R_alloc | apply Kd.R_drewN | apply Kd.R_drew)); exact Kd.R_mono HO_156002.out (fun _ hk => ⟨trivial, hk⟩)) hg hat); have n1_ := aM (Kd.Q_over' (by (with_reducible repeat (first | apply Kd.Q_alloc | apply Kd.Q_drewN | apply Kd.Q_drew)); exact HO_156004.out) (Kd.R_typed (by (with_reducible repeat (first | apply Kd.R_alloc | apply Kd.R_drewN | apply Kd.R_drew)); exact HO_7.out)) (by decide) hg); have n2_ := aM (blk_grown (g := gb155) (o := .cells #[.int .i64 t159, .int .i64 t160, .slice Ao16 t161.length co16, .int .i64 x156003_1, .slice (some ad171) x156004_1.length co29] 27 (0, 0)) (by (with_reducible repeat (first | refine bN ?_ _ | refine bD ?_ | refine bA ?_ _)); exact BK155.out) hg (Kd.R_ne HO_7.out BK155.out (by decide))); have n3_ := aM (blk_grown (g := gb156) (o := .cells #[.int .i64 a1_0, .int .i64 a1_1, .int .i64 a1_2] 42 (0, 0)) (by (with_reducible repeat (first | refine bN ?_ _ | refine bD ?_ | refine bA ?_ _)); exact BK156.out) hg (Kd.R_ne HO_7.out BK156.out (by decide))); have n4_ := aM (blk_grown (g := gb157) (o := .cells #[.int .i64 0, .int .i64 0, .slice none 0 0, .int .i64 0, .slice none 0 0] 27 (0, 0)) (by (with_reducible repeat (first | refine bN ?_ _ | refine bD ?_ | refine bA ?_ _)); exact BK157.out) hg (Kd.R_ne HO_7.out BK157.out (by decide))); have n5_ := aM (blk_grown (g := gb158) (o := .cells #[.int .i64 0, .int .i64 0, .int .i64 0] 42 (0, 0)) (by (with_reducible repeat (first | refine bN ?_ _ | refine bD ?_ | refine bA ?_ _)); exact BK158.out) hg (Kd.R_ne HO_7.out BK158.out (by decide))); have n6_ := aM (hb); have n7_ := aM (ho); clear HO_156002; clear HO_156004; clear BK155; clear BK156; clear BK157; clear BK158; clear HB; clear HO_7; have HO_156002 := n0_; have HO_156004 := n1_; have BK155 := n2_; have BK156 := n3_; have BK157 := n4_; have BK158 := n5_; have HB := n6_; have HO175 := n7_; clear n0_ n1_ n2_ n3_ n4_ n5_ n6_ n7_; clear ho hb hg hat; have hcz35_0 : w34.cell? ⟨gb155, 0, none⟩ = some (.int .i64 t159) := (blk_cell BK155.out 0).trans rfl; have hcz35_1 : w34.cell? ⟨gb155, 1, none⟩ = some (.int .i64 t160) := (blk_cell BK155.out 1).trans rfl; have hcz35_2 : w34.cell? ⟨gb155, 2, none⟩ = some (.slice Ao16 t161.length co16) := (blk_cell BK155.out 2).trans rfl; have hcz35_3 : w34.cell? ⟨gb155, 3, none⟩ = some (.int .i64 x156003_1) := (blk_cell BK155.out 3).trans rfl; have hcz35_4 : w34.cell? ⟨gb155, 4, none⟩ = some (.slice (some ad171) x156004_1.length co29) := (blk_cell BK155.out 4).trans rfl; have hfz35_0 := blk_frozen BK155.out 0; have hfz35_1 := blk_frozen BK155.out 1; have hfz35_2 := blk_frozen BK155.out 2; have hfz35_3 := blk_frozen BK155.out 3; have hfz35_4 := blk_frozen BK155.out 4; have q36 : (1 : Int) ≤ ((x156004_1.length : Int) : Int) := of_decide_eq_true (by first | (with_reducible assumption) | assumption); obtain ⟨i036, hi036, _, hsz36, _⟩ := info_parts info42; have hcut36 := cut_from (P := Try.prog) 25 42 .i64 Try.underlying25 hi036 3 hsz36 (some ad171) x156004_1.length co29 1 (by omega) q36; have hr36 := Kd.Q_drop (k := (1 : Int).toNat) HO_156004.out (by omega); obtain ⟨A36, hA36⟩ : ∃ A1, A1 = (if co29 = (1 : Int).toNat then (some ad171) else ((some ad171) : Option Addr).map (·.add ((1 : Int).toNat * 3))) := ⟨_, rfl⟩; obtain ⟨c36, hc36⟩ : ∃ c1, c1 = co29 - (1 : Int).toNat := ⟨_, rfl⟩; have hy36 : y176.length = x156004_1.length - (1 : Int).toNat := (by rw [Ny176.out, List.length_drop]); rw [← Ny176.out] at hr36; rw [← hy36, ← hA36, ← hc36] at hcut36; replace hr36 : Kd.Q k42 42 w34 w.heap.size (fun k_ => k_ ≠ gb156 ∧ k_ ≠ gb158) (.slice A36 y176.length c36) y176 := (by rw [hA36, hc36, hy36]; exact hr36); have HE36 : Aside0 ((Value.slice A36 y176.length c36).ownBlock = (.slice (some ad171) x156004_1.length co29 : Value).ownBlock) := ⟨by rw [hA36]; split <;> (cases ((some ad171) : Option Addr) <;> first | rfl | (simp only [Value.ownBlock, Addr.add, Option.map_some]; split <;> rfl))⟩; clear hy36 hi036 hsz36 HO_156004 hA36 hc36; have HO178 := aM hr36; clear hr36; replace q36 := eq_true q36))
          go_roundg k1
          case measure => have := HK1.out; omega
          case rel => exact ⟨(y173), (wrap64 (x156003_1 + 1)), (y176), (.slice A36 y176.length c36), H', ⟨by have := HK1.out; omega⟩, ⟨by (with_reducible repeat (first | apply Kd.R_alloc | apply Kd.R_drewN | apply Kd.R_drew)); exact Kd.R_mono (Kd.R_far (p := ⟨gb155, 3, none⟩) (Kd.R_far (p := ⟨gb155, 4, none⟩) (Kd.R_types HO175.out BK155.out (by decide)) (fun _ hk => hk.2) (.slice A36 y176.length c36)) (fun _ hk => hk.2) (.int .i64 (wrap64 (x156003_1 + 1)))) (fun _ hk => hk.1)⟩, ⟨by (with_reducible repeat (first | apply Kd.R_alloc | apply Kd.R_drewN | apply Kd.R_drew)); exact Kd.R_mono (Kd.R_far (p := ⟨gb155, 3, none⟩) (Kd.R_far (p := ⟨gb155, 4, none⟩) (Kd.R_types HO_156002.out BK155.out (by decide)) (fun _ hk => hk.2) (.slice A36 y176.length c36)) (fun _ hk => hk.2) (.int .i64 (wrap64 (x156003_1 + 1)))) (fun _ hk => hk.1.2)⟩, ⟨by (with_reducible repeat (first | apply Kd.Q_alloc | apply Kd.Q_drewN | apply Kd.Q_drew)); exact Kd.Q_mono (Kd.Q_far (p := ⟨gb155, 3, none⟩) (Kd.Q_far (p := ⟨gb155, 4, none⟩) (Kd.Q_types HO178.out BK155.out (by decide)) (fun _ hk => hk.2) (.slice A36 y176.length c36)) (fun _ hk => hk.2) (.int .i64 (wrap64 (x156003_1 + 1)))) (fun _ hk => ⟨hk.1.1, hk.1.2⟩)⟩, ⟨by (with_reducible repeat (first | refine bN ?_ _ | refine bD ?_ | refine bA ?_ _)); refine blk_put (cs := #[.int .i64 t159, .int .i64 t160, .slice Ao16 t161.length co16, .int .i64 x156003_1, .slice A36 y176.length c36]) ?_ 3 _ rfl; (with_reducible repeat (first | refine bN ?_ _ | refine bD ?_ | refine bA ?_ _)); refine blk_put (cs := #[.int .i64 t159, .int .i64 t160, .slice Ao16 t161.length co16, .int .i64 x156003_1, .slice (some ad171) x156004_1.length co29]) ?_ 4 _ rfl; (with_reducible repeat (first | refine bN ?_ _ | refine bD ?_ | refine bA ?_ _)); exact BK155.out⟩, ⟨by (with_reducible repeat (first | refine bN ?_ _ | refine bD ?_ | refine bA ?_ _)); refine blk_far ?_ NB156_155.out _; (with_reducible repeat (first | refine bN ?_ _ | refine bD ?_ | refine bA ?_ _)); refine blk_far ?_ NB156_155.out _; (with_reducible repeat (first | refine bN ?_ _ | refine bD ?_ | refine bA ?_ _)); exact BK156.out⟩, ⟨by (with_reducible repeat (first | refine bN ?_ _ | refine bD ?_ | refine bA ?_ _)); refine blk_far ?_ NB157_155.out _; (with_reducible repeat (first | refine bN ?_ _ | refine bD ?_ | refine bA ?_ _)); refine blk_far ?_ NB157_155.out _; (with_reducible repeat (first | refine bN ?_ _ | refine bD ?_ | refine bA ?_ _)); exact BK157.out⟩, ⟨by (with_reducible repeat (first | refine bN ?_ _ | refine bD ?_ | refine bA ?_ _)); refine blk_far ?_ NB158_155.out _; (with_reducible repeat (first | refine bN ?_ _ | refine bD ?_ | refine bA ?_ _)); refine blk_far ?_ NB158_155.out _; (with_reducible repeat (first | refine bN ?_ _ | refine bD ?_ | refine bA ?_ _)); exact BK158.out⟩, ⟨by repeat (first | (with_reducible first | exact HB.out | apply wA | apply wN | apply wD | refine below_set ?_ GE155.out | refine below_set ?_ GE156.out | refine below_set ?_ GE157.out | refine below_set ?_ GE158.out) | exact HB.out)⟩⟩
         ·rw [if_neg c27] at H
          exact absurd H (by simp)
        ·rw [if_neg c26] at H
         exact absurd H (by simp)
       ·rw [if_neg c25] at H
        have c25b0 : (((rd_T42 x156004_1 0).f0) == x156003_1) = false := beq_eq_false_iff_ne.mpr c25
        have c25b1 : (((rd_T42 x156004_1 0).f0) != x156003_1) = true := bne_iff_ne.mpr c25
        simp only [Option.some.injEq, Prod.mk.injEq] at H
        obtain ⟨rfl, rfl, rfl, rfl, rfl, rfl, rfl, rfl, rfl⟩ := H
        try go_wp2
        have n0_ := aM (Kd.R_drew HO_7.out)
        have n1_ := aM (Kd.R_drew HO_156002.out)
        have n2_ := aM (Kd.Q_drew HO_156004.out)
        have n3_ := aM (bD BK155.out)
        have n4_ := aM (bD BK156.out)
        have n5_ := aM (bD BK157.out)
        have n6_ := aM (bD BK158.out)
        have n7_ := aM (wD HB.out)
        clear HO_7
        clear HO_156002
        clear HO_156004
        clear BK155
        clear BK156
        clear BK157
        clear BK158
        clear HB
        have HO_7 := n0_
        have HO_156002 := n1_
        have HO_156004 := n2_
        have BK155 := n3_
        have BK156 := n4_
        have BK157 := n5_
        have BK158 := n6_
        have HB := n7_
        clear n0_ n1_ n2_ n3_ n4_ n5_ n6_ n7_
        obtain ⟨Ao38, co38, eo38, _⟩ := Kd.Q_slice HO_156004.out
        (first | subst eo38 | (injection eo38 with f1_ f2_ f3_; have f4_ := f1_.symm; have f5_ := f3_.symm; clear f1_ f2_ f3_; subst f4_; subst f5_))
        have p171 : 0 ≤ (0 : Int) := (by omega)
        have q171 : 0 < (x156004_1.length : Int) := of_decide_eq_true (by first | (with_reducible assumption) | assumption)
        obtain ⟨ad171, e171, hx171_0, hx171_1, hx171_2⟩ := at_T42 (Kd.Q_reads' HO_156004.out).2.2 0 p171 q171
        cases e171
        have qi171 : (0 < x156004_1.length) = True := eq_true (by omega)
        (try rw [show ((0 : Int)).toNat = 0 from rfl] at hx171_0)
        (try rw [show 0 * 3 = 0 from rfl] at hx171_0)
        (try rw [Addr.add_zero'] at hx171_0)
        (try rw [show ((0 : Int)).toNat = 0 from rfl] at hx171_1)
        (try rw [show 0 * 3 = 0 from rfl] at hx171_1)
        (try rw [Addr.add_zero'] at hx171_1)
        (try rw [show ((0 : Int)).toNat = 0 from rfl] at hx171_2)
        (try rw [show 0 * 3 = 0 from rfl] at hx171_2)
        (try rw [Addr.add_zero'] at hx171_2)
        replace p171 := eq_true p171
        replace q171 := eq_true q171
        refine start_ (n := 14) (S := fun w' => w'.cell? ⟨gb155, 0, none⟩ = some (.int .i64 t159) ∧ w'.cell? ⟨gb155, 1, none⟩ = some (.int .i64 t160) ∧ w'.cell? ⟨gb155, 2, none⟩ = some (.slice Ao16 t161.length co16) ∧ w'.cell? ⟨gb155, 3, none⟩ = some (.int .i64 x156003_1) ∧ w'.cell? ⟨gb155, 4, none⟩ = some (.slice (some ad171) x156004_1.length co38) ∧ w'.cell? ad171 = some (.int .i64 ((rd_T42 x156004_1 0).f0)) ∧ w'.cell? ⟨ad171.block, ad171.off + 1, none⟩ = some (.int .i64 ((rd_T42 x156004_1 0).f1)) ∧ w'.cell? ⟨ad171.block, ad171.off + 2, none⟩ = some (.int .i64 ((rd_T42 x156004_1 0).f2))) (ds := []) #[false, false, false, false, false, false, false, false, false, false, false, false, false, false] (by kernel_rfl) rfl rfl ⟨(blk_cell BK155.out 0).trans rfl, (blk_cell BK155.out 1).trans rfl, (blk_cell BK155.out 2).trans rfl, (blk_cell BK155.out 3).trans rfl, (blk_cell BK155.out 4).trans rfl, hx171_0, hx171_1, hx171_2⟩ (fun hHeld => ?_); refine with_tabW link_Arrive.tab6 link_Arrive.bits6 (fun HT_ HW_ => ?_)
        generalize wr.drew = w37 at HO_7 HO_156002 HO_156004 BK155 BK156 BK157 BK158 HB hx171_0 hx171_1 hx171_2 hHeld ⊢
        refine pure_ (i := 0) (N := some 25) (v := ?_) (a' := ?_) #[true, false, false, false, false, false, false, false, false, false, false, false, false, false] rfl rfl (any_of HT_.out (by kernel_rfl)) (fun _ _ _ h => h) (Or.inl ⟨by rfl, ?_⟩) ?_ ?_
        rotate_left
        ·intro w'
         go_simp
         with_reducible rfl
        rotate_left
        ·simp only [Act.put, List.setIfInBounds_toArray, List.set_cons_zero, List.set_cons_succ, i64_w, i32_w]
         rfl
        refine take_ (i := 1) (N := some 26) (v := ?_) (a' := ?_) #[true, true, false, false, false, false, false, false, false, false, false, false, false, false] rfl rfl (take_ofW HT_.out HW_.out (by kernel_rfl)) (fun _ _ _ h => h) (Or.inl ⟨by rfl, ?_⟩) hHeld ?_ ?_
        rotate_left
        ·rintro w' ⟨s0, s1, s2, s3, s4, s5, s6, s7⟩
         go_simp
         with_reducible rfl
        rotate_left
        ·simp only [Act.put, List.setIfInBounds_toArray, List.set_cons_zero, List.set_cons_succ, i64_w, i32_w]
         rfl
        refine pure_ (i := 2) (N := some 27) (v := ?_) (a' := ?_) #[true, true, true, false, false, false, false, false, false, false, false, false, false, false] rfl rfl (any_of HT_.out (by kernel_rfl)) (fun _ _ _ h => h) (Or.inl ⟨by rfl, ?_⟩) ?_ ?_
        rotate_left
        ·intro w'
         go_simp
         with_reducible rfl
        rotate_left
        ·simp only [Act.put, List.setIfInBounds_toArray, List.set_cons_zero, List.set_cons_succ, i64_w, i32_w]
         rfl
        refine pure_ (i := 3) (N := some 28) (v := ?_) (a' := ?_) #[true, true, true, true, false, false, false, false, false, false, false, false, false, false] rfl rfl (any_of HT_.out (by kernel_rfl)) (fun _ _ _ h => h) (Or.inl ⟨by rfl, ?_⟩) ?_ ?_
        rotate_left
        ·intro w'
         go_simp
         with_reducible rfl
        rotate_left
        ·simp only [Act.put, List.setIfInBounds_toArray, List.set_cons_zero, List.set_cons_succ, i64_w, i32_w]
         rfl
        refine pure_ (i := 4) (N := some 29) (v := ?_) (a' := ?_) #[true, true, true, true, true, false, false, false, false, false, false, false, false, false] rfl rfl (any_of HT_.out (by kernel_rfl)) (fun _ _ _ h => h) (Or.inl ⟨by rfl, ?_⟩) ?_ ?_
        rotate_left
        ·intro w'
         go_simp
         with_reducible rfl
        rotate_left
        ·simp only [Act.put, List.setIfInBounds_toArray, List.set_cons_zero, List.set_cons_succ, i64_w, i32_w]
         rfl
        refine pure_ (i := 5) (N := some 30) (v := ?_) (a' := ?_) #[true, true, true, true, true, true, false, false, false, false, false, false, false, false] rfl rfl (any_of HT_.out (by kernel_rfl)) (fun _ _ _ h => h) (Or.inl ⟨by rfl, ?_⟩) ?_ ?_
        rotate_left
        ·intro w'
         go_simp
         with_reducible rfl
        rotate_left
        ·simp only [Act.put, List.setIfInBounds_toArray, List.set_cons_zero, List.set_cons_succ, i64_w, i32_w]
         rfl
        refine pure_ (i := 10) (N := some 35) (v := ?_) (a' := ?_) #[true, true, true, true, true, true, false, false, false, false, true, false, false, false] rfl rfl (any_of HT_.out (by kernel_rfl)) (fun _ _ _ h => h) (Or.inl ⟨by rfl, ?_⟩) ?_ ?_
        rotate_left
        ·intro w'
         go_simp
         with_reducible rfl
        rotate_left
        ·simp only [Act.put, List.setIfInBounds_toArray, List.set_cons_zero, List.set_cons_succ, i64_w, i32_w]
         rfl
        refine take_ (i := 6) (N := some 31) (v := ?_) (a' := ?_) #[true, true, true, true, true, true, true, false, false, false, true, false, false, false] rfl rfl (take_ofW HT_.out HW_.out (by kernel_rfl)) (fun _ _ _ h => h) (Or.inl ⟨by rfl, ?_⟩) hHeld ?_ ?_
        rotate_left
        ·rintro w' ⟨s0, s1, s2, s3, s4, s5, s6, s7⟩
         go_simp
         with_reducible rfl
        rotate_left
        ·simp only [Act.put, List.setIfInBounds_toArray, List.set_cons_zero, List.set_cons_succ, i64_w, i32_w]
         rfl
        refine pure_ (i := 7) (N := some 32) (v := ?_) (a' := ?_) #[true, true, true, true, true, true, true, true, false, false, true, false, false, false] rfl rfl (any_of HT_.out (by kernel_rfl)) (fun _ _ _ h => h) (Or.inl ⟨by rfl, ?_⟩) ?_ ?_
        rotate_left
        ·intro w'
         go_simp
         with_reducible rfl
        rotate_left
        ·simp only [Act.put, List.setIfInBounds_toArray, List.set_cons_zero, List.set_cons_succ, i64_w, i32_w]
         rfl
        refine pure_ (i := 8) (N := some 33) (v := ?_) (a' := ?_) #[true, true, true, true, true, true, true, true, true, false, true, false, false, false] rfl rfl (any_of HT_.out (by kernel_rfl)) (fun _ _ _ h => h) (Or.inl ⟨by rfl, ?_⟩) ?_ ?_
        rotate_left
        ·intro w'
         go_simp
         with_reducible rfl
        rotate_left
        ·simp only [Act.put, List.setIfInBounds_toArray, List.set_cons_zero, List.set_cons_succ, i64_w, i32_w]
         rfl
        refine take_ (i := 9) (N := some 34) (v := ?_) (a' := ?_) #[true, true, true, true, true, true, true, true, true, true, true, false, false, false] rfl rfl (take_ofW HT_.out HW_.out (by kernel_rfl)) (fun _ _ _ h => h) (Or.inl ⟨by rfl, ?_⟩) hHeld ?_ ?_
        rotate_left
        ·rintro w' ⟨s0, s1, s2, s3, s4, s5, s6, s7⟩
         go_simp
         with_reducible rfl
        rotate_left
        ·simp only [Act.put, List.setIfInBounds_toArray, List.set_cons_zero, List.set_cons_succ, i64_w, i32_w]
         rfl
        refine take_ (i := 11) (N := some 36) (v := ?_) (a' := ?_) #[true, true, true, true, true, true, true, true, true, true, true, true, false, false] rfl rfl (take_ofW HT_.out HW_.out (by kernel_rfl)) (fun _ _ _ h => h) (Or.inl ⟨by rfl, ?_⟩) hHeld ?_ ?_
        rotate_left
        ·rintro w' ⟨s0, s1, s2, s3, s4, s5, s6, s7⟩
         go_simp
         with_reducible rfl
        rotate_left
        ·simp only [Act.put, List.setIfInBounds_toArray, List.set_cons_zero, List.set_cons_succ, i64_w, i32_w]
         rfl
        refine pure_ (i := 12) (N := some 37) (v := ?_) (a' := ?_) #[true, true, true, true, true, true, true, true, true, true, true, true, true, false] rfl rfl (any_of HT_.out (by kernel_rfl)) (fun _ _ _ h => h) (Or.inl ⟨by rfl, ?_⟩) ?_ ?_
        rotate_left
        ·intro w'
         go_simp
         with_reducible rfl
        rotate_left
        ·simp only [Act.put, List.setIfInBounds_toArray, List.set_cons_zero, List.set_cons_succ, i64_w, i32_w]
         rfl
        refine pure_ (i := 13) (N := some 38) (v := ?_) (a' := ?_) #[true, true, true, true, true, true, true, true, true, true, true, true, true, true] rfl rfl (any_of HT_.out (by kernel_rfl)) (fun _ _ _ h => h) (Or.inl ⟨by rfl, ?_⟩) ?_ ?_
        rotate_left
        ·intro w'
         go_simp
         with_reducible rfl
        rotate_left
        ·simp only [Act.put, List.setIfInBounds_toArray, List.set_cons_zero, List.set_cons_succ, i64_w, i32_w]
         rfl
        refine done_ (done_of HT_.out (by kernel_rfl)) ?_
        try go_wp2
        have n0_ := aM (Kd.R_drew HO_7.out)
        have n1_ := aM (Kd.R_drew HO_156002.out)
        have n2_ := aM (Kd.Q_drew HO_156004.out)
        have n3_ := aM (bD BK155.out)
        have n4_ := aM (bD BK156.out)
        have n5_ := aM (bD BK157.out)
        have n6_ := aM (bD BK158.out)
        have n7_ := aM (wD HB.out)
        clear HO_7
        clear HO_156002
        clear HO_156004
        clear BK155
        clear BK156
        clear BK157
        clear BK158
        clear HB
        have HO_7 := n0_
        have HO_156002 := n1_
        have HO_156004 := n2_
        have BK155 := n3_
        have BK156 := n4_
        have BK157 := n5_
        have BK158 := n6_
        have HB := n7_
        clear n0_ n1_ n2_ n3_ n4_ n5_ n6_ n7_
        refine start_ (n := 9) (S := fun w' => w'.cell? ⟨gb155, 0, none⟩ = some (.int .i64 t159) ∧ w'.cell? ⟨gb155, 1, none⟩ = some (.int .i64 t160) ∧ w'.cell? ⟨gb155, 2, none⟩ = some (.slice Ao16 t161.length co16) ∧ w'.cell? ⟨gb155, 3, none⟩ = some (.int .i64 x156003_1) ∧ w'.cell? ⟨gb155, 4, none⟩ = some (.slice (some ad171) x156004_1.length co38)) (ds := []) #[false, false, false, false, false, false, false, false, false] (by kernel_rfl) rfl rfl ⟨(blk_cell BK155.out 0).trans rfl, (blk_cell BK155.out 1).trans rfl, (blk_cell BK155.out 2).trans rfl, (blk_cell BK155.out 3).trans rfl, (blk_cell BK155.out 4).trans rfl⟩ (fun hHeld => ?_); refine with_tabW link_Arrive.tab12 link_Arrive.bits12 (fun HT_ HW_ => ?_)
        generalize w37.drew = w39 at HO_7 HO_156002 HO_156004 BK155 BK156 BK157 BK158 HB hHeld ⊢
        refine pure_ (i := 1) (N := some 81) (v := ?_) (a' := ?_) #[false, true, false, false, false, false, false, false, false] rfl rfl (any_of HT_.out (by kernel_rfl)) (fun _ _ _ h => h) (Or.inl ⟨by rfl, ?_⟩) ?_ ?_
        rotate_left
        ·intro w'
         go_simp
         with_reducible rfl
        rotate_left
        ·simp only [Act.put, List.setIfInBounds_toArray, List.set_cons_zero, List.set_cons_succ, i64_w, i32_w]
         rfl
        refine pure_ (i := 2) (N := some 82) (v := ?_) (a' := ?_) #[false, true, true, false, false, false, false, false, false] rfl rfl (any_of HT_.out (by kernel_rfl)) (fun _ _ _ h => h) (Or.inl ⟨by rfl, ?_⟩) ?_ ?_
        rotate_left
        ·intro w'
         go_simp
         with_reducible rfl
        rotate_left
        ·simp only [Act.put, List.setIfInBounds_toArray, List.set_cons_zero, List.set_cons_succ, i64_w, i32_w]
         rfl
        refine take_ (i := 0) (N := some 80) (v := ?_) (a' := ?_) #[true, true, true, false, false, false, false, false, false] rfl rfl (take_ofW HT_.out HW_.out (by kernel_rfl)) (fun _ _ _ h => h) (Or.inl ⟨by rfl, ?_⟩) hHeld ?_ ?_
        rotate_left
        ·rintro w' ⟨s0, s1, s2, s3, s4⟩
         go_simp
         with_reducible rfl
        rotate_left
        ·simp only [Act.put, List.setIfInBounds_toArray, List.set_cons_zero, List.set_cons_succ, i64_w, i32_w]
         rfl
        refine take_ (i := 3) (N := some 83) (v := ?_) (a' := ?_) #[true, true, true, true, false, false, false, false, false] rfl rfl (take_ofW HT_.out HW_.out (by kernel_rfl)) (fun _ _ _ h => h) (Or.inl ⟨by rfl, ?_⟩) hHeld ?_ ?_
        rotate_left
        ·rintro w' ⟨s0, s1, s2, s3, s4⟩
         go_simp
         with_reducible rfl
        rotate_left
        ·simp only [Act.put, List.setIfInBounds_toArray, List.set_cons_zero, List.set_cons_succ, i64_w, i32_w]
         rfl
        refine pure_ (i := 4) (N := some 84) (v := ?_) (a' := ?_) #[true, true, true, true, true, false, false, false, false] rfl rfl (any_of HT_.out (by kernel_rfl)) (fun _ _ _ h => h) (Or.inl ⟨by rfl, ?_⟩) ?_ ?_
        rotate_left
        ·intro w'
         go_simp
         with_reducible rfl
        rotate_left
        ·simp only [Act.put, List.setIfInBounds_toArray, List.set_cons_zero, List.set_cons_succ, i64_w, i32_w]
         rfl
        refine pure_ (i := 5) (N := some 85) (v := ?_) (a' := ?_) #[true, true, true, true, true, true, false, false, false] rfl rfl (any_of HT_.out (by kernel_rfl)) (fun _ _ _ h => h) (Or.inl ⟨by rfl, ?_⟩) ?_ ?_
        rotate_left
        ·intro w'
         go_simp
         with_reducible rfl
        rotate_left
        ·simp only [Act.put, List.setIfInBounds_toArray, List.set_cons_zero, List.set_cons_succ, i64_w, i32_w]
         rfl
        refine one_ (i := 6) (N := none) #[true, true, true, true, true, true, true, false, false] rfl rfl (one_of HT_.out (by kernel_rfl)) (by decide) (fun K hK => ?_)
        have hs40 : w39.cell? ⟨gb157, 0, none⟩ = some (.int .i64 0) := (blk_cell BK157.out 0).trans rfl
        have hfs40 := blk_frozen BK157.out 0
        have hns40_0 := NB155_157.out
        have hns40_1 := NB156_157.out
        have hns40_3 := NB158_157.out
        have hms40_0 := NB157_155.out
        have hms40_1 := NB157_156.out
        have hms40_3 := NB157_158.out
        have hs41 : w39.cell? ⟨gb157, 1, none⟩ = some (.int .i64 0) := (blk_cell BK157.out 1).trans rfl
        have hfs41 := blk_frozen BK157.out 1
        have hns41_0 := NB155_157.out
        have hns41_1 := NB156_157.out
        have hns41_3 := NB158_157.out
        have hms41_0 := NB157_155.out
        have hms41_1 := NB157_156.out
        have hms41_3 := NB157_158.out
        have hs42 : w39.cell? ⟨gb157, 2, none⟩ = some (.slice none 0 0) := (blk_cell BK157.out 2).trans rfl
        have hfs42 := blk_frozen BK157.out 2
        have hns42_0 := NB155_157.out
        have hns42_1 := NB156_157.out
        have hns42_3 := NB158_157.out
        have hms42_0 := NB157_155.out
        have hms42_1 := NB157_156.out
        have hms42_3 := NB157_158.out
        have hs43 : w39.cell? ⟨gb157, 3, none⟩ = some (.int .i64 0) := (blk_cell BK157.out 3).trans rfl
        have hfs43 := blk_frozen BK157.out 3
        have hns43_0 := NB155_157.out
        have hns43_1 := NB156_157.out
        have hns43_3 := NB158_157.out
        have hms43_0 := NB157_155.out
        have hms43_1 := NB157_156.out
        have hms43_3 := NB157_158.out
        have hs44 : w39.cell? ⟨gb157, 4, none⟩ = some (.slice none 0 0) := (blk_cell BK157.out 4).trans rfl
        have hfs44 := blk_frozen BK157.out 4
        have hns44_0 := NB155_157.out
        have hns44_1 := NB156_157.out
        have hns44_3 := NB158_157.out
        have hms44_0 := NB157_155.out
        have hms44_1 := NB157_156.out
        have hms44_3 := NB157_158.out
        refine skip_ (w1 := ?_) (by rfl) rfl ?_ ?_
        rotate_left
        ·go_simp
         rfl
        refine hK.out _ _ ⟨((cell_far (p := ⟨gb157, _, none⟩) NB155_157.out _).trans (((cell_far (p := ⟨gb157, _, none⟩) NB155_157.out _).trans (((cell_far (p := ⟨gb157, _, none⟩) NB155_157.out _).trans (((cell_far (p := ⟨gb157, _, none⟩) NB155_157.out _).trans (((cell_far (p := ⟨gb157, _, none⟩) NB155_157.out _).trans (hHeld.1)))))))))), ((cell_far (p := ⟨gb157, _, none⟩) NB155_157.out _).trans (((cell_far (p := ⟨gb157, _, none⟩) NB155_157.out _).trans (((cell_far (p := ⟨gb157, _, none⟩) NB155_157.out _).trans (((cell_far (p := ⟨gb157, _, none⟩) NB155_157.out _).trans (((cell_far (p := ⟨gb157, _, none⟩) NB155_157.out _).trans (hHeld.2.1)))))))))), ((cell_far (p := ⟨gb157, _, none⟩) NB155_157.out _).trans (((cell_far (p := ⟨gb157, _, none⟩) NB155_157.out _).trans (((cell_far (p := ⟨gb157, _, none⟩) NB155_157.out _).trans (((cell_far (p := ⟨gb157, _, none⟩) NB155_157.out _).trans (((cell_far (p := ⟨gb157, _, none⟩) NB155_157.out _).trans (hHeld.2.2.1)))))))))), ((cell_far (p := ⟨gb157, _, none⟩) NB155_157.out _).trans (((cell_far (p := ⟨gb157, _, none⟩) NB155_157.out _).trans (((cell_far (p := ⟨gb157, _, none⟩) NB155_157.out _).trans (((cell_far (p := ⟨gb157, _, none⟩) NB155_157.out _).trans (((cell_far (p := ⟨gb157, _, none⟩) NB155_157.out _).trans (hHeld.2.2.2.1)))))))))), ((cell_far (p := ⟨gb157, _, none⟩) NB155_157.out _).trans (((cell_far (p := ⟨gb157, _, none⟩) NB155_157.out _).trans (((cell_far (p := ⟨gb157, _, none⟩) NB155_157.out _).trans (((cell_far (p := ⟨gb157, _, none⟩) NB155_157.out _).trans (((cell_far (p := ⟨gb157, _, none⟩) NB155_157.out _).trans (hHeld.2.2.2.2))))))))))⟩ (fun hHeld => ?_)
        clear hK K
        refine pure_ (i := 7) (N := some 5) (v := ?_) (a' := ?_) #[true, true, true, true, true, true, true, true, false] rfl rfl (any_of HT_.out (by kernel_rfl)) (fun _ _ _ h => h) (Or.inl ⟨by rfl, ?_⟩) ?_ ?_
        rotate_left
        ·intro w'
         go_simp
         with_reducible rfl
        rotate_left
        ·simp only [Act.put, List.setIfInBounds_toArray, List.set_cons_zero, List.set_cons_succ, i64_w, i32_w]
         rfl
        refine one_ (i := 8) (N := none) #[true, true, true, true, true, true, true, true, true] rfl rfl (one_of HT_.out (by kernel_rfl)) (by decide) (fun K hK => ?_)
        have hs45 : w39.cell? ⟨gb158, 0, none⟩ = some (.int .i64 0) := (blk_cell BK158.out 0).trans rfl
        have hfs45 := blk_frozen BK158.out 0
        have hns45_0 := NB155_158.out
        have hns45_1 := NB156_158.out
        have hns45_2 := NB157_158.out
        have hms45_0 := NB158_155.out
        have hms45_1 := NB158_156.out
        have hms45_2 := NB158_157.out
        have hs46 : w39.cell? ⟨gb158, 1, none⟩ = some (.int .i64 0) := (blk_cell BK158.out 1).trans rfl
        have hfs46 := blk_frozen BK158.out 1
        have hns46_0 := NB155_158.out
        have hns46_1 := NB156_158.out
        have hns46_2 := NB157_158.out
        have hms46_0 := NB158_155.out
        have hms46_1 := NB158_156.out
        have hms46_2 := NB158_157.out
        have hs47 : w39.cell? ⟨gb158, 2, none⟩ = some (.int .i64 0) := (blk_cell BK158.out 2).trans rfl
        have hfs47 := blk_frozen BK158.out 2
        have hns47_0 := NB155_158.out
        have hns47_1 := NB156_158.out
        have hns47_2 := NB157_158.out
        have hms47_0 := NB158_155.out
        have hms47_1 := NB158_156.out
        have hms47_2 := NB158_157.out
        refine skip_ (w1 := ?_) (by rfl) rfl ?_ ?_
        rotate_left
        ·go_simp
         rfl
        refine hK.out _ _ ⟨((cell_far (p := ⟨gb158, _, none⟩) NB155_158.out _).trans (((cell_far (p := ⟨gb158, _, none⟩) NB155_158.out _).trans (((cell_far (p := ⟨gb158, _, none⟩) NB155_158.out _).trans (hHeld.1)))))), ((cell_far (p := ⟨gb158, _, none⟩) NB155_158.out _).trans (((cell_far (p := ⟨gb158, _, none⟩) NB155_158.out _).trans (((cell_far (p := ⟨gb158, _, none⟩) NB155_158.out _).trans (hHeld.2.1)))))), ((cell_far (p := ⟨gb158, _, none⟩) NB155_158.out _).trans (((cell_far (p := ⟨gb158, _, none⟩) NB155_158.out _).trans (((cell_far (p := ⟨gb158, _, none⟩) NB155_158.out _).trans (hHeld.2.2.1)))))), ((cell_far (p := ⟨gb158, _, none⟩) NB155_158.out _).trans (((cell_far (p := ⟨gb158, _, none⟩) NB155_158.out _).trans (((cell_far (p := ⟨gb158, _, none⟩) NB155_158.out _).trans (hHeld.2.2.2.1)))))), ((cell_far (p := ⟨gb158, _, none⟩) NB155_158.out _).trans (((cell_far (p := ⟨gb158, _, none⟩) NB155_158.out _).trans (((cell_far (p := ⟨gb158, _, none⟩) NB155_158.out _).trans (hHeld.2.2.2.2))))))⟩ (fun hHeld => ?_)
        clear hK K
        refine done_ (done_of HT_.out (by kernel_rfl)) ?_
        try go_wp2
        refine bodyPost_ret (results_list (rs := [.cell 4 27, .tmp 5, .cell 6 42]) rfl (by simp) (.cell gb157 27 #[.int .i64 t159, .int .i64 t160, .slice Ao16 t161.length co16, .int .i64 x156003_1, .slice (some ad171) x156004_1.length co38] (0, 0) _ rfl (by (with_reducible repeat (first | refine bN ?_ _ | refine bD ?_ | refine bA ?_ _)); refine blk_far ?_ NB157_158.out _; (with_reducible repeat (first | refine bN ?_ _ | refine bD ?_ | refine bA ?_ _)); refine blk_far ?_ NB157_158.out _; (with_reducible repeat (first | refine bN ?_ _ | refine bD ?_ | refine bA ?_ _)); refine blk_far ?_ NB157_158.out _; (with_reducible repeat (first | refine bN ?_ _ | refine bD ?_ | refine bA ?_ _)); refine blk_put (cs := #[.int .i64 t159, .int .i64 t160, .slice Ao16 t161.length co16, .int .i64 x156003_1, .slice none 0 0]) ?_ 4 _ rfl; (with_reducible repeat (first | refine bN ?_ _ | refine bD ?_ | refine bA ?_ _)); refine blk_put (cs := #[.int .i64 t159, .int .i64 t160, .slice Ao16 t161.length co16, .int .i64 0, .slice none 0 0]) ?_ 3 _ rfl; (with_reducible repeat (first | refine bN ?_ _ | refine bD ?_ | refine bA ?_ _)); refine blk_put (cs := #[.int .i64 t159, .int .i64 t160, .slice none 0 0, .int .i64 0, .slice none 0 0]) ?_ 2 _ rfl; (with_reducible repeat (first | refine bN ?_ _ | refine bD ?_ | refine bA ?_ _)); refine blk_put (cs := #[.int .i64 t159, .int .i64 0, .slice none 0 0, .int .i64 0, .slice none 0 0]) ?_ 1 _ rfl; (with_reducible repeat (first | refine bN ?_ _ | refine bD ?_ | refine bA ?_ _)); refine blk_put (cs := #[.int .i64 0, .int .i64 0, .slice none 0 0, .int .i64 0, .slice none 0 0]) ?_ 0 _ rfl; (with_reducible repeat (first | refine bN ?_ _ | refine bD ?_ | refine bA ?_ _)); exact BK157.out) Try.underlying27 rfl (by kernel_rfl) (.tmp (.cell gb158 42 #[.int .i64 0, .int .i64 (wrap64 (x156003_1 - 1)), .int .i64 0] (0, 0) _ rfl (by (with_reducible repeat (first | refine bN ?_ _ | refine bD ?_ | refine bA ?_ _)); refine blk_put (cs := #[.int .i64 0, .int .i64 (wrap64 (x156003_1 - 1)), .int .i64 0]) ?_ 2 _ rfl; (with_reducible repeat (first | refine bN ?_ _ | refine bD ?_ | refine bA ?_ _)); refine blk_put (cs := #[.int .i64 0, .int .i64 0, .int .i64 0]) ?_ 1 _ rfl; (with_reducible repeat (first | refine bN ?_ _ | refine bD ?_ | refine bA ?_ _)); refine blk_put (cs := #[.int .i64 0, .int .i64 0, .int .i64 0]) ?_ 0 _ rfl; (with_reducible repeat (first | refine bN ?_ _ | refine bD ?_ | refine bA ?_ _)); refine blk_far ?_ NB158_157.out _; (with_reducible repeat (first | refine bN ?_ _ | refine bD ?_ | refine bA ?_ _)); refine blk_far ?_ NB158_157.out _; (with_reducible repeat (first | refine bN ?_ _ | refine bD ?_ | refine bA ?_ _)); refine blk_far ?_ NB158_157.out _; (with_reducible repeat (first | refine bN ?_ _ | refine bD ?_ | refine bA ?_ _)); refine blk_far ?_ NB158_157.out _; (with_reducible repeat (first | refine bN ?_ _ | refine bD ?_ | refine bA ?_ _)); refine blk_far ?_ NB158_157.out _; (with_reducible repeat (first | refine bN ?_ _ | refine bD ?_ | refine bA ?_ _)); exact BK158.out) Try.underlying42 rfl (by kernel_rfl) .nil)))) rfl ?_
        exact ⟨_, _, _, by first | rfl | (simp [errW_none, errW_some] <;> rfl) | (simp [*, errW_none, errW_some] <;> rfl), by (with_reducible repeat (first | apply Kd.R_alloc | apply Kd.R_drewN | apply Kd.R_drew)); exact Kd.R_mono (Kd.R_far (p := ⟨gb158, 2, none⟩) (Kd.R_far (p := ⟨gb158, 1, none⟩) (Kd.R_far (p := ⟨gb158, 0, none⟩) (Kd.R_far (p := ⟨gb157, 4, none⟩) (Kd.R_far (p := ⟨gb157, 3, none⟩) (Kd.R_far (p := ⟨gb157, 2, none⟩) (Kd.R_far (p := ⟨gb157, 1, none⟩) (Kd.R_far (p := ⟨gb157, 0, none⟩) (Kd.R_types (Kd.R_types HO_156002.out BK157.out (by decide)) BK158.out (by decide)) (fun _ hk => hk.1.2) (.int .i64 t159)) (fun _ hk => hk.1.2) (.int .i64 t160)) (fun _ hk => hk.1.2) (.slice Ao16 t161.length co16)) (fun _ hk => hk.1.2) (.int .i64 x156003_1)) (fun _ hk => hk.1.2) (.slice (some ad171) x156004_1.length co38)) (fun _ hk => hk.2) (.int .i64 0)) (fun _ hk => hk.2) (.int .i64 (wrap64 (x156003_1 - 1)))) (fun _ hk => hk.2) (.int .i64 0)) (fun _ hk => hk.1.1), by (with_reducible repeat (first | apply Kd.Q_alloc | apply Kd.Q_drewN | apply Kd.Q_drew)); exact Kd.Q_mono (Kd.Q_far (p := ⟨gb158, 2, none⟩) (Kd.Q_far (p := ⟨gb158, 1, none⟩) (Kd.Q_far (p := ⟨gb158, 0, none⟩) (Kd.Q_far (p := ⟨gb157, 4, none⟩) (Kd.Q_far (p := ⟨gb157, 3, none⟩) (Kd.Q_far (p := ⟨gb157, 2, none⟩) (Kd.Q_far (p := ⟨gb157, 1, none⟩) (Kd.Q_far (p := ⟨gb157, 0, none⟩) (Kd.Q_mono (Kd.Q_types HO_156004.out BK157.out (by decide)) (fun k_ hk => (⟨hk, hk.1.2⟩ : _ ∧ k_ ≠ gb158))) (fun _ hk => hk.1.2) (.int .i64 t159)) (fun _ hk => hk.1.2) (.int .i64 t160)) (fun _ hk => hk.1.2) (.slice Ao16 t161.length co16)) (fun _ hk => hk.1.2) (.int .i64 x156003_1)) (fun _ hk => hk.1.2) (.slice (some ad171) x156004_1.length co38)) (fun _ hk => hk.2) (.int .i64 0)) (fun _ hk => hk.2) (.int .i64 (wrap64 (x156003_1 - 1)))) (fun _ hk => hk.2) (.int .i64 0)) (fun _ hk => trivial), by (with_reducible repeat (first | apply Kd.R_alloc | apply Kd.R_drewN | apply Kd.R_drew)); exact Kd.R_mono (Kd.R_far (p := ⟨gb158, 2, none⟩) (Kd.R_far (p := ⟨gb158, 1, none⟩) (Kd.R_far (p := ⟨gb158, 0, none⟩) (Kd.R_far (p := ⟨gb157, 4, none⟩) (Kd.R_far (p := ⟨gb157, 3, none⟩) (Kd.R_far (p := ⟨gb157, 2, none⟩) (Kd.R_far (p := ⟨gb157, 1, none⟩) (Kd.R_far (p := ⟨gb157, 0, none⟩) (Kd.R_types (Kd.R_types HO_7.out BK157.out (by decide)) BK158.out (by decide)) (fun _ hk => hk.1.2) (.int .i64 t159)) (fun _ hk => hk.1.2) (.int .i64 t160)) (fun _ hk => hk.1.2) (.slice Ao16 t161.length co16)) (fun _ hk => hk.1.2) (.int .i64 x156003_1)) (fun _ hk => hk.1.2) (.slice (some ad171) x156004_1.length co38)) (fun _ hk => hk.2) (.int .i64 0)) (fun _ hk => hk.2) (.int .i64 (wrap64 (x156003_1 - 1)))) (fun _ hk => hk.2) (.int .i64 0)) (fun _ hk => hk.1.1), by repeat (first | (with_reducible first | exact HB.out | apply wA | apply wN | apply wD | refine below_set ?_ GE155.out | refine below_set ?_ GE156.out | refine below_set ?_ GE157.out | refine below_set ?_ GE158.out) | exact HB.out)⟩
      ·rw [if_neg c24] at H
       exact absurd H (by simp)
     ·rw [if_neg c23] at H
      have c23b0 : decide (0 < (x156004_1.length : Int)) = false := decide_eq_false c23
      have c23b1 : decide (0 < x156004_1.length) = false := decide_eq_false (by omega)
      clear c23
      simp only [Option.some.injEq, Prod.mk.injEq] at H
      obtain ⟨rfl, rfl, rfl, rfl, rfl, rfl, rfl, rfl, rfl⟩ := H
      try go_wp2
      have n0_ := aM (Kd.R_drew HO_7.out)
      have n1_ := aM (Kd.R_drew HO_156002.out)
      have n2_ := aM (Kd.Q_drew HO_156004.out)
      have n3_ := aM (bD BK155.out)
      have n4_ := aM (bD BK156.out)
      have n5_ := aM (bD BK157.out)
      have n6_ := aM (bD BK158.out)
      have n7_ := aM (wD HB.out)
      clear HO_7
      clear HO_156002
      clear HO_156004
      clear BK155
      clear BK156
      clear BK157
      clear BK158
      clear HB
      have HO_7 := n0_
      have HO_156002 := n1_
      have HO_156004 := n2_
      have BK155 := n3_
      have BK156 := n4_
      have BK157 := n5_
      have BK158 := n6_
      have HB := n7_
      clear n0_ n1_ n2_ n3_ n4_ n5_ n6_ n7_
      obtain ⟨Ao49, co49, eo49, _⟩ := Kd.Q_slice HO_156004.out
      (first | subst eo49 | (injection eo49 with f1_ f2_ f3_; have f4_ := f1_.symm; have f5_ := f3_.symm; clear f1_ f2_ f3_; subst f4_; subst f5_))
      refine start_ (n := 14) (S := fun w' => w'.cell? ⟨gb155, 0, none⟩ = some (.int .i64 t159) ∧ w'.cell? ⟨gb155, 1, none⟩ = some (.int .i64 t160) ∧ w'.cell? ⟨gb155, 2, none⟩ = some (.slice Ao16 t161.length co16) ∧ w'.cell? ⟨gb155, 3, none⟩ = some (.int .i64 x156003_1) ∧ w'.cell? ⟨gb155, 4, none⟩ = some (.slice Ao49 x156004_1.length co49)) (ds := []) #[false, false, false, false, false, false, false, false, false, false, false, false, false, false] (by kernel_rfl) rfl rfl ⟨(blk_cell BK155.out 0).trans rfl, (blk_cell BK155.out 1).trans rfl, (blk_cell BK155.out 2).trans rfl, (blk_cell BK155.out 3).trans rfl, (blk_cell BK155.out 4).trans rfl⟩ (fun hHeld => ?_); refine with_tabW link_Arrive.tab6 link_Arrive.bits6 (fun HT_ HW_ => ?_)
      generalize wr.drew = w48 at HO_7 HO_156002 HO_156004 BK155 BK156 BK157 BK158 HB hHeld ⊢
      refine pure_ (i := 0) (N := some 25) (v := ?_) (a' := ?_) #[true, false, false, false, false, false, false, false, false, false, false, false, false, false] rfl rfl (any_of HT_.out (by kernel_rfl)) (fun _ _ _ h => h) (Or.inl ⟨by rfl, ?_⟩) ?_ ?_
      rotate_left
      ·intro w'
       go_simp
       with_reducible rfl
      rotate_left
      ·simp only [Act.put, List.setIfInBounds_toArray, List.set_cons_zero, List.set_cons_succ, i64_w, i32_w]
       rfl
      refine take_ (i := 1) (N := some 26) (v := ?_) (a' := ?_) #[true, true, false, false, false, false, false, false, false, false, false, false, false, false] rfl rfl (take_ofW HT_.out HW_.out (by kernel_rfl)) (fun _ _ _ h => h) (Or.inl ⟨by rfl, ?_⟩) hHeld ?_ ?_
      rotate_left
      ·rintro w' ⟨s0, s1, s2, s3, s4⟩
       go_simp
       with_reducible rfl
      rotate_left
      ·simp only [Act.put, List.setIfInBounds_toArray, List.set_cons_zero, List.set_cons_succ, i64_w, i32_w]
       rfl
      refine pure_ (i := 2) (N := some 27) (v := ?_) (a' := ?_) #[true, true, true, false, false, false, false, false, false, false, false, false, false, false] rfl rfl (any_of HT_.out (by kernel_rfl)) (fun _ _ _ h => h) (Or.inl ⟨by rfl, ?_⟩) ?_ ?_
      rotate_left
      ·intro w'
       go_simp
       with_reducible rfl
      rotate_left
      ·simp only [Act.put, List.setIfInBounds_toArray, List.set_cons_zero, List.set_cons_succ, i64_w, i32_w]
       rfl
      refine pure_ (i := 3) (N := some 28) (v := ?_) (a' := ?_) #[true, true, true, true, false, false, false, false, false, false, false, false, false, false] rfl rfl (any_of HT_.out (by kernel_rfl)) (fun _ _ _ h => h) (Or.inl ⟨by rfl, ?_⟩) ?_ ?_
      rotate_left
      ·intro w'
       go_simp
       with_reducible rfl
      rotate_left
      ·simp only [Act.put, List.setIfInBounds_toArray, List.set_cons_zero, List.set_cons_succ, i64_w, i32_w]
       rfl
      refine pure_ (i := 4) (N := some 29) (v := ?_) (a' := ?_) #[true, true, true, true, true, false, false, false, false, false, false, false, false, false] rfl rfl (any_of HT_.out (by kernel_rfl)) (fun _ _ _ h => h) (Or.inl ⟨by rfl, ?_⟩) ?_ ?_
      rotate_left
      ·intro w'
       go_simp
       with_reducible rfl
      rotate_left
      ·simp only [Act.put, List.setIfInBounds_toArray, List.set_cons_zero, List.set_cons_succ, i64_w, i32_w]
       rfl
      refine pure_ (i := 5) (N := some 30) (v := undef) (a' := ?_) #[true, true, true, true, true, true, false, false, false, false, false, false, false, false] rfl rfl (any_of HT_.out (by kernel_rfl)) (fun _ _ _ h => h) (Or.inr ⟨by rfl, rfl⟩) ?_ ?_
      rotate_left
      ·simp only [Act.put, List.setIfInBounds_toArray, List.set_cons_zero, List.set_cons_succ, i64_w, i32_w]
       rfl
      refine pure_ (i := 6) (N := some 31) (v := undef) (a' := ?_) #[true, true, true, true, true, true, true, false, false, false, false, false, false, false] rfl rfl (any_of HT_.out (by kernel_rfl)) (fun _ _ _ h => h) (Or.inr ⟨by rfl, rfl⟩) ?_ ?_
      rotate_left
      ·simp only [Act.put, List.setIfInBounds_toArray, List.set_cons_zero, List.set_cons_succ, i64_w, i32_w]
       rfl
      refine pure_ (i := 7) (N := some 32) (v := undef) (a' := ?_) #[true, true, true, true, true, true, true, true, false, false, false, false, false, false] rfl rfl (any_of HT_.out (by kernel_rfl)) (fun _ _ _ h => h) (Or.inr ⟨by rfl, rfl⟩) ?_ ?_
      rotate_left
      ·simp only [Act.put, List.setIfInBounds_toArray, List.set_cons_zero, List.set_cons_succ, i64_w, i32_w]
       rfl
      refine pure_ (i := 8) (N := some 33) (v := undef) (a' := ?_) #[true, true, true, true, true, true, true, true, true, false, false, false, false, false] rfl rfl (any_of HT_.out (by kernel_rfl)) (fun _ _ _ h => h) (Or.inr ⟨by rfl, rfl⟩) ?_ ?_
      rotate_left
      ·simp only [Act.put, List.setIfInBounds_toArray, List.set_cons_zero, List.set_cons_succ, i64_w, i32_w]
       rfl
      refine pure_ (i := 9) (N := some 34) (v := undef) (a' := ?_) #[true, true, true, true, true, true, true, true, true, true, false, false, false, false] rfl rfl (any_of HT_.out (by kernel_rfl)) (fun _ _ _ h => h) (Or.inr ⟨by rfl, rfl⟩) ?_ ?_
      rotate_left
      ·simp only [Act.put, List.setIfInBounds_toArray, List.set_cons_zero, List.set_cons_succ, i64_w, i32_w]
       rfl
      refine pure_ (i := 10) (N := some 35) (v := undef) (a' := ?_) #[true, true, true, true, true, true, true, true, true, true, true, false, false, false] rfl rfl (any_of HT_.out (by kernel_rfl)) (fun _ _ _ h => h) (Or.inr ⟨by rfl, rfl⟩) ?_ ?_
      rotate_left
      ·simp only [Act.put, List.setIfInBounds_toArray, List.set_cons_zero, List.set_cons_succ, i64_w, i32_w]
       rfl
      refine pure_ (i := 11) (N := some 36) (v := undef) (a' := ?_) #[true, true, true, true, true, true, true, true, true, true, true, true, false, false] rfl rfl (any_of HT_.out (by kernel_rfl)) (fun _ _ _ h => h) (Or.inr ⟨by rfl, rfl⟩) ?_ ?_
      rotate_left
      ·simp only [Act.put, List.setIfInBounds_toArray, List.set_cons_zero, List.set_cons_succ, i64_w, i32_w]
       rfl
      refine pure_ (i := 12) (N := some 37) (v := undef) (a' := ?_) #[true, true, true, true, true, true, true, true, true, true, true, true, true, false] rfl rfl (any_of HT_.out (by kernel_rfl)) (fun _ _ _ h => h) (Or.inr ⟨by rfl, rfl⟩) ?_ ?_
      rotate_left
      ·simp only [Act.put, List.setIfInBounds_toArray, List.set_cons_zero, List.set_cons_succ, i64_w, i32_w]
       rfl
      refine pure_ (i := 13) (N := some 38) (v := ?_) (a' := ?_) #[true, true, true, true, true, true, true, true, true, true, true, true, true, true] rfl rfl (any_of HT_.out (by kernel_rfl)) (fun _ _ _ h => h) (Or.inl ⟨by rfl, ?_⟩) ?_ ?_
      rotate_left
      ·intro w'
       go_simp
       with_reducible rfl
      rotate_left
      ·simp only [Act.put, List.setIfInBounds_toArray, List.set_cons_zero, List.set_cons_succ, i64_w, i32_w]
       rfl
      refine done_ (done_of HT_.out (by kernel_rfl)) ?_
      try go_wp2
      have n0_ := aM (Kd.R_drew HO_7.out)
      have n1_ := aM (Kd.R_drew HO_156002.out)
      have n2_ := aM (Kd.Q_drew HO_156004.out)
      have n3_ := aM (bD BK155.out)
      have n4_ := aM (bD BK156.out)
      have n5_ := aM (bD BK157.out)
      have n6_ := aM (bD BK158.out)
      have n7_ := aM (wD HB.out)
      clear HO_7
      clear HO_156002
      clear HO_156004
      clear BK155
      clear BK156
      clear BK157
      clear BK158
      clear HB
      have HO_7 := n0_
      have HO_156002 := n1_
      have HO_156004 := n2_
      have BK155 := n3_
      have BK156 := n4_
      have BK157 := n5_
      have BK158 := n6_
      have HB := n7_
      clear n0_ n1_ n2_ n3_ n4_ n5_ n6_ n7_
      refine start_ (n := 9) (S := fun w' => w'.cell? ⟨gb155, 0, none⟩ = some (.int .i64 t159) ∧ w'.cell? ⟨gb155, 1, none⟩ = some (.int .i64 t160) ∧ w'.cell? ⟨gb155, 2, none⟩ = some (.slice Ao16 t161.length co16) ∧ w'.cell? ⟨gb155, 3, none⟩ = some (.int .i64 x156003_1) ∧ w'.cell? ⟨gb155, 4, none⟩ = some (.slice Ao49 x156004_1.length co49)) (ds := []) #[false, false, false, false, false, false, false, false, false] (by kernel_rfl) rfl rfl ⟨(blk_cell BK155.out 0).trans rfl, (blk_cell BK155.out 1).trans rfl, (blk_cell BK155.out 2).trans rfl, (blk_cell BK155.out 3).trans rfl, (blk_cell BK155.out 4).trans rfl⟩ (fun hHeld => ?_); refine with_tabW link_Arrive.tab12 link_Arrive.bits12 (fun HT_ HW_ => ?_)
      generalize w48.drew = w50 at HO_7 HO_156002 HO_156004 BK155 BK156 BK157 BK158 HB hHeld ⊢
      refine pure_ (i := 1) (N := some 81) (v := ?_) (a' := ?_) #[false, true, false, false, false, false, false, false, false] rfl rfl (any_of HT_.out (by kernel_rfl)) (fun _ _ _ h => h) (Or.inl ⟨by rfl, ?_⟩) ?_ ?_
      rotate_left
      ·intro w'
       go_simp
       with_reducible rfl
      rotate_left
      ·simp only [Act.put, List.setIfInBounds_toArray, List.set_cons_zero, List.set_cons_succ, i64_w, i32_w]
       rfl
      refine pure_ (i := 2) (N := some 82) (v := ?_) (a' := ?_) #[false, true, true, false, false, false, false, false, false] rfl rfl (any_of HT_.out (by kernel_rfl)) (fun _ _ _ h => h) (Or.inl ⟨by rfl, ?_⟩) ?_ ?_
      rotate_left
      ·intro w'
       go_simp
       with_reducible rfl
      rotate_left
      ·simp only [Act.put, List.setIfInBounds_toArray, List.set_cons_zero, List.set_cons_succ, i64_w, i32_w]
       rfl
      refine take_ (i := 0) (N := some 80) (v := ?_) (a' := ?_) #[true, true, true, false, false, false, false, false, false] rfl rfl (take_ofW HT_.out HW_.out (by kernel_rfl)) (fun _ _ _ h => h) (Or.inl ⟨by rfl, ?_⟩) hHeld ?_ ?_
      rotate_left
      ·rintro w' ⟨s0, s1, s2, s3, s4⟩
       go_simp
       with_reducible rfl
      rotate_left
      ·simp only [Act.put, List.setIfInBounds_toArray, List.set_cons_zero, List.set_cons_succ, i64_w, i32_w]
       rfl
      refine take_ (i := 3) (N := some 83) (v := ?_) (a' := ?_) #[true, true, true, true, false, false, false, false, false] rfl rfl (take_ofW HT_.out HW_.out (by kernel_rfl)) (fun _ _ _ h => h) (Or.inl ⟨by rfl, ?_⟩) hHeld ?_ ?_
      rotate_left
      ·rintro w' ⟨s0, s1, s2, s3, s4⟩
       go_simp
       with_reducible rfl
      rotate_left
      ·simp only [Act.put, List.setIfInBounds_toArray, List.set_cons_zero, List.set_cons_succ, i64_w, i32_w]
       rfl
      refine pure_ (i := 4) (N := some 84) (v := ?_) (a' := ?_) #[true, true, true, true, true, false, false, false, false] rfl rfl (any_of HT_.out (by kernel_rfl)) (fun _ _ _ h => h) (Or.inl ⟨by rfl, ?_⟩) ?_ ?_
      rotate_left
      ·intro w'
       go_simp
       with_reducible rfl
      rotate_left
      ·simp only [Act.put, List.setIfInBounds_toArray, List.set_cons_zero, List.set_cons_succ, i64_w, i32_w]
       rfl
      refine pure_ (i := 5) (N := some 85) (v := ?_) (a' := ?_) #[true, true, true, true, true, true, false, false, false] rfl rfl (any_of HT_.out (by kernel_rfl)) (fun _ _ _ h => h) (Or.inl ⟨by rfl, ?_⟩) ?_ ?_
      rotate_left
      ·intro w'
       go_simp
       with_reducible rfl
      rotate_left
      ·simp only [Act.put, List.setIfInBounds_toArray, List.set_cons_zero, List.set_cons_succ, i64_w, i32_w]
       rfl
      refine one_ (i := 6) (N := none) #[true, true, true, true, true, true, true, false, false] rfl rfl (one_of HT_.out (by kernel_rfl)) (by decide) (fun K hK => ?_)
      have hs51 : w50.cell? ⟨gb157, 0, none⟩ = some (.int .i64 0) := (blk_cell BK157.out 0).trans rfl
      have hfs51 := blk_frozen BK157.out 0
      have hns51_0 := NB155_157.out
      have hns51_1 := NB156_157.out
      have hns51_3 := NB158_157.out
      have hms51_0 := NB157_155.out
      have hms51_1 := NB157_156.out
      have hms51_3 := NB157_158.out
      have hs52 : w50.cell? ⟨gb157, 1, none⟩ = some (.int .i64 0) := (blk_cell BK157.out 1).trans rfl
      have hfs52 := blk_frozen BK157.out 1
      have hns52_0 := NB155_157.out
      have hns52_1 := NB156_157.out
      have hns52_3 := NB158_157.out
      have hms52_0 := NB157_155.out
      have hms52_1 := NB157_156.out
      have hms52_3 := NB157_158.out
      have hs53 : w50.cell? ⟨gb157, 2, none⟩ = some (.slice none 0 0) := (blk_cell BK157.out 2).trans rfl
      have hfs53 := blk_frozen BK157.out 2
      have hns53_0 := NB155_157.out
      have hns53_1 := NB156_157.out
      have hns53_3 := NB158_157.out
      have hms53_0 := NB157_155.out
      have hms53_1 := NB157_156.out
      have hms53_3 := NB157_158.out
      have hs54 : w50.cell? ⟨gb157, 3, none⟩ = some (.int .i64 0) := (blk_cell BK157.out 3).trans rfl
      have hfs54 := blk_frozen BK157.out 3
      have hns54_0 := NB155_157.out
      have hns54_1 := NB156_157.out
      have hns54_3 := NB158_157.out
      have hms54_0 := NB157_155.out
      have hms54_1 := NB157_156.out
      have hms54_3 := NB157_158.out
      have hs55 : w50.cell? ⟨gb157, 4, none⟩ = some (.slice none 0 0) := (blk_cell BK157.out 4).trans rfl
      have hfs55 := blk_frozen BK157.out 4
      have hns55_0 := NB155_157.out
      have hns55_1 := NB156_157.out
      have hns55_3 := NB158_157.out
      have hms55_0 := NB157_155.out
      have hms55_1 := NB157_156.out
      have hms55_3 := NB157_158.out
      refine skip_ (w1 := ?_) (by rfl) rfl ?_ ?_
      rotate_left
      ·go_simp
       rfl
      refine hK.out _ _ ⟨((cell_far (p := ⟨gb157, _, none⟩) NB155_157.out _).trans (((cell_far (p := ⟨gb157, _, none⟩) NB155_157.out _).trans (((cell_far (p := ⟨gb157, _, none⟩) NB155_157.out _).trans (((cell_far (p := ⟨gb157, _, none⟩) NB155_157.out _).trans (((cell_far (p := ⟨gb157, _, none⟩) NB155_157.out _).trans (hHeld.1)))))))))), ((cell_far (p := ⟨gb157, _, none⟩) NB155_157.out _).trans (((cell_far (p := ⟨gb157, _, none⟩) NB155_157.out _).trans (((cell_far (p := ⟨gb157, _, none⟩) NB155_157.out _).trans (((cell_far (p := ⟨gb157, _, none⟩) NB155_157.out _).trans (((cell_far (p := ⟨gb157, _, none⟩) NB155_157.out _).trans (hHeld.2.1)))))))))), ((cell_far (p := ⟨gb157, _, none⟩) NB155_157.out _).trans (((cell_far (p := ⟨gb157, _, none⟩) NB155_157.out _).trans (((cell_far (p := ⟨gb157, _, none⟩) NB155_157.out _).trans (((cell_far (p := ⟨gb157, _, none⟩) NB155_157.out _).trans (((cell_far (p := ⟨gb157, _, none⟩) NB155_157.out _).trans (hHeld.2.2.1)))))))))), ((cell_far (p := ⟨gb157, _, none⟩) NB155_157.out _).trans (((cell_far (p := ⟨gb157, _, none⟩) NB155_157.out _).trans (((cell_far (p := ⟨gb157, _, none⟩) NB155_157.out _).trans (((cell_far (p := ⟨gb157, _, none⟩) NB155_157.out _).trans (((cell_far (p := ⟨gb157, _, none⟩) NB155_157.out _).trans (hHeld.2.2.2.1)))))))))), ((cell_far (p := ⟨gb157, _, none⟩) NB155_157.out _).trans (((cell_far (p := ⟨gb157, _, none⟩) NB155_157.out _).trans (((cell_far (p := ⟨gb157, _, none⟩) NB155_157.out _).trans (((cell_far (p := ⟨gb157, _, none⟩) NB155_157.out _).trans (((cell_far (p := ⟨gb157, _, none⟩) NB155_157.out _).trans (hHeld.2.2.2.2))))))))))⟩ (fun hHeld => ?_)
      clear hK K
      refine pure_ (i := 7) (N := some 5) (v := ?_) (a' := ?_) #[true, true, true, true, true, true, true, true, false] rfl rfl (any_of HT_.out (by kernel_rfl)) (fun _ _ _ h => h) (Or.inl ⟨by rfl, ?_⟩) ?_ ?_
      rotate_left
      ·intro w'
       go_simp
       with_reducible rfl
      rotate_left
      ·simp only [Act.put, List.setIfInBounds_toArray, List.set_cons_zero, List.set_cons_succ, i64_w, i32_w]
       rfl
      refine one_ (i := 8) (N := none) #[true, true, true, true, true, true, true, true, true] rfl rfl (one_of HT_.out (by kernel_rfl)) (by decide) (fun K hK => ?_)
      have hs56 : w50.cell? ⟨gb158, 0, none⟩ = some (.int .i64 0) := (blk_cell BK158.out 0).trans rfl
      have hfs56 := blk_frozen BK158.out 0
      have hns56_0 := NB155_158.out
      have hns56_1 := NB156_158.out
      have hns56_2 := NB157_158.out
      have hms56_0 := NB158_155.out
      have hms56_1 := NB158_156.out
      have hms56_2 := NB158_157.out
      have hs57 : w50.cell? ⟨gb158, 1, none⟩ = some (.int .i64 0) := (blk_cell BK158.out 1).trans rfl
      have hfs57 := blk_frozen BK158.out 1
      have hns57_0 := NB155_158.out
      have hns57_1 := NB156_158.out
      have hns57_2 := NB157_158.out
      have hms57_0 := NB158_155.out
      have hms57_1 := NB158_156.out
      have hms57_2 := NB158_157.out
      have hs58 : w50.cell? ⟨gb158, 2, none⟩ = some (.int .i64 0) := (blk_cell BK158.out 2).trans rfl
      have hfs58 := blk_frozen BK158.out 2
      have hns58_0 := NB155_158.out
      have hns58_1 := NB156_158.out
      have hns58_2 := NB157_158.out
      have hms58_0 := NB158_155.out
      have hms58_1 := NB158_156.out
      have hms58_2 := NB158_157.out
      refine skip_ (w1 := ?_) (by rfl) rfl ?_ ?_
      rotate_left
      ·go_simp
       rfl
      refine hK.out _ _ ⟨((cell_far (p := ⟨gb158, _, none⟩) NB155_158.out _).trans (((cell_far (p := ⟨gb158, _, none⟩) NB155_158.out _).trans (((cell_far (p := ⟨gb158, _, none⟩) NB155_158.out _).trans (hHeld.1)))))), ((cell_far (p := ⟨gb158, _, none⟩) NB155_158.out _).trans (((cell_far (p := ⟨gb158, _, none⟩) NB155_158.out _).trans (((cell_far (p := ⟨gb158, _, none⟩) NB155_158.out _).trans (hHeld.2.1)))))), ((cell_far (p := ⟨gb158, _, none⟩) NB155_158.out _).trans (((cell_far (p := ⟨gb158, _, none⟩) NB155_158.out _).trans (((cell_far (p := ⟨gb158, _, none⟩) NB155_158.out _).trans (hHeld.2.2.1)))))), ((cell_far (p := ⟨gb158, _, none⟩) NB155_158.out _).trans (((cell_far (p := ⟨gb158, _, none⟩) NB155_158.out _).trans (((cell_far (p := ⟨gb158, _, none⟩) NB155_158.out _).trans (hHeld.2.2.2.1)))))), ((cell_far (p := ⟨gb158, _, none⟩) NB155_158.out _).trans (((cell_far (p := ⟨gb158, _, none⟩) NB155_158.out _).trans (((cell_far (p := ⟨gb158, _, none⟩) NB155_158.out _).trans (hHeld.2.2.2.2))))))⟩ (fun hHeld => ?_)
      clear hK K
      refine done_ (done_of HT_.out (by kernel_rfl)) ?_
      try go_wp2
      refine bodyPost_ret (results_list (rs := [.cell 4 27, .tmp 5, .cell 6 42]) rfl (by simp) (.cell gb157 27 #[.int .i64 t159, .int .i64 t160, .slice Ao16 t161.length co16, .int .i64 x156003_1, .slice Ao49 x156004_1.length co49] (0, 0) _ rfl (by (with_reducible repeat (first | refine bN ?_ _ | refine bD ?_ | refine bA ?_ _)); refine blk_far ?_ NB157_158.out _; (with_reducible repeat (first | refine bN ?_ _ | refine bD ?_ | refine bA ?_ _)); refine blk_far ?_ NB157_158.out _; (with_reducible repeat (first | refine bN ?_ _ | refine bD ?_ | refine bA ?_ _)); refine blk_far ?_ NB157_158.out _; (with_reducible repeat (first | refine bN ?_ _ | refine bD ?_ | refine bA ?_ _)); refine blk_put (cs := #[.int .i64 t159, .int .i64 t160, .slice Ao16 t161.length co16, .int .i64 x156003_1, .slice none 0 0]) ?_ 4 _ rfl; (with_reducible repeat (first | refine bN ?_ _ | refine bD ?_ | refine bA ?_ _)); refine blk_put (cs := #[.int .i64 t159, .int .i64 t160, .slice Ao16 t161.length co16, .int .i64 0, .slice none 0 0]) ?_ 3 _ rfl; (with_reducible repeat (first | refine bN ?_ _ | refine bD ?_ | refine bA ?_ _)); refine blk_put (cs := #[.int .i64 t159, .int .i64 t160, .slice none 0 0, .int .i64 0, .slice none 0 0]) ?_ 2 _ rfl; (with_reducible repeat (first | refine bN ?_ _ | refine bD ?_ | refine bA ?_ _)); refine blk_put (cs := #[.int .i64 t159, .int .i64 0, .slice none 0 0, .int .i64 0, .slice none 0 0]) ?_ 1 _ rfl; (with_reducible repeat (first | refine bN ?_ _ | refine bD ?_ | refine bA ?_ _)); refine blk_put (cs := #[.int .i64 0, .int .i64 0, .slice none 0 0, .int .i64 0, .slice none 0 0]) ?_ 0 _ rfl; (with_reducible repeat (first | refine bN ?_ _ | refine bD ?_ | refine bA ?_ _)); exact BK157.out) Try.underlying27 rfl (by kernel_rfl) (.tmp (.cell gb158 42 #[.int .i64 0, .int .i64 (wrap64 (x156003_1 - 1)), .int .i64 0] (0, 0) _ rfl (by (with_reducible repeat (first | refine bN ?_ _ | refine bD ?_ | refine bA ?_ _)); refine blk_put (cs := #[.int .i64 0, .int .i64 (wrap64 (x156003_1 - 1)), .int .i64 0]) ?_ 2 _ rfl; (with_reducible repeat (first | refine bN ?_ _ | refine bD ?_ | refine bA ?_ _)); refine blk_put (cs := #[.int .i64 0, .int .i64 0, .int .i64 0]) ?_ 1 _ rfl; (with_reducible repeat (first | refine bN ?_ _ | refine bD ?_ | refine bA ?_ _)); refine blk_put (cs := #[.int .i64 0, .int .i64 0, .int .i64 0]) ?_ 0 _ rfl; (with_reducible repeat (first | refine bN ?_ _ | refine bD ?_ | refine bA ?_ _)); refine blk_far ?_ NB158_157.out _; (with_reducible repeat (first | refine bN ?_ _ | refine bD ?_ | refine bA ?_ _)); refine blk_far ?_ NB158_157.out _; (with_reducible repeat (first | refine bN ?_ _ | refine bD ?_ | refine bA ?_ _)); refine blk_far ?_ NB158_157.out _; (with_reducible repeat (first | refine bN ?_ _ | refine bD ?_ | refine bA ?_ _)); refine blk_far ?_ NB158_157.out _; (with_reducible repeat (first | refine bN ?_ _ | refine bD ?_ | refine bA ?_ _)); refine blk_far ?_ NB158_157.out _; (with_reducible repeat (first | refine bN ?_ _ | refine bD ?_ | refine bA ?_ _)); exact BK158.out) Try.underlying42 rfl (by kernel_rfl) .nil)))) rfl ?_
      exact ⟨_, _, _, by first | rfl | (simp [errW_none, errW_some] <;> rfl) | (simp [*, errW_none, errW_some] <;> rfl), by (with_reducible repeat (first | apply Kd.R_alloc | apply Kd.R_drewN | apply Kd.R_drew)); exact Kd.R_mono (Kd.R_far (p := ⟨gb158, 2, none⟩) (Kd.R_far (p := ⟨gb158, 1, none⟩) (Kd.R_far (p := ⟨gb158, 0, none⟩) (Kd.R_far (p := ⟨gb157, 4, none⟩) (Kd.R_far (p := ⟨gb157, 3, none⟩) (Kd.R_far (p := ⟨gb157, 2, none⟩) (Kd.R_far (p := ⟨gb157, 1, none⟩) (Kd.R_far (p := ⟨gb157, 0, none⟩) (Kd.R_types (Kd.R_types HO_156002.out BK157.out (by decide)) BK158.out (by decide)) (fun _ hk => hk.1.2) (.int .i64 t159)) (fun _ hk => hk.1.2) (.int .i64 t160)) (fun _ hk => hk.1.2) (.slice Ao16 t161.length co16)) (fun _ hk => hk.1.2) (.int .i64 x156003_1)) (fun _ hk => hk.1.2) (.slice Ao49 x156004_1.length co49)) (fun _ hk => hk.2) (.int .i64 0)) (fun _ hk => hk.2) (.int .i64 (wrap64 (x156003_1 - 1)))) (fun _ hk => hk.2) (.int .i64 0)) (fun _ hk => hk.1.1), by (with_reducible repeat (first | apply Kd.Q_alloc | apply Kd.Q_drewN | apply Kd.Q_drew)); exact Kd.Q_mono (Kd.Q_far (p := ⟨gb158, 2, none⟩) (Kd.Q_far (p := ⟨gb158, 1, none⟩) (Kd.Q_far (p := ⟨gb158, 0, none⟩) (Kd.Q_far (p := ⟨gb157, 4, none⟩) (Kd.Q_far (p := ⟨gb157, 3, none⟩) (Kd.Q_far (p := ⟨gb157, 2, none⟩) (Kd.Q_far (p := ⟨gb157, 1, none⟩) (Kd.Q_far (p := ⟨gb157, 0, none⟩) (Kd.Q_mono (Kd.Q_types HO_156004.out BK157.out (by decide)) (fun k_ hk => (⟨hk, hk.1.2⟩ : _ ∧ k_ ≠ gb158))) (fun _ hk => hk.1.2) (.int .i64 t159)) (fun _ hk => hk.1.2) (.int .i64 t160)) (fun _ hk => hk.1.2) (.slice Ao16 t161.length co16)) (fun _ hk => hk.1.2) (.int .i64 x156003_1)) (fun _ hk => hk.1.2) (.slice Ao49 x156004_1.length co49)) (fun _ hk => hk.2) (.int .i64 0)) (fun _ hk => hk.2) (.int .i64 (wrap64 (x156003_1 - 1)))) (fun _ hk => hk.2) (.int .i64 0)) (fun _ hk => trivial), by (with_reducible repeat (first | apply Kd.R_alloc | apply Kd.R_drewN | apply Kd.R_drew)); exact Kd.R_mono (Kd.R_far (p := ⟨gb158, 2, none⟩) (Kd.R_far (p := ⟨gb158, 1, none⟩) (Kd.R_far (p := ⟨gb158, 0, none⟩) (Kd.R_far (p := ⟨gb157, 4, none⟩) (Kd.R_far (p := ⟨gb157, 3, none⟩) (Kd.R_far (p := ⟨gb157, 2, none⟩) (Kd.R_far (p := ⟨gb157, 1, none⟩) (Kd.R_far (p := ⟨gb157, 0, none⟩) (Kd.R_types (Kd.R_types HO_7.out BK157.out (by decide)) BK158.out (by decide)) (fun _ hk => hk.1.2) (.int .i64 t159)) (fun _ hk => hk.1.2) (.int .i64 t160)) (fun _ hk => hk.1.2) (.slice Ao16 t161.length co16)) (fun _ hk => hk.1.2) (.int .i64 x156003_1)) (fun _ hk => hk.1.2) (.slice Ao49 x156004_1.length co49)) (fun _ hk => hk.2) (.int .i64 0)) (fun _ hk => hk.2) (.int .i64 (wrap64 (x156003_1 - 1)))) (fun _ hk => hk.2) (.int .i64 0)) (fun _ hk => hk.1.1), by repeat (first | (with_reducible first | exact HB.out | apply wA | apply wN | apply wD | refine below_set ?_ GE155.out | refine below_set ?_ GE156.out | refine below_set ?_ GE157.out | refine below_set ?_ GE158.out) | exact HB.out)⟩
  ·rw [if_neg c5] at H
   exact absurd H (by simp)
 ·rw [if_neg c4] at H
  have c4b0 : (a1_0 == t164) = false := beq_eq_false_iff_ne.mpr c4
  have c4b1 : (a1_0 != t164) = true := bne_iff_ne.mpr c4
  by_cases c59 : a1_0 > t164
  ·rw [if_pos c59] at H
   have c59b0 : decide (t164 < a1_0) = true := decide_eq_true c59
   clear c59
   by_cases c60 : a1_0 < (wrap64 (t164 + t159))
   ·rw [if_pos c60] at H
    have c60b0 : decide (a1_0 < (wrap64 (t164 + t159))) = true := decide_eq_true c60
    clear c60
    replace H := Option.bind_eq_some_iff.mp H
    obtain ⟨t179, A610, H⟩ := H
    replace H : (some (t159, t160, t161, t164, t179, ([] : List Int), 0, wrap64 (t164 - 1), 0)) = some (r1, r2, r3, r4, r5, r6, r7, r8, r9) := H
    have A61 := aM A610
    clear A610
    simp only [Option.some.injEq, Prod.mk.injEq] at H
    obtain ⟨rfl, rfl, rfl, rfl, rfl, rfl, rfl, rfl, rfl⟩ := H
    go_enter Try.func17, Try.ntmps17
    try go_wp2_with (first | ((with_reducible refine gate_dst (N := 2) rfl ?_); refine box_event ?hg (N := 2) ?hd (cs := #[.int .i64 a0_0, .int .i64 a0_1, .slice A0_2 l0_2.length c0_2, .int .i64 a0_3, .slice A0_4 l0_4.length c0_4]) (t := 27) ?hr ?_; (case hd => rfl); (case hg => rfl); (case hr => first | (go_simp; done) | (go_simp; rfl)); intro gb155 hg w62 hbox hb; have n0_ := aM (below_step (by repeat (first | (with_reducible first | exact HB.out | apply wA | apply wN | apply wD) | exact HB.out)) hb); have n1_ := aM (hbox); have n2_ := aM ((by rw [hg]; exact (below_size (by repeat (first | (with_reducible first | exact HB.out | apply wA | apply wN | apply wD) | exact HB.out))) : w.heap.size ≤ gb155)); have n3_ := aM ((by rw [hg]; exact (below_size (by repeat (first | (with_reducible first | exact HB.out | apply wA | apply wN | apply wD) | exact HB.out))) : w.heap.size ≤ gb155)); clear HB; have HB := n0_; have BK155 := n1_; have GW155 := n2_; have GE155 := n3_; clear n0_ n1_ n2_ n3_; clear hb hbox hg) | ((with_reducible refine gate_dst (N := 3) rfl ?_); refine box_event ?hg (N := 3) ?hd (cs := #[.int .i64 a1_0, .int .i64 a1_1, .int .i64 a1_2]) (t := 42) ?hr ?_; (case hd => rfl); (case hg => rfl); (case hr => first | (go_simp; done) | (go_simp; rfl)); intro gb156 hg w63 hbox hb; have n0_ := aM (blk_below (g := gb155) (o := .cells #[.int .i64 a0_0, .int .i64 a0_1, .slice A0_2 l0_2.length c0_2, .int .i64 a0_3, .slice A0_4 l0_4.length c0_4] 27 (0, 0)) (by (with_reducible repeat (first | refine bN ?_ _ | refine bD ?_ | refine bA ?_ _)); exact BK155.out) hb); have n1_ := aM (below_step (by repeat (first | (with_reducible first | exact HB.out | apply wA | apply wN | apply wD | refine below_set ?_ GE155.out) | exact HB.out)) hb); have n2_ := aM (hbox); have n3_ := aM ((by rw [hg]; exact (below_size (by repeat (first | (with_reducible first | exact HB.out | apply wA | apply wN | apply wD | refine below_set ?_ GE155.out) | exact HB.out))) : w.heap.size ≤ gb156)); have n4_ := aM ((by rw [hg]; exact (below_size (by repeat (first | (with_reducible first | exact HB.out | apply wA | apply wN | apply wD | refine below_set ?_ GE155.out) | exact HB.out))) : w.heap.size ≤ gb156)); have n5_ := aM ((by rw [hg]; exact Nat.ne_of_lt (blk_lt (g := gb155) (o := .cells #[.int .i64 a0_0, .int .i64 a0_1, .slice A0_2 l0_2.length c0_2, .int .i64 a0_3, .slice A0_4 l0_4.length c0_4] 27 (0, 0)) (by (with_reducible repeat (first | refine bN ?_ _ | refine bD ?_ | refine bA ?_ _)); exact BK155.out)) : gb155 ≠ gb156)); have n6_ := aM ((by rw [hg]; exact Nat.ne_of_gt (blk_lt (g := gb155) (o := .cells #[.int .i64 a0_0, .int .i64 a0_1, .slice A0_2 l0_2.length c0_2, .int .i64 a0_3, .slice A0_4 l0_4.length c0_4] 27 (0, 0)) (by (with_reducible repeat (first | refine bN ?_ _ | refine bD ?_ | refine bA ?_ _)); exact BK155.out)) : gb156 ≠ gb155)); clear BK155; clear HB; have BK155 := n0_; have HB := n1_; have BK156 := n2_; have GW156 := n3_; have GE156 := n4_; have NB155_156 := n5_; have NB156_155 := n6_; clear n0_ n1_ n2_ n3_ n4_ n5_ n6_; clear hb hbox hg) | ((with_reducible refine gate_dst (N := 4) rfl ?_); refine box_event ?hg (N := 4) ?hd (cs := #[.int .i64 0, .int .i64 0, .slice none 0 0, .int .i64 0, .slice none 0 0]) (t := 27) ?hr ?_; (case hd => rfl); (case hg => rfl); (case hr => first | (go_simp; done) | (go_simp; rfl)); intro gb157 hg w64 hbox hb; have n0_ := aM (blk_below (g := gb155) (o := .cells #[.int .i64 a0_0, .int .i64 a0_1, .slice A0_2 l0_2.length c0_2, .int .i64 a0_3, .slice A0_4 l0_4.length c0_4] 27 (0, 0)) (by (with_reducible repeat (first | refine bN ?_ _ | refine bD ?_ | refine bA ?_ _)); exact BK155.out) hb); have n1_ := aM (blk_below (g := gb156) (o := .cells #[.int .i64 a1_0, .int .i64 a1_1, .int .i64 a1_2] 42 (0, 0)) (by (with_reducible repeat (first | refine bN ?_ _ | refine bD ?_ | refine bA ?_ _)); exact BK156.out) hb); have n2_ := aM (below_step (by repeat (first | (with_reducible first | exact HB.out | apply wA | apply wN | apply wD | refine below_set ?_ GE155.out | refine below_set ?_ GE156.out) | exact HB.out)) hb); have n3_ := aM (hbox); have n4_ := aM ((by rw [hg]; exact (below_size (by repeat (first | (with_reducible first | exact HB.out | apply wA | apply wN | apply wD | refine below_set ?_ GE155.out | refine below_set ?_ GE156.out) | exact HB.out))) : w.heap.size ≤ gb157)); have n5_ := aM ((by rw [hg]; exact (below_size (by repeat (first | (with_reducible first | exact HB.out | apply wA | apply wN | apply wD | refine below_set ?_ GE155.out | refine below_set ?_ GE156.out) | exact HB.out))) : w.heap.size ≤ gb157)); have n6_ := aM ((by rw [hg]; exact Nat.ne_of_lt (blk_lt (g := gb155) (o := .cells #[.int .i64 a0_0, .int .i64 a0_1, .slice A0_2 l0_2.length c0_2, .int .i64 a0_3, .slice A0_4 l0_4.length c0_4] 27 (0, 0)) (by (with_reducible repeat (first | refine bN ?_ _ | refine bD ?_ | refine bA ?_ _)); exact BK155.out)) : gb155 ≠ gb157)); have n7_ := aM ((by rw [hg]; exact Nat.ne_of_gt (blk_lt (g := gb155) (o := .cells #[.int .i64 a0_0, .int .i64 a0_1, .slice A0_2 l0_2.length c0_2, .int .i64 a0_3, .slice A0_4 l0_4.length c0_4] 27 (0, 0)) (by (with_reducible repeat (first | refine bN ?_ _ | refine bD ?_ | refine bA ?_ _)); exact BK155.out)) : gb157 ≠ gb155)); have n8_ := aM ((by rw [hg]; exact Nat.ne_of_lt (blk_lt (g := gb156) (o := .cells #[.int .i64 a1_0, .int .i64 a1_1, .int .i64 a1_2] 42 (0, 0)) (by (with_reducible repeat (first | refine bN ?_ _ | refine bD ?_ | refine bA ?_ _)); exact BK156.out)) : gb156 ≠ gb157)); have n9_ := aM ((by rw [hg]; exact Nat.ne_of_gt (blk_lt (g := gb156) (o := .cells #[.int .i64 a1_0, .int .i64 a1_1, .int .i64 a1_2] 42 (0, 0)) (by (with_reducible repeat (first | refine bN ?_ _ | refine bD ?_ | refine bA ?_ _)); exact BK156.out)) : gb157 ≠ gb156)); clear BK155; clear BK156; clear HB; have BK155 := n0_; have BK156 := n1_; have HB := n2_; have BK157 := n3_; have GW157 := n4_; have GE157 := n5_; have NB155_157 := n6_; have NB157_155 := n7_; have NB156_157 := n8_; have NB157_156 := n9_; clear n0_ n1_ n2_ n3_ n4_ n5_ n6_ n7_ n8_ n9_; clear hb hbox hg) | ((with_reducible refine gate_dst (N := 6) rfl ?_); refine box_event ?hg (N := 6) ?hd (cs := #[.int .i64 0, .int .i64 0, .int .i64 0]) (t := 42) ?hr ?_; (case hd => rfl); (case hg => rfl); (case hr => first | (go_simp; done) | (go_simp; rfl)); intro gb158 hg w65 hbox hb; have n0_ := aM (blk_below (g := gb155) (o := .cells #[.int .i64 a0_0, .int .i64 a0_1, .slice A0_2 l0_2.length c0_2, .int .i64 a0_3, .slice A0_4 l0_4.length c0_4] 27 (0, 0)) (by (with_reducible repeat (first | refine bN ?_ _ | refine bD ?_ | refine bA ?_ _)); exact BK155.out) hb); have n1_ := aM (blk_below (g := gb156) (o := .cells #[.int .i64 a1_0, .int .i64 a1_1, .int .i64 a1_2] 42 (0, 0)) (by (with_reducible repeat (first | refine bN ?_ _ | refine bD ?_ | refine bA ?_ _)); exact BK156.out) hb); have n2_ := aM (blk_below (g := gb157) (o := .cells #[.int .i64 0, .int .i64 0, .slice none 0 0, .int .i64 0, .slice none 0 0] 27 (0, 0)) (by (with_reducible repeat (first | refine bN ?_ _ | refine bD ?_ | refine bA ?_ _)); exact BK157.out) hb); have n3_ := aM (below_step (by repeat (first | (with_reducible first | exact HB.out | apply wA | apply wN | apply wD | refine below_set ?_ GE155.out | refine below_set ?_ GE156.out | refine below_set ?_ GE157.out) | exact HB.out)) hb); have n4_ := aM (hbox); have n5_ := aM ((by rw [hg]; exact (below_size (by repeat (first | (with_reducible first | exact HB.out | apply wA | apply wN | apply wD | refine below_set ?_ GE155.out | refine below_set ?_ GE156.out | refine below_set ?_ GE157.out) | exact HB.out))) : w.heap.size ≤ gb158)); have n6_ := aM ((by rw [hg]; exact (below_size (by repeat (first | (with_reducible first | exact HB.out | apply wA | apply wN | apply wD | refine below_set ?_ GE155.out | refine below_set ?_ GE156.out | refine below_set ?_ GE157.out) | exact HB.out))) : w.heap.size ≤ gb158)); have n7_ := aM ((by rw [hg]; exact Nat.ne_of_lt (blk_lt (g := gb155) (o := .cells #[.int .i64 a0_0, .int .i64 a0_1, .slice A0_2 l0_2.length c0_2, .int .i64 a0_3, .slice A0_4 l0_4.length c0_4] 27 (0, 0)) (by (with_reducible repeat (first | refine bN ?_ _ | refine bD ?_ | refine bA ?_ _)); exact BK155.out)) : gb155 ≠ gb158)); have n8_ := aM ((by rw [hg]; exact Nat.ne_of_gt (blk_lt (g := gb155) (o := .cells #[.int .i64 a0_0, .int .i64 a0_1, .slice A0_2 l0_2.length c0_2, .int .i64 a0_3, .slice A0_4 l0_4.length c0_4] 27 (0, 0)) (by (with_reducible repeat (first | refine bN ?_ _ | refine bD ?_ | refine bA ?_ _)); exact BK155.out)) : gb158 ≠ gb155)); have n9_ := aM ((by rw [hg]; exact Nat.ne_of_lt (blk_lt (g := gb156) (o := .cells #[.int .i64 a1_0, .int .i64 a1_1, .int .i64 a1_2] 42 (0, 0)) (by (with_reducible repeat (first | refine bN ?_ _ | refine bD ?_ | refine bA ?_ _)); exact BK156.out)) : gb156 ≠ gb158)); have n10_ := aM ((by rw [hg]; exact Nat.ne_of_gt (blk_lt (g := gb156) (o := .cells #[.int .i64 a1_0, .int .i64 a1_1, .int .i64 a1_2] 42 (0, 0)) (by (with_reducible repeat (first | refine bN ?_ _ | refine bD ?_ | refine bA ?_ _)); exact BK156.out)) : gb158 ≠ gb156)); have n11_ := aM ((by rw [hg]; exact Nat.ne_of_lt (blk_lt (g := gb157) (o := .cells #[.int .i64 0, .int .i64 0, .slice none 0 0, .int .i64 0, .slice none 0 0] 27 (0, 0)) (by (with_reducible repeat (first | refine bN ?_ _ | refine bD ?_ | refine bA ?_ _)); exact BK157.out)) : gb157 ≠ gb158)); have n12_ := aM ((by rw [hg]; exact Nat.ne_of_gt (blk_lt (g := gb157) (o := .cells #[.int .i64 0, .int .i64 0, .slice none 0 0, .int .i64 0, .slice none 0 0] 27 (0, 0)) (by (with_reducible repeat (first | refine bN ?_ _ | refine bD ?_ | refine bA ?_ _)); exact BK157.out)) : gb158 ≠ gb157)); clear BK155; clear BK156; clear BK157; clear HB; have BK155 := n0_; have BK156 := n1_; have BK157 := n2_; have HB := n3_; have BK158 := n4_; have GW158 := n5_; have GE158 := n6_; have NB155_158 := n7_; have NB158_155 := n8_; have NB156_158 := n9_; have NB158_156 := n10_; have NB157_158 := n11_; have NB158_157 := n12_; clear n0_ n1_ n2_ n3_ n4_ n5_ n6_ n7_ n8_ n9_ n10_ n11_ n12_; clear hb hbox hg; have hnb66 := NB155_156.out; have hnc66 := NB156_155.out; have hnb67 := NB155_157.out; have hnc67 := NB157_155.out; have hnb68 := NB155_158.out; have hnc68 := NB158_155.out; have hcz69_0 : w65.cell? ⟨gb155, 0, none⟩ = some (.int .i64 a0_0) := (blk_cell BK155.out 0).trans rfl; have hcz69_1 : w65.cell? ⟨gb155, 1, none⟩ = some (.int .i64 a0_1) := (blk_cell BK155.out 1).trans rfl; have hcz69_2 : w65.cell? ⟨gb155, 2, none⟩ = some (.slice A0_2 l0_2.length c0_2) := (blk_cell BK155.out 2).trans rfl; have hcz69_3 : w65.cell? ⟨gb155, 3, none⟩ = some (.int .i64 a0_3) := (blk_cell BK155.out 3).trans rfl; have hcz69_4 : w65.cell? ⟨gb155, 4, none⟩ = some (.slice A0_4 l0_4.length c0_4) := (blk_cell BK155.out 4).trans rfl; have hfz69_0 := blk_frozen BK155.out 0; have hfz69_1 := blk_frozen BK155.out 1; have hfz69_2 := blk_frozen BK155.out 2; have hfz69_3 := blk_frozen BK155.out 3; have hfz69_4 := blk_frozen BK155.out 4) | ((with_reducible refine gate_callee (f := 30) rfl ?_); refine goesL_ (some 9) rfl rfl Try.func30 (by kernel_rfl) rfl #[.agg #[.int .i64 a0_0, .int .i64 a0_1, .slice A0_2 l0_2.length c0_2, .int .i64 a0_3, .slice A0_4 l0_4.length c0_4]] rfl (by (try simp only [List.map_toArray, List.map_cons, List.map_nil]); first | done | rfl | (simp only [List.length_drop, List.length_take]; rfl)) ?_; (with_reducible refine (link_clone.calls a0_0 a0_1 _ _ l0_2 a0_3 _ _ l0_4 t159 t160 t161 t164 t165 _ ?side1 ?side2 ?side3 ?side4 A3.out).mono ?_); (case side1 => repeat (first | exact (Kd.C_below HR0_2.out HB.out) | (with_reducible refine Kd.C_alloc ?_ _) | (with_reducible refine Kd.C_drewN ?_ _) | (with_reducible refine Kd.C_drew ?_))); (case side2 => exact HC0_2.out); (case side3 => repeat (first | exact (Kd.C_below HR0_4.out HB.out) | (with_reducible refine Kd.C_alloc ?_ _) | (with_reducible refine Kd.C_drewN ?_ _) | (with_reducible refine Kd.C_drew ?_))); (case side4 => exact HC0_4.out); rintro e w70 ⟨v162, v166, rfl, ho0, ho1, hb⟩; refine ⟨_, rfl, ?_⟩; have n0_ := aM (Kd.R_lower ho0 (below_size (by repeat (first | (with_reducible first | exact HB.out | apply wA | apply wN | apply wD | refine below_set ?_ GE155.out | refine below_set ?_ GE156.out | refine below_set ?_ GE157.out | refine below_set ?_ GE158.out) | exact HB.out)))); have n1_ := aM (Kd.R_lower (Kd.R_newB (Kd.R_newB ho1 (g := gb156) (o := .cells #[.int .i64 a1_0, .int .i64 a1_1, .int .i64 a1_2] 42 (0, 0)) (by (with_reducible repeat (first | refine bN ?_ _ | refine bD ?_ | refine bA ?_ _)); exact BK156.out)) (g := gb158) (o := .cells #[.int .i64 0, .int .i64 0, .int .i64 0] 42 (0, 0)) (by (with_reducible repeat (first | refine bN ?_ _ | refine bD ?_ | refine bA ?_ _)); exact BK158.out)) (below_size (by repeat (first | (with_reducible first | exact HB.out | apply wA | apply wN | apply wD | refine below_set ?_ GE155.out | refine below_set ?_ GE156.out | refine below_set ?_ GE157.out | refine below_set ?_ GE158.out) | exact HB.out)))); have n2_ := aM (blk_below (g := gb155) (o := .cells #[.int .i64 a0_0, .int .i64 a0_1, .slice A0_2 l0_2.length c0_2, .int .i64 a0_3, .slice A0_4 l0_4.length c0_4] 27 (0, 0)) (by (with_reducible repeat (first | refine bN ?_ _ | refine bD ?_ | refine bA ?_ _)); exact BK155.out) hb); have n3_ := aM (blk_below (g := gb156) (o := .cells #[.int .i64 a1_0, .int .i64 a1_1, .int .i64 a1_2] 42 (0, 0)) (by (with_reducible repeat (first | refine bN ?_ _ | refine bD ?_ | refine bA ?_ _)); exact BK156.out) hb); have n4_ := aM (blk_below (g := gb157) (o := .cells #[.int .i64 0, .int .i64 0, .slice none 0 0, .int .i64 0, .slice none 0 0] 27 (0, 0)) (by (with_reducible repeat (first | refine bN ?_ _ | refine bD ?_ | refine bA ?_ _)); exact BK157.out) hb); have n5_ := aM (blk_below (g := gb158) (o := .cells #[.int .i64 0, .int .i64 0, .int .i64 0] 42 (0, 0)) (by (with_reducible repeat (first | refine bN ?_ _ | refine bD ?_ | refine bA ?_ _)); exact BK158.out) hb); have n6_ := aM (below_step (by repeat (first | (with_reducible first | exact HB.out | apply wA | apply wN | apply wD | refine below_set ?_ GE155.out | refine below_set ?_ GE156.out | refine below_set ?_ GE157.out | refine below_set ?_ GE158.out) | exact HB.out)) hb); clear BK155; clear BK156; clear BK157; clear BK158; clear HB; have HO163 := n0_; have HO167 := n1_; have BK155 := n2_; have BK156 := n3_; have BK157 := n4_; have BK158 := n5_; have HB := n6_; clear n0_ n1_ n2_ n3_ n4_ n5_ n6_; (try clear hb); (try clear hb2); (try clear hk); (try clear hi); (try clear hge_); (try clear ho0); (try clear ho1); have hcz71_0 : w70.cell? ⟨gb155, 0, none⟩ = some (.int .i64 a0_0) := (blk_cell BK155.out 0).trans rfl; have hcz71_1 : w70.cell? ⟨gb155, 1, none⟩ = some (.int .i64 a0_1) := (blk_cell BK155.out 1).trans rfl; have hcz71_2 : w70.cell? ⟨gb155, 2, none⟩ = some (.slice A0_2 l0_2.length c0_2) := (blk_cell BK155.out 2).trans rfl; have hcz71_3 : w70.cell? ⟨gb155, 3, none⟩ = some (.int .i64 a0_3) := (blk_cell BK155.out 3).trans rfl; have hcz71_4 : w70.cell? ⟨gb155, 4, none⟩ = some (.slice A0_4 l0_4.length c0_4) := (blk_cell BK155.out 4).trans rfl; have hfz71_0 := blk_frozen BK155.out 0; have hfz71_1 := blk_frozen BK155.out 1; have hfz71_2 := blk_frozen BK155.out 2; have hfz71_3 := blk_frozen BK155.out 3; have hfz71_4 := blk_frozen BK155.out 4; obtain ⟨Ao72, co72, eo72⟩ := Kd.R_slice HO163.out; subst eo72; obtain ⟨Ao73, co73, eo73⟩ := Kd.R_slice HO167.out; subst eo73) | ((with_reducible refine gate_store (t := 27) (p := 2) rfl ?_); refine store_event (t := 27) (p := 2) (v := ?vo_w74) (w1 := (((((w70.setCell ⟨gb155, 0, none⟩ (.int .i64 t159)).setCell ⟨gb155, 1, none⟩ (.int .i64 t160)).setCell ⟨gb155, 2, none⟩ (.slice Ao72 t161.length co72)).setCell ⟨gb155, 3, none⟩ (.int .i64 t164)).setCell ⟨gb155, 4, none⟩ (.slice Ao73 t165.length co73))) ?hg ?ho ?hn ?hr ?_; (case ho => rfl); (case hg => rfl); (case hn => rfl); (case hr => first | (go_simp; done) | (go_simp; rfl)); intro w74 hw; have n0_ : Aside0 (Kd.R (Kd.int .i64) 3 w74 w.heap.size (fun _ => True) (.slice Ao72 t161.length co72) t161) := ⟨(by rw [hw]; exact (by (with_reducible repeat (first | apply Kd.R_alloc | apply Kd.R_drewN | apply Kd.R_drew)); exact Kd.R_mono (Kd.R_far (p := ⟨gb155, 4, none⟩) (Kd.R_far (p := ⟨gb155, 3, none⟩) (Kd.R_far (p := ⟨gb155, 2, none⟩) (Kd.R_far (p := ⟨gb155, 1, none⟩) (Kd.R_far (p := ⟨gb155, 0, none⟩) (Kd.R_types HO163.out BK155.out (by decide)) (fun _ hk => hk.2) (.int .i64 t159)) (fun _ hk => hk.2) (.int .i64 t160)) (fun _ hk => hk.2) (.slice Ao72 t161.length co72)) (fun _ hk => hk.2) (.int .i64 t164)) (fun _ hk => hk.2) (.slice Ao73 t165.length co73)) (fun _ hk => trivial)))⟩; have n1_ : Aside0 (Kd.R k42 42 w74 w.heap.size (fun k_ => k_ ≠ gb156 ∧ k_ ≠ gb158) (.slice Ao73 t165.length co73) t165) := ⟨(by rw [hw]; exact (by (with_reducible repeat (first | apply Kd.R_alloc | apply Kd.R_drewN | apply Kd.R_drew)); exact Kd.R_mono (Kd.R_far (p := ⟨gb155, 4, none⟩) (Kd.R_far (p := ⟨gb155, 3, none⟩) (Kd.R_far (p := ⟨gb155, 2, none⟩) (Kd.R_far (p := ⟨gb155, 1, none⟩) (Kd.R_far (p := ⟨gb155, 0, none⟩) (Kd.R_types HO167.out BK155.out (by decide)) (fun _ hk => hk.2) (.int .i64 t159)) (fun _ hk => hk.2) (.int .i64 t160)) (fun _ hk => hk.2) (.slice Ao72 t161.length co72)) (fun _ hk => hk.2) (.int .i64 t164)) (fun _ hk => hk.2) (.slice Ao73 t165.length co73)) (fun _ hk => ⟨hk.1.1.2, hk.1.2⟩)))⟩; have n2_ : Aside0 (w74.heap[gb155]? = some (.cells #[.int .i64 t159, .int .i64 t160, .slice Ao72 t161.length co72, .int .i64 t164, .slice Ao73 t165.length co73] 27 (0, 0))) := ⟨(by rw [hw]; exact (by (with_reducible repeat (first | refine bN ?_ _ | refine bD ?_ | refine bA ?_ _)); refine blk_put (cs := #[.int .i64 t159, .int .i64 t160, .slice Ao72 t161.length co72, .int .i64 t164, .slice A0_4 l0_4.length c0_4]) ?_ 4 _ rfl; (with_reducible repeat (first | refine bN ?_ _ | refine bD ?_ | refine bA ?_ _)); refine blk_put (cs := #[.int .i64 t159, .int .i64 t160, .slice Ao72 t161.length co72, .int .i64 a0_3, .slice A0_4 l0_4.length c0_4]) ?_ 3 _ rfl; (with_reducible repeat (first | refine bN ?_ _ | refine bD ?_ | refine bA ?_ _)); refine blk_put (cs := #[.int .i64 t159, .int .i64 t160, .slice A0_2 l0_2.length c0_2, .int .i64 a0_3, .slice A0_4 l0_4.length c0_4]) ?_ 2 _ rfl; (with_reducible repeat (first | refine bN ?_ _ | refine bD ?_ | refine bA ?_ _)); refine blk_put (cs := #[.int .i64 t159, .int .i64 a0_1, .slice A0_2 l0_2.length c0_2, .int .i64 a0_3, .slice A0_4 l0_4.length c0_4]) ?_ 1 _ rfl; (with_reducible repeat (first | refine bN ?_ _ | refine bD ?_ | refine bA ?_ _)); refine blk_put (cs := #[.int .i64 a0_0, .int .i64 a0_1, .slice A0_2 l0_2.length c0_2, .int .i64 a0_3, .slice A0_4 l0_4.length c0_4]) ?_ 0 _ rfl; (with_reducible repeat (first | refine bN ?_ _ | refine bD ?_ | refine bA ?_ _)); exact BK155.out))⟩; have n3_ : Aside0 (w74.heap[gb156]? = some (.cells #[.int .i64 a1_0, .int .i64 a1_1, .int .i64 a1_2] 42 (0, 0))) := ⟨(by rw [hw]; exact (by (with_reducible repeat (first | refine bN ?_ _ | refine bD ?_ | refine bA ?_ _)); refine blk_far ?_ NB156_155.out _; (with_reducible repeat (first | refine bN ?_ _ | refine bD ?_ | refine bA ?_ _)); refine blk_far ?_ NB156_155.out _; (with_reducible repeat (first | refine bN ?_ _ | refine bD ?_ | refine bA ?_ _)); refine blk_far ?_ NB156_155.out _; (with_reducible repeat (first | refine bN ?_ _ | refine bD ?_ | refine bA ?_ _)); refine blk_far ?_ NB156_155.out _; (with_reducible repeat (first | refine bN ?_ _ | refine bD ?_ | refine bA ?_ _)); refine blk_far ?_ NB156_155.out _; (with_reducible repeat (first | refine bN ?_ _ | refine bD ?_ | refine bA ?_ _)); exact BK156.out))⟩; have n4_ : Aside0 (w74.heap[gb157]? = some (.cells #[.int .i64 0, .int .i64 0, .slice none 0 0, .int .i64 0, .slice none 0 0] 27 (0, 0))) := ⟨(by rw [hw]; exact (by (with_reducible repeat (first | refine bN ?_ _ | refine bD ?_ | refine bA ?_ _)); refine blk_far ?_ NB157_155.out _; (with_reducible repeat (first | refine bN ?_ _ | refine bD ?_ | refine bA ?_ _)); refine blk_far ?_ NB157_155.out _; (with_reducible repeat (first | refine bN ?_ _ | refine bD ?_ | refine bA ?_ _)); refine blk_far ?_ NB157_155.out _; (with_reducible repeat (first | refine bN ?_ _ | refine bD ?_ | refine bA ?_ _)); refine blk_far ?_ NB157_155.out _; (with_reducible repeat (first | refine bN ?_ _ | refine bD ?_ | refine bA ?_ _)); refine blk_far ?_ NB157_155.out _; (with_reducible repeat (first | refine bN ?_ _ | refine bD ?_ | refine bA ?_ _)); exact BK157.out))⟩; have n5_ : Aside0 (w74.heap[gb158]? = some (.cells #[.int .i64 0, .int .i64 0, .int .i64 0] 42 (0, 0))) := ⟨(by rw [hw]; exact (by (with_reducible repeat (first | refine bN ?_ _ | refine bD ?_ | refine bA ?_ _)); refine blk_far ?_ NB158_155.out _; (with_reducible repeat (first | refine bN ?_ _ | refine bD ?_ | refine bA ?_ _)); refine blk_far ?_ NB158_155.out _; (with_reducible repeat (first | refine bN ?_ _ | refine bD ?_ | refine bA ?_ _)); refine blk_far ?_ NB158_155.out _; (with_reducible repeat (first | refine bN ?_ _ | refine bD ?_ | refine bA ?_ _)); refine blk_far ?_ NB158_155.out _; (with_reducible repeat (first | refine bN ?_ _ | refine bD ?_ | refine bA ?_ _)); refine blk_far ?_ NB158_155.out _; (with_reducible repeat (first | refine bN ?_ _ | refine bD ?_ | refine bA ?_ _)); exact BK158.out))⟩; have n6_ : Aside0 (Below w.heap.size w w74) := ⟨(by rw [hw]; exact (by repeat (first | (with_reducible first | exact HB.out | apply wA | apply wN | apply wD | refine below_set ?_ GE155.out | refine below_set ?_ GE156.out | refine below_set ?_ GE157.out | refine below_set ?_ GE158.out) | exact HB.out)))⟩; clear hw; clear HO163; clear HO167; clear BK155; clear BK156; clear BK157; clear BK158; clear HB; have HO163 := n0_; have HO167 := n1_; have BK155 := n2_; have BK156 := n3_; have BK157 := n4_; have BK158 := n5_; have HB := n6_; clear n0_ n1_ n2_ n3_ n4_ n5_ n6_; have hnb75 := NB156_157.out; have hnc75 := NB157_156.out; have hnb76 := NB156_158.out; have hnc76 := NB158_156.out; have hcz77_0 : w74.cell? ⟨gb156, 0, none⟩ = some (.int .i64 a1_0) := (blk_cell BK156.out 0).trans rfl; have hcz77_1 : w74.cell? ⟨gb156, 1, none⟩ = some (.int .i64 a1_1) := (blk_cell BK156.out 1).trans rfl; have hcz77_2 : w74.cell? ⟨gb156, 2, none⟩ = some (.int .i64 a1_2) := (blk_cell BK156.out 2).trans rfl; have hfz77_0 := blk_frozen BK156.out 0; have hfz77_1 := blk_frozen BK156.out 1; have hfz77_2 := blk_frozen BK156.out 2; have hcz78_0 : w74.cell? ⟨gb155, 0, none⟩ = some (.int .i64 t159) := (blk_cell BK155.out 0).trans rfl; have hcz78_1 : w74.cell? ⟨gb155, 1, none⟩ = some (.int .i64 t160) := (blk_cell BK155.out 1).trans rfl; have hcz78_2 : w74.cell? ⟨gb155, 2, none⟩ = some (.slice Ao72 t161.length co72) := (blk_cell BK155.out 2).trans rfl; have hcz78_3 : w74.cell? ⟨gb155, 3, none⟩ = some (.int .i64 t164) := (blk_cell BK155.out 3).trans rfl; have hcz78_4 : w74.cell? ⟨gb155, 4, none⟩ = some (.slice Ao73 t165.length co73) := (blk_cell BK155.out 4).trans rfl; have hfz78_0 := blk_frozen BK155.out 0; have hfz78_1 := blk_frozen BK155.out 1; have hfz78_2 := blk_frozen BK155.out 2; have hfz78_3 := blk_frozen BK155.out 3; have hfz78_4 := blk_frozen BK155.out 4) | ((with_reducible refine gate_callee (f := 31) rfl ?_); refine goesL_ (some 78) rfl rfl Try.func31 (by kernel_rfl) rfl #[.slice Ao73 t165.length co73, .agg #[.int .i64 a1_0, .int .i64 0, .int .i64 a1_2]] rfl (by (try simp only [List.map_toArray, List.map_cons, List.map_nil]); first | done | rfl | (simp only [List.length_drop, List.length_take]; rfl)) ?_; (with_reducible refine (link_early.calls k (fun k_ => some k_ = (.slice Ao73 t165.length co73 : Value).ownBlock) (.slice Ao73 t165.length co73) t165 a1_0 0 a1_2 t179 w _ ?side1 ?side2 A61.out).mono ?_); (case side1 => repeat (first | (with_reducible first | exact HB.out | apply wA | apply wN | apply wD | refine below_set ?_ GE155.out | refine below_set ?_ GE156.out | refine below_set ?_ GE157.out | refine below_set ?_ GE158.out) | exact HB.out)); (case side2 => exact Kd.R_tight rfl HO167.out); rintro e w79 ⟨v180, rfl, ho0, hb, hkp⟩; refine ⟨_, rfl, ?_⟩; have n0_ := aM (blk_kept (by (with_reducible repeat (first | refine bN ?_ _ | refine bD ?_ | refine bA ?_ _)); exact BK155.out) hkp (fun hs_ => (fun e_ => (Kd.R_ne HO167.out BK155.out (by decide)) e_) hs_)); have n1_ := aM (blk_kept (by (with_reducible repeat (first | refine bN ?_ _ | refine bD ?_ | refine bA ?_ _)); exact BK156.out) hkp (fun hs_ => (fun e_ => (Kd.R_away HO167.out (fun _ hk => hk.1)) e_) hs_)); have n2_ := aM (blk_kept (by (with_reducible repeat (first | refine bN ?_ _ | refine bD ?_ | refine bA ?_ _)); exact BK157.out) hkp (fun hs_ => (fun e_ => (Kd.R_ne HO167.out BK157.out (by decide)) e_) hs_)); have n3_ := aM (blk_kept (by (with_reducible repeat (first | refine bN ?_ _ | refine bD ?_ | refine bA ?_ _)); exact BK158.out) hkp (fun hs_ => (fun e_ => (Kd.R_away HO167.out (fun _ hk => hk.2)) e_) hs_)); have n4_ := aM (Kd.R_mono (ok' := fun k_ => True) (Kd.R_keptB ((Kd.R_apart' HO163.out (Kd.R_typed HO167.out) (by decide))) hkp (fun k_ hk_ hs_ => (hk_.2) hs_)) (fun k_ hk_ => trivial)); have n5_ := aM (Kd.R_mono (ok' := fun k_ => k_ ≠ gb156 ∧ k_ ≠ gb158) ho0 (fun k_ hk_ => ⟨Or.elim hk_ (fun hs_ => fun e_ => (Kd.R_away HO167.out (fun _ hk => hk.1)) (by rw [← e_]; exact hs_)) (fun hn_ => (Kd.freshB (g := gb156) (o := .cells #[.int .i64 a1_0, .int .i64 a1_1, .int .i64 a1_2] 42 (0, 0)) (by (with_reducible repeat (first | refine bN ?_ _ | refine bD ?_ | refine bA ?_ _)); exact BK156.out) k_ hn_)), Or.elim hk_ (fun hs_ => fun e_ => (Kd.R_away HO167.out (fun _ hk => hk.2)) (by rw [← e_]; exact hs_)) (fun hn_ => (Kd.freshB (g := gb158) (o := .cells #[.int .i64 0, .int .i64 0, .int .i64 0] 42 (0, 0)) (by (with_reducible repeat (first | refine bN ?_ _ | refine bD ?_ | refine bA ?_ _)); exact BK158.out) k_ hn_))⟩)); have n6_ := aM (hb); clear BK155; clear BK156; clear BK157; clear BK158; clear HO163; clear HB; clear HO167; have BK155 := n0_; have BK156 := n1_; have BK157 := n2_; have BK158 := n3_; have HO163 := n4_; have HO181 := n5_; have HB := n6_; clear n0_ n1_ n2_ n3_ n4_ n5_ n6_; (try clear hb); (try clear hkp); (try clear ho0); obtain ⟨Ao80, co80, eo80⟩ := Kd.R_slice HO181.out; subst eo80; have hcz81_0 : w79.cell? ⟨gb155, 0, none⟩ = some (.int .i64 t159) := (blk_cell BK155.out 0).trans rfl; have hcz81_1 : w79.cell? ⟨gb155, 1, none⟩ = some (.int .i64 t160) := (blk_cell BK155.out 1).trans rfl; have hcz81_2 : w79.cell? ⟨gb155, 2, none⟩ = some (.slice Ao72 t161.length co72) := (blk_cell BK155.out 2).trans rfl; have hcz81_3 : w79.cell? ⟨gb155, 3, none⟩ = some (.int .i64 t164) := (blk_cell BK155.out 3).trans rfl; have hcz81_4 : w79.cell? ⟨gb155, 4, none⟩ = some (.slice Ao73 t165.length co73) := (blk_cell BK155.out 4).trans rfl; have hfz81_0 := blk_frozen BK155.out 0; have hfz81_1 := blk_frozen BK155.out 1; have hfz81_2 := blk_frozen BK155.out 2; have hfz81_3 := blk_frozen BK155.out 3; have hfz81_4 := blk_frozen BK155.out 4))
    have n0_ : Aside0 (Kd.R (Kd.int .i64) 3 (w79.setCell ⟨gb155, 4, none⟩ (.slice Ao80 t179.length co80)) w.heap.size (fun _ => True) (.slice Ao72 t161.length co72) t161) := ⟨by (with_reducible repeat (first | apply Kd.R_alloc | apply Kd.R_drewN | apply Kd.R_drew)); exact Kd.R_mono (Kd.R_far (p := ⟨gb155, 4, none⟩) (Kd.R_types HO163.out BK155.out (by decide)) (fun _ hk => hk.2) (.slice Ao80 t179.length co80)) (fun _ hk => trivial)⟩
    have n1_ : Aside0 (Kd.R k42 42 (w79.setCell ⟨gb155, 4, none⟩ (.slice Ao80 t179.length co80)) w.heap.size (fun k_ => k_ ≠ gb156 ∧ k_ ≠ gb158) (.slice Ao80 t179.length co80) t179) := ⟨by (with_reducible repeat (first | apply Kd.R_alloc | apply Kd.R_drewN | apply Kd.R_drew)); exact Kd.R_mono (Kd.R_far (p := ⟨gb155, 4, none⟩) (Kd.R_types HO181.out BK155.out (by decide)) (fun _ hk => hk.2) (.slice Ao80 t179.length co80)) (fun _ hk => ⟨hk.1.1, hk.1.2⟩)⟩
    have n2_ : Aside0 ((w79.setCell ⟨gb155, 4, none⟩ (.slice Ao80 t179.length co80)).heap[gb155]? = some (.cells #[.int .i64 t159, .int .i64 t160, .slice Ao72 t161.length co72, .int .i64 t164, .slice Ao80 t179.length co80] 27 (0, 0))) := ⟨by (with_reducible repeat (first | refine bN ?_ _ | refine bD ?_ | refine bA ?_ _)); refine blk_put (cs := #[.int .i64 t159, .int .i64 t160, .slice Ao72 t161.length co72, .int .i64 t164, .slice Ao73 t165.length co73]) ?_ 4 _ rfl; (with_reducible repeat (first | refine bN ?_ _ | refine bD ?_ | refine bA ?_ _)); exact BK155.out⟩
    have n3_ : Aside0 ((w79.setCell ⟨gb155, 4, none⟩ (.slice Ao80 t179.length co80)).heap[gb156]? = some (.cells #[.int .i64 a1_0, .int .i64 a1_1, .int .i64 a1_2] 42 (0, 0))) := ⟨by (with_reducible repeat (first | refine bN ?_ _ | refine bD ?_ | refine bA ?_ _)); refine blk_far ?_ NB156_155.out _; (with_reducible repeat (first | refine bN ?_ _ | refine bD ?_ | refine bA ?_ _)); exact BK156.out⟩
    have n4_ : Aside0 ((w79.setCell ⟨gb155, 4, none⟩ (.slice Ao80 t179.length co80)).heap[gb157]? = some (.cells #[.int .i64 0, .int .i64 0, .slice none 0 0, .int .i64 0, .slice none 0 0] 27 (0, 0))) := ⟨by (with_reducible repeat (first | refine bN ?_ _ | refine bD ?_ | refine bA ?_ _)); refine blk_far ?_ NB157_155.out _; (with_reducible repeat (first | refine bN ?_ _ | refine bD ?_ | refine bA ?_ _)); exact BK157.out⟩
    have n5_ : Aside0 ((w79.setCell ⟨gb155, 4, none⟩ (.slice Ao80 t179.length co80)).heap[gb158]? = some (.cells #[.int .i64 0, .int .i64 0, .int .i64 0] 42 (0, 0))) := ⟨by (with_reducible repeat (first | refine bN ?_ _ | refine bD ?_ | refine bA ?_ _)); refine blk_far ?_ NB158_155.out _; (with_reducible repeat (first | refine bN ?_ _ | refine bD ?_ | refine bA ?_ _)); exact BK158.out⟩
    have n6_ : Aside0 (Below w.heap.size w (w79.setCell ⟨gb155, 4, none⟩ (.slice Ao80 t179.length co80))) := ⟨by repeat (first | (with_reducible first | exact HB.out | apply wA | apply wN | apply wD | refine below_set ?_ GE155.out | refine below_set ?_ GE156.out | refine below_set ?_ GE157.out | refine below_set ?_ GE158.out) | exact HB.out)⟩
    (try clear HO163)
    (try clear HO181)
    (try clear BK155)
    (try clear BK156)
    (try clear BK157)
    (try clear BK158)
    (try clear HB)
    generalize (w79.setCell ⟨gb155, 4, none⟩ (.slice Ao80 t179.length co80)) = w82 at n0_ n1_ n2_ n3_ n4_ n5_ n6_ ⊢
    have HO163 := n0_
    have HO181 := n1_
    have BK155 := n2_
    have BK156 := n3_
    have BK157 := n4_
    have BK158 := n5_
    have HB := n6_
    clear n0_ n1_ n2_ n3_ n4_ n5_ n6_
    have n0_ := aM (Kd.R_drew HO163.out)
    have n1_ := aM (Kd.R_drew HO181.out)
    have n2_ := aM (bD BK155.out)
    have n3_ := aM (bD BK156.out)
    have n4_ := aM (bD BK157.out)
    have n5_ := aM (bD BK158.out)
    have n6_ := aM (wD HB.out)
    clear HO163
    clear HO181
    clear BK155
    clear BK156
    clear BK157
    clear BK158
    clear HB
    have HO163 := n0_
    have HO181 := n1_
    have BK155 := n2_
    have BK156 := n3_
    have BK157 := n4_
    have BK158 := n5_
    have HB := n6_
    clear n0_ n1_ n2_ n3_ n4_ n5_ n6_
    refine start_ (n := 9) (S := fun w' => w'.cell? ⟨gb155, 0, none⟩ = some (.int .i64 t159) ∧ w'.cell? ⟨gb155, 1, none⟩ = some (.int .i64 t160) ∧ w'.cell? ⟨gb155, 2, none⟩ = some (.slice Ao72 t161.length co72) ∧ w'.cell? ⟨gb155, 3, none⟩ = some (.int .i64 t164) ∧ w'.cell? ⟨gb155, 4, none⟩ = some (.slice Ao80 t179.length co80)) (ds := []) #[false, false, false, false, false, false, false, false, false] (by kernel_rfl) rfl rfl ⟨(blk_cell BK155.out 0).trans rfl, (blk_cell BK155.out 1).trans rfl, (blk_cell BK155.out 2).trans rfl, (blk_cell BK155.out 3).trans rfl, (blk_cell BK155.out 4).trans rfl⟩ (fun hHeld => ?_); refine with_tabW link_Arrive.tab12 link_Arrive.bits12 (fun HT_ HW_ => ?_)
    generalize w82.drew = w83 at HO163 HO181 BK155 BK156 BK157 BK158 HB hHeld ⊢
    refine pure_ (i := 1) (N := some 81) (v := ?_) (a' := ?_) #[false, true, false, false, false, false, false, false, false] rfl rfl (any_of HT_.out (by kernel_rfl)) (fun _ _ _ h => h) (Or.inl ⟨by rfl, ?_⟩) ?_ ?_
    rotate_left
    ·intro w'
     go_simp
     with_reducible rfl
    rotate_left
    ·simp only [Act.put, List.setIfInBounds_toArray, List.set_cons_zero, List.set_cons_succ, i64_w, i32_w]
     rfl
    refine pure_ (i := 2) (N := some 82) (v := ?_) (a' := ?_) #[false, true, true, false, false, false, false, false, false] rfl rfl (any_of HT_.out (by kernel_rfl)) (fun _ _ _ h => h) (Or.inl ⟨by rfl, ?_⟩) ?_ ?_
    rotate_left
    ·intro w'
     go_simp
     with_reducible rfl
    rotate_left
    ·simp only [Act.put, List.setIfInBounds_toArray, List.set_cons_zero, List.set_cons_succ, i64_w, i32_w]
     rfl
    refine take_ (i := 0) (N := some 80) (v := ?_) (a' := ?_) #[true, true, true, false, false, false, false, false, false] rfl rfl (take_ofW HT_.out HW_.out (by kernel_rfl)) (fun _ _ _ h => h) (Or.inl ⟨by rfl, ?_⟩) hHeld ?_ ?_
    rotate_left
    ·rintro w' ⟨s0, s1, s2, s3, s4⟩
     go_simp
     with_reducible rfl
    rotate_left
    ·simp only [Act.put, List.setIfInBounds_toArray, List.set_cons_zero, List.set_cons_succ, i64_w, i32_w]
     rfl
    refine take_ (i := 3) (N := some 83) (v := ?_) (a' := ?_) #[true, true, true, true, false, false, false, false, false] rfl rfl (take_ofW HT_.out HW_.out (by kernel_rfl)) (fun _ _ _ h => h) (Or.inl ⟨by rfl, ?_⟩) hHeld ?_ ?_
    rotate_left
    ·rintro w' ⟨s0, s1, s2, s3, s4⟩
     go_simp
     with_reducible rfl
    rotate_left
    ·simp only [Act.put, List.setIfInBounds_toArray, List.set_cons_zero, List.set_cons_succ, i64_w, i32_w]
     rfl
    refine pure_ (i := 4) (N := some 84) (v := ?_) (a' := ?_) #[true, true, true, true, true, false, false, false, false] rfl rfl (any_of HT_.out (by kernel_rfl)) (fun _ _ _ h => h) (Or.inl ⟨by rfl, ?_⟩) ?_ ?_
    rotate_left
    ·intro w'
     go_simp
     with_reducible rfl
    rotate_left
    ·simp only [Act.put, List.setIfInBounds_toArray, List.set_cons_zero, List.set_cons_succ, i64_w, i32_w]
     rfl
    refine pure_ (i := 5) (N := some 85) (v := ?_) (a' := ?_) #[true, true, true, true, true, true, false, false, false] rfl rfl (any_of HT_.out (by kernel_rfl)) (fun _ _ _ h => h) (Or.inl ⟨by rfl, ?_⟩) ?_ ?_
    rotate_left
    ·intro w'
     go_simp
     with_reducible rfl
    rotate_left
    ·simp only [Act.put, List.setIfInBounds_toArray, List.set_cons_zero, List.set_cons_succ, i64_w, i32_w]
     rfl
    refine one_ (i := 6) (N := none) #[true, true, true, true, true, true, true, false, false] rfl rfl (one_of HT_.out (by kernel_rfl)) (by decide) (fun K hK => ?_)
    have hs84 : w83.cell? ⟨gb157, 0, none⟩ = some (.int .i64 0) := (blk_cell BK157.out 0).trans rfl
    have hfs84 := blk_frozen BK157.out 0
    have hns84_0 := NB155_157.out
    have hns84_1 := NB156_157.out
    have hns84_3 := NB158_157.out
    have hms84_0 := NB157_155.out
    have hms84_1 := NB157_156.out
    have hms84_3 := NB157_158.out
    have hs85 : w83.cell? ⟨gb157, 1, none⟩ = some (.int .i64 0) := (blk_cell BK157.out 1).trans rfl
    have hfs85 := blk_frozen BK157.out 1
    have hns85_0 := NB155_157.out
    have hns85_1 := NB156_157.out
    have hns85_3 := NB158_157.out
    have hms85_0 := NB157_155.out
    have hms85_1 := NB157_156.out
    have hms85_3 := NB157_158.out
    have hs86 : w83.cell? ⟨gb157, 2, none⟩ = some (.slice none 0 0) := (blk_cell BK157.out 2).trans rfl
    have hfs86 := blk_frozen BK157.out 2
    have hns86_0 := NB155_157.out
    have hns86_1 := NB156_157.out
    have hns86_3 := NB158_157.out
    have hms86_0 := NB157_155.out
    have hms86_1 := NB157_156.out
    have hms86_3 := NB157_158.out
    have hs87 : w83.cell? ⟨gb157, 3, none⟩ = some (.int .i64 0) := (blk_cell BK157.out 3).trans rfl
    have hfs87 := blk_frozen BK157.out 3
    have hns87_0 := NB155_157.out
    have hns87_1 := NB156_157.out
    have hns87_3 := NB158_157.out
    have hms87_0 := NB157_155.out
    have hms87_1 := NB157_156.out
    have hms87_3 := NB157_158.out
    have hs88 : w83.cell? ⟨gb157, 4, none⟩ = some (.slice none 0 0) := (blk_cell BK157.out 4).trans rfl
    have hfs88 := blk_frozen BK157.out 4
    have hns88_0 := NB155_157.out
    have hns88_1 := NB156_157.out
    have hns88_3 := NB158_157.out
    have hms88_0 := NB157_155.out
    have hms88_1 := NB157_156.out
    have hms88_3 := NB157_158.out
    refine skip_ (w1 := ?_) (by rfl) rfl ?_ ?_
    rotate_left
    ·go_simp
     rfl
    refine hK.out _ _ ⟨((cell_far (p := ⟨gb157, _, none⟩) NB155_157.out _).trans (((cell_far (p := ⟨gb157, _, none⟩) NB155_157.out _).trans (((cell_far (p := ⟨gb157, _, none⟩) NB155_157.out _).trans (((cell_far (p := ⟨gb157, _, none⟩) NB155_157.out _).trans (((cell_far (p := ⟨gb157, _, none⟩) NB155_157.out _).trans (hHeld.1)))))))))), ((cell_far (p := ⟨gb157, _, none⟩) NB155_157.out _).trans (((cell_far (p := ⟨gb157, _, none⟩) NB155_157.out _).trans (((cell_far (p := ⟨gb157, _, none⟩) NB155_157.out _).trans (((cell_far (p := ⟨gb157, _, none⟩) NB155_157.out _).trans (((cell_far (p := ⟨gb157, _, none⟩) NB155_157.out _).trans (hHeld.2.1)))))))))), ((cell_far (p := ⟨gb157, _, none⟩) NB155_157.out _).trans (((cell_far (p := ⟨gb157, _, none⟩) NB155_157.out _).trans (((cell_far (p := ⟨gb157, _, none⟩) NB155_157.out _).trans (((cell_far (p := ⟨gb157, _, none⟩) NB155_157.out _).trans (((cell_far (p := ⟨gb157, _, none⟩) NB155_157.out _).trans (hHeld.2.2.1)))))))))), ((cell_far (p := ⟨gb157, _, none⟩) NB155_157.out _).trans (((cell_far (p := ⟨gb157, _, none⟩) NB155_157.out _).trans (((cell_far (p := ⟨gb157, _, none⟩) NB155_157.out _).trans (((cell_far (p := ⟨gb157, _, none⟩) NB155_157.out _).trans (((cell_far (p := ⟨gb157, _, none⟩) NB155_157.out _).trans (hHeld.2.2.2.1)))))))))), ((cell_far (p := ⟨gb157, _, none⟩) NB155_157.out _).trans (((cell_far (p := ⟨gb157, _, none⟩) NB155_157.out _).trans (((cell_far (p := ⟨gb157, _, none⟩) NB155_157.out _).trans (((cell_far (p := ⟨gb157, _, none⟩) NB155_157.out _).trans (((cell_far (p := ⟨gb157, _, none⟩) NB155_157.out _).trans (hHeld.2.2.2.2))))))))))⟩ (fun hHeld => ?_)
    clear hK K
    refine pure_ (i := 7) (N := some 5) (v := ?_) (a' := ?_) #[true, true, true, true, true, true, true, true, false] rfl rfl (any_of HT_.out (by kernel_rfl)) (fun _ _ _ h => h) (Or.inl ⟨by rfl, ?_⟩) ?_ ?_
    rotate_left
    ·intro w'
     go_simp
     with_reducible rfl
    rotate_left
    ·simp only [Act.put, List.setIfInBounds_toArray, List.set_cons_zero, List.set_cons_succ, i64_w, i32_w]
     rfl
    refine one_ (i := 8) (N := none) #[true, true, true, true, true, true, true, true, true] rfl rfl (one_of HT_.out (by kernel_rfl)) (by decide) (fun K hK => ?_)
    have hs89 : w83.cell? ⟨gb158, 0, none⟩ = some (.int .i64 0) := (blk_cell BK158.out 0).trans rfl
    have hfs89 := blk_frozen BK158.out 0
    have hns89_0 := NB155_158.out
    have hns89_1 := NB156_158.out
    have hns89_2 := NB157_158.out
    have hms89_0 := NB158_155.out
    have hms89_1 := NB158_156.out
    have hms89_2 := NB158_157.out
    have hs90 : w83.cell? ⟨gb158, 1, none⟩ = some (.int .i64 0) := (blk_cell BK158.out 1).trans rfl
    have hfs90 := blk_frozen BK158.out 1
    have hns90_0 := NB155_158.out
    have hns90_1 := NB156_158.out
    have hns90_2 := NB157_158.out
    have hms90_0 := NB158_155.out
    have hms90_1 := NB158_156.out
    have hms90_2 := NB158_157.out
    have hs91 : w83.cell? ⟨gb158, 2, none⟩ = some (.int .i64 0) := (blk_cell BK158.out 2).trans rfl
    have hfs91 := blk_frozen BK158.out 2
    have hns91_0 := NB155_158.out
    have hns91_1 := NB156_158.out
    have hns91_2 := NB157_158.out
    have hms91_0 := NB158_155.out
    have hms91_1 := NB158_156.out
    have hms91_2 := NB158_157.out
    refine skip_ (w1 := ?_) (by rfl) rfl ?_ ?_
    rotate_left
    ·go_simp
     rfl
    refine hK.out _ _ ⟨((cell_far (p := ⟨gb158, _, none⟩) NB155_158.out _).trans (((cell_far (p := ⟨gb158, _, none⟩) NB155_158.out _).trans (((cell_far (p := ⟨gb158, _, none⟩) NB155_158.out _).trans (hHeld.1)))))), ((cell_far (p := ⟨gb158, _, none⟩) NB155_158.out _).trans (((cell_far (p := ⟨gb158, _, none⟩) NB155_158.out _).trans (((cell_far (p := ⟨gb158, _, none⟩) NB155_158.out _).trans (hHeld.2.1)))))), ((cell_far (p := ⟨gb158, _, none⟩) NB155_158.out _).trans (((cell_far (p := ⟨gb158, _, none⟩) NB155_158.out _).trans (((cell_far (p := ⟨gb158, _, none⟩) NB155_158.out _).trans (hHeld.2.2.1)))))), ((cell_far (p := ⟨gb158, _, none⟩) NB155_158.out _).trans (((cell_far (p := ⟨gb158, _, none⟩) NB155_158.out _).trans (((cell_far (p := ⟨gb158, _, none⟩) NB155_158.out _).trans (hHeld.2.2.2.1)))))), ((cell_far (p := ⟨gb158, _, none⟩) NB155_158.out _).trans (((cell_far (p := ⟨gb158, _, none⟩) NB155_158.out _).trans (((cell_far (p := ⟨gb158, _, none⟩) NB155_158.out _).trans (hHeld.2.2.2.2))))))⟩ (fun hHeld => ?_)
    clear hK K
    refine done_ (done_of HT_.out (by kernel_rfl)) ?_
    try go_wp2
    refine bodyPost_ret (results_list (rs := [.cell 4 27, .tmp 5, .cell 6 42]) rfl (by simp) (.cell gb157 27 #[.int .i64 t159, .int .i64 t160, .slice Ao72 t161.length co72, .int .i64 t164, .slice Ao80 t179.length co80] (0, 0) _ rfl (by (with_reducible repeat (first | refine bN ?_ _ | refine bD ?_ | refine bA ?_ _)); refine blk_far ?_ NB157_158.out _; (with_reducible repeat (first | refine bN ?_ _ | refine bD ?_ | refine bA ?_ _)); refine blk_far ?_ NB157_158.out _; (with_reducible repeat (first | refine bN ?_ _ | refine bD ?_ | refine bA ?_ _)); refine blk_far ?_ NB157_158.out _; (with_reducible repeat (first | refine bN ?_ _ | refine bD ?_ | refine bA ?_ _)); refine blk_put (cs := #[.int .i64 t159, .int .i64 t160, .slice Ao72 t161.length co72, .int .i64 t164, .slice none 0 0]) ?_ 4 _ rfl; (with_reducible repeat (first | refine bN ?_ _ | refine bD ?_ | refine bA ?_ _)); refine blk_put (cs := #[.int .i64 t159, .int .i64 t160, .slice Ao72 t161.length co72, .int .i64 0, .slice none 0 0]) ?_ 3 _ rfl; (with_reducible repeat (first | refine bN ?_ _ | refine bD ?_ | refine bA ?_ _)); refine blk_put (cs := #[.int .i64 t159, .int .i64 t160, .slice none 0 0, .int .i64 0, .slice none 0 0]) ?_ 2 _ rfl; (with_reducible repeat (first | refine bN ?_ _ | refine bD ?_ | refine bA ?_ _)); refine blk_put (cs := #[.int .i64 t159, .int .i64 0, .slice none 0 0, .int .i64 0, .slice none 0 0]) ?_ 1 _ rfl; (with_reducible repeat (first | refine bN ?_ _ | refine bD ?_ | refine bA ?_ _)); refine blk_put (cs := #[.int .i64 0, .int .i64 0, .slice none 0 0, .int .i64 0, .slice none 0 0]) ?_ 0 _ rfl; (with_reducible repeat (first | refine bN ?_ _ | refine bD ?_ | refine bA ?_ _)); exact BK157.out) Try.underlying27 rfl (by kernel_rfl) (.tmp (.cell gb158 42 #[.int .i64 0, .int .i64 (wrap64 (t164 - 1)), .int .i64 0] (0, 0) _ rfl (by (with_reducible repeat (first | refine bN ?_ _ | refine bD ?_ | refine bA ?_ _)); refine blk_put (cs := #[.int .i64 0, .int .i64 (wrap64 (t164 - 1)), .int .i64 0]) ?_ 2 _ rfl; (with_reducible repeat (first | refine bN ?_ _ | refine bD ?_ | refine bA ?_ _)); refine blk_put (cs := #[.int .i64 0, .int .i64 0, .int .i64 0]) ?_ 1 _ rfl; (with_reducible repeat (first | refine bN ?_ _ | refine bD ?_ | refine bA ?_ _)); refine blk_put (cs := #[.int .i64 0, .int .i64 0, .int .i64 0]) ?_ 0 _ rfl; (with_reducible repeat (first | refine bN ?_ _ | refine bD ?_ | refine bA ?_ _)); refine blk_far ?_ NB158_157.out _; (with_reducible repeat (first | refine bN ?_ _ | refine bD ?_ | refine bA ?_ _)); refine blk_far ?_ NB158_157.out _; (with_reducible repeat (first | refine bN ?_ _ | refine bD ?_ | refine bA ?_ _)); refine blk_far ?_ NB158_157.out _; (with_reducible repeat (first | refine bN ?_ _ | refine bD ?_ | refine bA ?_ _)); refine blk_far ?_ NB158_157.out _; (with_reducible repeat (first | refine bN ?_ _ | refine bD ?_ | refine bA ?_ _)); refine blk_far ?_ NB158_157.out _; (with_reducible repeat (first | refine bN ?_ _ | refine bD ?_ | refine bA ?_ _)); exact BK158.out) Try.underlying42 rfl (by kernel_rfl) .nil)))) rfl ?_
    exact ⟨_, _, _, by first | rfl | (simp [errW_none, errW_some] <;> rfl) | (simp [*, errW_none, errW_some] <;> rfl), by (with_reducible repeat (first | apply Kd.R_alloc | apply Kd.R_drewN | apply Kd.R_drew)); exact Kd.R_mono (Kd.R_far (p := ⟨gb158, 2, none⟩) (Kd.R_far (p := ⟨gb158, 1, none⟩) (Kd.R_far (p := ⟨gb158, 0, none⟩) (Kd.R_far (p := ⟨gb157, 4, none⟩) (Kd.R_far (p := ⟨gb157, 3, none⟩) (Kd.R_far (p := ⟨gb157, 2, none⟩) (Kd.R_far (p := ⟨gb157, 1, none⟩) (Kd.R_far (p := ⟨gb157, 0, none⟩) (Kd.R_types (Kd.R_types HO163.out BK157.out (by decide)) BK158.out (by decide)) (fun _ hk => hk.1.2) (.int .i64 t159)) (fun _ hk => hk.1.2) (.int .i64 t160)) (fun _ hk => hk.1.2) (.slice Ao72 t161.length co72)) (fun _ hk => hk.1.2) (.int .i64 t164)) (fun _ hk => hk.1.2) (.slice Ao80 t179.length co80)) (fun _ hk => hk.2) (.int .i64 0)) (fun _ hk => hk.2) (.int .i64 (wrap64 (t164 - 1)))) (fun _ hk => hk.2) (.int .i64 0)) (fun _ hk => (by simp [Value.ownBlock])), Kd.Q_of_R (by (with_reducible repeat (first | apply Kd.R_alloc | apply Kd.R_drewN | apply Kd.R_drew)); exact Kd.R_mono (Kd.R_far (p := ⟨gb158, 2, none⟩) (Kd.R_far (p := ⟨gb158, 1, none⟩) (Kd.R_far (p := ⟨gb158, 0, none⟩) (Kd.R_far (p := ⟨gb157, 4, none⟩) (Kd.R_far (p := ⟨gb157, 3, none⟩) (Kd.R_far (p := ⟨gb157, 2, none⟩) (Kd.R_far (p := ⟨gb157, 1, none⟩) (Kd.R_far (p := ⟨gb157, 0, none⟩) (Kd.R_mono (Kd.R_types HO181.out BK157.out (by decide)) (fun k_ hk => (⟨hk, hk.1.2⟩ : _ ∧ k_ ≠ gb158))) (fun _ hk => hk.1.2) (.int .i64 t159)) (fun _ hk => hk.1.2) (.int .i64 t160)) (fun _ hk => hk.1.2) (.slice Ao72 t161.length co72)) (fun _ hk => hk.1.2) (.int .i64 t164)) (fun _ hk => hk.1.2) (.slice Ao80 t179.length co80)) (fun _ hk => hk.2) (.int .i64 0)) (fun _ hk => hk.2) (.int .i64 (wrap64 (t164 - 1)))) (fun _ hk => hk.2) (.int .i64 0)) (fun _ hk => trivial)), by first | exact Kd.R_nil _ _ _ _ _ | exact Kd.N_nil _ _ _ _ _ | exact Kd.V_nil _ _ _ _ _ | exact Kd.Q_nil _ _ _ _ _ | exact Kd.S_nil _ _ _ _ _, by repeat (first | (with_reducible first | exact HB.out | apply wA | apply wN | apply wD | refine below_set ?_ GE155.out | refine below_set ?_ GE156.out | refine below_set ?_ GE157.out | refine below_set ?_ GE158.out) | exact HB.out)⟩
   ·rw [if_neg c60] at H
    have c60b0 : decide (a1_0 < (wrap64 (t164 + t159))) = false := decide_eq_false c60
    clear c60
    simp only [Option.some.injEq, Prod.mk.injEq] at H
    obtain ⟨rfl, rfl, rfl, rfl, rfl, rfl, rfl, rfl, rfl⟩ := H
    go_enter Try.func17, Try.ntmps17
    try go_wp2_with (first | ((with_reducible refine gate_dst (N := 2) rfl ?_); refine box_event ?hg (N := 2) ?hd (cs := #[.int .i64 a0_0, .int .i64 a0_1, .slice A0_2 l0_2.length c0_2, .int .i64 a0_3, .slice A0_4 l0_4.length c0_4]) (t := 27) ?hr ?_; (case hd => rfl); (case hg => rfl); (case hr => first | (go_simp; done) | (go_simp; rfl)); intro gb155 hg w92 hbox hb; have n0_ := aM (below_step (by repeat (first | (with_reducible first | exact HB.out | apply wA | apply wN | apply wD) | exact HB.out)) hb); have n1_ := aM (hbox); have n2_ := aM ((by rw [hg]; exact (below_size (by repeat (first | (with_reducible first | exact HB.out | apply wA | apply wN | apply wD) | exact HB.out))) : w.heap.size ≤ gb155)); have n3_ := aM ((by rw [hg]; exact (below_size (by repeat (first | (with_reducible first | exact HB.out | apply wA | apply wN | apply wD) | exact HB.out))) : w.heap.size ≤ gb155)); clear HB; have HB := n0_; have BK155 := n1_; have GW155 := n2_; have GE155 := n3_; clear n0_ n1_ n2_ n3_; clear hb hbox hg) | ((with_reducible refine gate_dst (N := 3) rfl ?_); refine box_event ?hg (N := 3) ?hd (cs := #[.int .i64 a1_0, .int .i64 a1_1, .int .i64 a1_2]) (t := 42) ?hr ?_; (case hd => rfl); (case hg => rfl); (case hr => first | (go_simp; done) | (go_simp; rfl)); intro gb156 hg w93 hbox hb; have n0_ := aM (blk_below (g := gb155) (o := .cells #[.int .i64 a0_0, .int .i64 a0_1, .slice A0_2 l0_2.length c0_2, .int .i64 a0_3, .slice A0_4 l0_4.length c0_4] 27 (0, 0)) (by (with_reducible repeat (first | refine bN ?_ _ | refine bD ?_ | refine bA ?_ _)); exact BK155.out) hb); have n1_ := aM (below_step (by repeat (first | (with_reducible first | exact HB.out | apply wA | apply wN | apply wD | refine below_set ?_ GE155.out) | exact HB.out)) hb); have n2_ := aM (hbox); have n3_ := aM ((by rw [hg]; exact (below_size (by repeat (first | (with_reducible first | exact HB.out | apply wA | apply wN | apply wD | refine below_set ?_ GE155.out) | exact HB.out))) : w.heap.size ≤ gb156)); have n4_ := aM ((by rw [hg]; exact (below_size (by repeat (first | (with_reducible first | exact HB.out | apply wA | apply wN | apply wD | refine below_set ?_ GE155.out) | exact HB.out))) : w.heap.size ≤ gb156)); have n5_ := aM ((by rw [hg]; exact Nat.ne_of_lt (blk_lt (g := gb155) (o := .cells #[.int .i64 a0_0, .int .i64 a0_1, .slice A0_2 l0_2.length c0_2, .int .i64 a0_3, .slice A0_4 l0_4.length c0_4] 27 (0, 0)) (by (with_reducible repeat (first | refine bN ?_ _ | refine bD ?_ | refine bA ?_ _)); exact BK155.out)) : gb155 ≠ gb156)); have n6_ := aM ((by rw [hg]; exact Nat.ne_of_gt (blk_lt (g := gb155) (o := .cells #[.int .i64 a0_0, .int .i64 a0_1, .slice A0_2 l0_2.length c0_2, .int .i64 a0_3, .slice A0_4 l0_4.length c0_4] 27 (0, 0)) (by (with_reducible repeat (first | refine bN ?_ _ | refine bD ?_ | refine bA ?_ _)); exact BK155.out)) : gb156 ≠ gb155)); clear BK155; clear HB; have BK155 := n0_; have HB := n1_; have BK156 := n2_; have GW156 := n3_; have GE156 := n4_; have NB155_156 := n5_; have NB156_155 := n6_; clear n0_ n1_ n2_ n3_ n4_ n5_ n6_; clear hb hbox hg) | ((with_reducible refine gate_dst (N := 4) rfl ?_); refine box_event ?hg (N := 4) ?hd (cs := #[.int .i64 0, .int .i64 0, .slice none 0 0, .int .i64 0, .slice none 0 0]) (t := 27) ?hr ?_; (case hd => rfl); (case hg => rfl); (case hr => first | (go_simp; done) | (go_simp; rfl)); intro gb157 hg w94 hbox hb; have n0_ := aM (blk_below (g := gb155) (o := .cells #[.int .i64 a0_0, .int .i64 a0_1, .slice A0_2 l0_2.length c0_2, .int .i64 a0_3, .slice A0_4 l0_4.length c0_4] 27 (0, 0)) (by (with_reducible repeat (first | refine bN ?_ _ | refine bD ?_ | refine bA ?_ _)); exact BK155.out) hb); have n1_ := aM (blk_below (g := gb156) (o := .cells #[.int .i64 a1_0, .int .i64 a1_1, .int .i64 a1_2] 42 (0, 0)) (by (with_reducible repeat (first | refine bN ?_ _ | refine bD ?_ | refine bA ?_ _)); exact BK156.out) hb); have n2_ := aM (below_step (by repeat (first | (with_reducible first | exact HB.out | apply wA | apply wN | apply wD | refine below_set ?_ GE155.out | refine below_set ?_ GE156.out) | exact HB.out)) hb); have n3_ := aM (hbox); have n4_ := aM ((by rw [hg]; exact (below_size (by repeat (first | (with_reducible first | exact HB.out | apply wA | apply wN | apply wD | refine below_set ?_ GE155.out | refine below_set ?_ GE156.out) | exact HB.out))) : w.heap.size ≤ gb157)); have n5_ := aM ((by rw [hg]; exact (below_size (by repeat (first | (with_reducible first | exact HB.out | apply wA | apply wN | apply wD | refine below_set ?_ GE155.out | refine below_set ?_ GE156.out) | exact HB.out))) : w.heap.size ≤ gb157)); have n6_ := aM ((by rw [hg]; exact Nat.ne_of_lt (blk_lt (g := gb155) (o := .cells #[.int .i64 a0_0, .int .i64 a0_1, .slice A0_2 l0_2.length c0_2, .int .i64 a0_3, .slice A0_4 l0_4.length c0_4] 27 (0, 0)) (by (with_reducible repeat (first | refine bN ?_ _ | refine bD ?_ | refine bA ?_ _)); exact BK155.out)) : gb155 ≠ gb157)); have n7_ := aM ((by rw [hg]; exact Nat.ne_of_gt (blk_lt (g := gb155) (o := .cells #[.int .i64 a0_0, .int .i64 a0_1, .slice A0_2 l0_2.length c0_2, .int .i64 a0_3, .slice A0_4 l0_4.length c0_4] 27 (0, 0)) (by (with_reducible repeat (first | refine bN ?_ _ | refine bD ?_ | refine bA ?_ _)); exact BK155.out)) : gb157 ≠ gb155)); have n8_ := aM ((by rw [hg]; exact Nat.ne_of_lt (blk_lt (g := gb156) (o := .cells #[.int .i64 a1_0, .int .i64 a1_1, .int .i64 a1_2] 42 (0, 0)) (by (with_reducible repeat (first | refine bN ?_ _ | refine bD ?_ | refine bA ?_ _)); exact BK156.out)) : gb156 ≠ gb157)); have n9_ := aM ((by rw [hg]; exact Nat.ne_of_gt (blk_lt (g := gb156) (o := .cells #[.int .i64 a1_0, .int .i64 a1_1, .int .i64 a1_2] 42 (0, 0)) (by (with_reducible repeat (first | refine bN ?_ _ | refine bD ?_ | refine bA ?_ _)); exact BK156.out)) : gb157 ≠ gb156)); clear BK155; clear BK156; clear HB; have BK155 := n0_; have BK156 := n1_; have HB := n2_; have BK157 := n3_; have GW157 := n4_; have GE157 := n5_; have NB155_157 := n6_; have NB157_155 := n7_; have NB156_157 := n8_; have NB157_156 := n9_; clear n0_ n1_ n2_ n3_ n4_ n5_ n6_ n7_ n8_ n9_; clear hb hbox hg) | ((with_reducible refine gate_dst (N := 6) rfl ?_); refine box_event ?hg (N := 6) ?hd (cs := #[.int .i64 0, .int .i64 0, .int .i64 0]) (t := 42) ?hr ?_; (case hd => rfl); (case hg => rfl); (case hr => first | (go_simp; done) | (go_simp; rfl)); intro gb158 hg w95 hbox hb; have n0_ := aM (blk_below (g := gb155) (o := .cells #[.int .i64 a0_0, .int .i64 a0_1, .slice A0_2 l0_2.length c0_2, .int .i64 a0_3, .slice A0_4 l0_4.length c0_4] 27 (0, 0)) (by (with_reducible repeat (first | refine bN ?_ _ | refine bD ?_ | refine bA ?_ _)); exact BK155.out) hb); have n1_ := aM (blk_below (g := gb156) (o := .cells #[.int .i64 a1_0, .int .i64 a1_1, .int .i64 a1_2] 42 (0, 0)) (by (with_reducible repeat (first | refine bN ?_ _ | refine bD ?_ | refine bA ?_ _)); exact BK156.out) hb); have n2_ := aM (blk_below (g := gb157) (o := .cells #[.int .i64 0, .int .i64 0, .slice none 0 0, .int .i64 0, .slice none 0 0] 27 (0, 0)) (by (with_reducible repeat (first | refine bN ?_ _ | refine bD ?_ | refine bA ?_ _)); exact BK157.out) hb); have n3_ := aM (below_step (by repeat (first | (with_reducible first | exact HB.out | apply wA | apply wN | apply wD | refine below_set ?_ GE155.out | refine below_set ?_ GE156.out | refine below_set ?_ GE157.out) | exact HB.out)) hb); have n4_ := aM (hbox); have n5_ := aM ((by rw [hg]; exact (below_size (by repeat (first | (with_reducible first | exact HB.out | apply wA | apply wN | apply wD | refine below_set ?_ GE155.out | refine below_set ?_ GE156.out | refine below_set ?_ GE157.out) | exact HB.out))) : w.heap.size ≤ gb158)); have n6_ := aM ((by rw [hg]; exact (below_size (by repeat (first | (with_reducible first | exact HB.out | apply wA | apply wN | apply wD | refine below_set ?_ GE155.out | refine below_set ?_ GE156.out | refine below_set ?_ GE157.out) | exact HB.out))) : w.heap.size ≤ gb158)); have n7_ := aM ((by rw [hg]; exact Nat.ne_of_lt (blk_lt (g := gb155) (o := .cells #[.int .i64 a0_0, .int .i64 a0_1, .slice A0_2 l0_2.length c0_2, .int .i64 a0_3, .slice A0_4 l0_4.length c0_4] 27 (0, 0)) (by (with_reducible repeat (first | refine bN ?_ _ | refine bD ?_ | refine bA ?_ _)); exact BK155.out)) : gb155 ≠ gb158)); have n8_ := aM ((by rw [hg]; exact Nat.ne_of_gt (blk_lt (g := gb155) (o := .cells #[.int .i64 a0_0, .int .i64 a0_1, .slice A0_2 l0_2.length c0_2, .int .i64 a0_3, .slice A0_4 l0_4.length c0_4] 27 (0, 0)) (by (with_reducible repeat (first | refine bN ?_ _ | refine bD ?_ | refine bA ?_ _)); exact BK155.out)) : gb158 ≠ gb155)); have n9_ := aM ((by rw [hg]; exact Nat.ne_of_lt (blk_lt (g := gb156) (o := .cells #[.int .i64 a1_0, .int .i64 a1_1, .int .i64 a1_2] 42 (0, 0)) (by (with_reducible repeat (first | refine bN ?_ _ | refine bD ?_ | refine bA ?_ _)); exact BK156.out)) : gb156 ≠ gb158)); have n10_ := aM ((by rw [hg]; exact Nat.ne_of_gt (blk_lt (g := gb156) (o := .cells #[.int .i64 a1_0, .int .i64 a1_1, .int .i64 a1_2] 42 (0, 0)) (by (with_reducible repeat (first | refine bN ?_ _ | refine bD ?_ | refine bA ?_ _)); exact BK156.out)) : gb158 ≠ gb156)); have n11_ := aM ((by rw [hg]; exact Nat.ne_of_lt (blk_lt (g := gb157) (o := .cells #[.int .i64 0, .int .i64 0, .slice none 0 0, .int .i64 0, .slice none 0 0] 27 (0, 0)) (by (with_reducible repeat (first | refine bN ?_ _ | refine bD ?_ | refine bA ?_ _)); exact BK157.out)) : gb157 ≠ gb158)); have n12_ := aM ((by rw [hg]; exact Nat.ne_of_gt (blk_lt (g := gb157) (o := .cells #[.int .i64 0, .int .i64 0, .slice none 0 0, .int .i64 0, .slice none 0 0] 27 (0, 0)) (by (with_reducible repeat (first | refine bN ?_ _ | refine bD ?_ | refine bA ?_ _)); exact BK157.out)) : gb158 ≠ gb157)); clear BK155; clear BK156; clear BK157; clear HB; have BK155 := n0_; have BK156 := n1_; have BK157 := n2_; have HB := n3_; have BK158 := n4_; have GW158 := n5_; have GE158 := n6_; have NB155_158 := n7_; have NB158_155 := n8_; have NB156_158 := n9_; have NB158_156 := n10_; have NB157_158 := n11_; have NB158_157 := n12_; clear n0_ n1_ n2_ n3_ n4_ n5_ n6_ n7_ n8_ n9_ n10_ n11_ n12_; clear hb hbox hg; have hnb96 := NB155_156.out; have hnc96 := NB156_155.out; have hnb97 := NB155_157.out; have hnc97 := NB157_155.out; have hnb98 := NB155_158.out; have hnc98 := NB158_155.out; have hcz99_0 : w95.cell? ⟨gb155, 0, none⟩ = some (.int .i64 a0_0) := (blk_cell BK155.out 0).trans rfl; have hcz99_1 : w95.cell? ⟨gb155, 1, none⟩ = some (.int .i64 a0_1) := (blk_cell BK155.out 1).trans rfl; have hcz99_2 : w95.cell? ⟨gb155, 2, none⟩ = some (.slice A0_2 l0_2.length c0_2) := (blk_cell BK155.out 2).trans rfl; have hcz99_3 : w95.cell? ⟨gb155, 3, none⟩ = some (.int .i64 a0_3) := (blk_cell BK155.out 3).trans rfl; have hcz99_4 : w95.cell? ⟨gb155, 4, none⟩ = some (.slice A0_4 l0_4.length c0_4) := (blk_cell BK155.out 4).trans rfl; have hfz99_0 := blk_frozen BK155.out 0; have hfz99_1 := blk_frozen BK155.out 1; have hfz99_2 := blk_frozen BK155.out 2; have hfz99_3 := blk_frozen BK155.out 3; have hfz99_4 := blk_frozen BK155.out 4) | ((with_reducible refine gate_callee (f := 30) rfl ?_); refine goesL_ (some 9) rfl rfl Try.func30 (by kernel_rfl) rfl #[.agg #[.int .i64 a0_0, .int .i64 a0_1, .slice A0_2 l0_2.length c0_2, .int .i64 a0_3, .slice A0_4 l0_4.length c0_4]] rfl (by (try simp only [List.map_toArray, List.map_cons, List.map_nil]); first | done | rfl | (simp only [List.length_drop, List.length_take]; rfl)) ?_; (with_reducible refine (link_clone.calls a0_0 a0_1 _ _ l0_2 a0_3 _ _ l0_4 t159 t160 t161 t164 t165 _ ?side1 ?side2 ?side3 ?side4 A3.out).mono ?_); (case side1 => repeat (first | exact (Kd.C_below HR0_2.out HB.out) | (with_reducible refine Kd.C_alloc ?_ _) | (with_reducible refine Kd.C_drewN ?_ _) | (with_reducible refine Kd.C_drew ?_))); (case side2 => exact HC0_2.out); (case side3 => repeat (first | exact (Kd.C_below HR0_4.out HB.out) | (with_reducible refine Kd.C_alloc ?_ _) | (with_reducible refine Kd.C_drewN ?_ _) | (with_reducible refine Kd.C_drew ?_))); (case side4 => exact HC0_4.out); rintro e w100 ⟨v162, v166, rfl, ho0, ho1, hb⟩; refine ⟨_, rfl, ?_⟩; have n0_ := aM (Kd.R_lower ho0 (below_size (by repeat (first | (with_reducible first | exact HB.out | apply wA | apply wN | apply wD | refine below_set ?_ GE155.out | refine below_set ?_ GE156.out | refine below_set ?_ GE157.out | refine below_set ?_ GE158.out) | exact HB.out)))); have n1_ := aM (Kd.R_lower (Kd.R_newB (Kd.R_newB ho1 (g := gb156) (o := .cells #[.int .i64 a1_0, .int .i64 a1_1, .int .i64 a1_2] 42 (0, 0)) (by (with_reducible repeat (first | refine bN ?_ _ | refine bD ?_ | refine bA ?_ _)); exact BK156.out)) (g := gb158) (o := .cells #[.int .i64 0, .int .i64 0, .int .i64 0] 42 (0, 0)) (by (with_reducible repeat (first | refine bN ?_ _ | refine bD ?_ | refine bA ?_ _)); exact BK158.out)) (below_size (by repeat (first | (with_reducible first | exact HB.out | apply wA | apply wN | apply wD | refine below_set ?_ GE155.out | refine below_set ?_ GE156.out | refine below_set ?_ GE157.out | refine below_set ?_ GE158.out) | exact HB.out)))); have n2_ := aM (blk_below (g := gb155) (o := .cells #[.int .i64 a0_0, .int .i64 a0_1, .slice A0_2 l0_2.length c0_2, .int .i64 a0_3, .slice A0_4 l0_4.length c0_4] 27 (0, 0)) (by (with_reducible repeat (first | refine bN ?_ _ | refine bD ?_ | refine bA ?_ _)); exact BK155.out) hb); have n3_ := aM (blk_below (g := gb156) (o := .cells #[.int .i64 a1_0, .int .i64 a1_1, .int .i64 a1_2] 42 (0, 0)) (by (with_reducible repeat (first | refine bN ?_ _ | refine bD ?_ | refine bA ?_ _)); exact BK156.out) hb); have n4_ := aM (blk_below (g := gb157) (o := .cells #[.int .i64 0, .int .i64 0, .slice none 0 0, .int .i64 0, .slice none 0 0] 27 (0, 0)) (by (with_reducible repeat (first | refine bN ?_ _ | refine bD ?_ | refine bA ?_ _)); exact BK157.out) hb); have n5_ := aM (blk_below (g := gb158) (o := .cells #[.int .i64 0, .int .i64 0, .int .i64 0] 42 (0, 0)) (by (with_reducible repeat (first | refine bN ?_ _ | refine bD ?_ | refine bA ?_ _)); exact BK158.out) hb); have n6_ := aM (below_step (by repeat (first | (with_reducible first | exact HB.out | apply wA | apply wN | apply wD | refine below_set ?_ GE155.out | refine below_set ?_ GE156.out | refine below_set ?_ GE157.out | refine below_set ?_ GE158.out) | exact HB.out)) hb); clear BK155; clear BK156; clear BK157; clear BK158; clear HB; have HO163 := n0_; have HO167 := n1_; have BK155 := n2_; have BK156 := n3_; have BK157 := n4_; have BK158 := n5_; have HB := n6_; clear n0_ n1_ n2_ n3_ n4_ n5_ n6_; (try clear hb); (try clear hb2); (try clear hk); (try clear hi); (try clear hge_); (try clear ho0); (try clear ho1); have hcz101_0 : w100.cell? ⟨gb155, 0, none⟩ = some (.int .i64 a0_0) := (blk_cell BK155.out 0).trans rfl; have hcz101_1 : w100.cell? ⟨gb155, 1, none⟩ = some (.int .i64 a0_1) := (blk_cell BK155.out 1).trans rfl; have hcz101_2 : w100.cell? ⟨gb155, 2, none⟩ = some (.slice A0_2 l0_2.length c0_2) := (blk_cell BK155.out 2).trans rfl; have hcz101_3 : w100.cell? ⟨gb155, 3, none⟩ = some (.int .i64 a0_3) := (blk_cell BK155.out 3).trans rfl; have hcz101_4 : w100.cell? ⟨gb155, 4, none⟩ = some (.slice A0_4 l0_4.length c0_4) := (blk_cell BK155.out 4).trans rfl; have hfz101_0 := blk_frozen BK155.out 0; have hfz101_1 := blk_frozen BK155.out 1; have hfz101_2 := blk_frozen BK155.out 2; have hfz101_3 := blk_frozen BK155.out 3; have hfz101_4 := blk_frozen BK155.out 4; obtain ⟨Ao102, co102, eo102⟩ := Kd.R_slice HO163.out; subst eo102; obtain ⟨Ao103, co103, eo103⟩ := Kd.R_slice HO167.out; subst eo103; have hnb104 := NB156_157.out; have hnc104 := NB157_156.out; have hnb105 := NB156_158.out; have hnc105 := NB158_156.out; have hcz106_0 : w100.cell? ⟨gb156, 0, none⟩ = some (.int .i64 a1_0) := (blk_cell BK156.out 0).trans rfl; have hcz106_1 : w100.cell? ⟨gb156, 1, none⟩ = some (.int .i64 a1_1) := (blk_cell BK156.out 1).trans rfl; have hcz106_2 : w100.cell? ⟨gb156, 2, none⟩ = some (.int .i64 a1_2) := (blk_cell BK156.out 2).trans rfl; have hfz106_0 := blk_frozen BK156.out 0; have hfz106_1 := blk_frozen BK156.out 1; have hfz106_2 := blk_frozen BK156.out 2))
    have n0_ : Aside0 (Kd.R (Kd.int .i64) 3 (((((w100.setCell ⟨gb155, 0, none⟩ (.int .i64 t159)).setCell ⟨gb155, 1, none⟩ (.int .i64 t160)).setCell ⟨gb155, 2, none⟩ (.slice Ao102 t161.length co102)).setCell ⟨gb155, 3, none⟩ (.int .i64 t164)).setCell ⟨gb155, 4, none⟩ (.slice Ao103 t165.length co103)) w.heap.size (fun _ => True) (.slice Ao102 t161.length co102) t161) := ⟨by (with_reducible repeat (first | apply Kd.R_alloc | apply Kd.R_drewN | apply Kd.R_drew)); exact Kd.R_mono (Kd.R_far (p := ⟨gb155, 4, none⟩) (Kd.R_far (p := ⟨gb155, 3, none⟩) (Kd.R_far (p := ⟨gb155, 2, none⟩) (Kd.R_far (p := ⟨gb155, 1, none⟩) (Kd.R_far (p := ⟨gb155, 0, none⟩) (Kd.R_types HO163.out BK155.out (by decide)) (fun _ hk => hk.2) (.int .i64 t159)) (fun _ hk => hk.2) (.int .i64 t160)) (fun _ hk => hk.2) (.slice Ao102 t161.length co102)) (fun _ hk => hk.2) (.int .i64 t164)) (fun _ hk => hk.2) (.slice Ao103 t165.length co103)) (fun _ hk => trivial)⟩
    have n1_ : Aside0 (Kd.R k42 42 (((((w100.setCell ⟨gb155, 0, none⟩ (.int .i64 t159)).setCell ⟨gb155, 1, none⟩ (.int .i64 t160)).setCell ⟨gb155, 2, none⟩ (.slice Ao102 t161.length co102)).setCell ⟨gb155, 3, none⟩ (.int .i64 t164)).setCell ⟨gb155, 4, none⟩ (.slice Ao103 t165.length co103)) w.heap.size (fun k_ => k_ ≠ gb156 ∧ k_ ≠ gb158) (.slice Ao103 t165.length co103) t165) := ⟨by (with_reducible repeat (first | apply Kd.R_alloc | apply Kd.R_drewN | apply Kd.R_drew)); exact Kd.R_mono (Kd.R_far (p := ⟨gb155, 4, none⟩) (Kd.R_far (p := ⟨gb155, 3, none⟩) (Kd.R_far (p := ⟨gb155, 2, none⟩) (Kd.R_far (p := ⟨gb155, 1, none⟩) (Kd.R_far (p := ⟨gb155, 0, none⟩) (Kd.R_types HO167.out BK155.out (by decide)) (fun _ hk => hk.2) (.int .i64 t159)) (fun _ hk => hk.2) (.int .i64 t160)) (fun _ hk => hk.2) (.slice Ao102 t161.length co102)) (fun _ hk => hk.2) (.int .i64 t164)) (fun _ hk => hk.2) (.slice Ao103 t165.length co103)) (fun _ hk => ⟨hk.1.1.2, hk.1.2⟩)⟩
    have n2_ : Aside0 ((((((w100.setCell ⟨gb155, 0, none⟩ (.int .i64 t159)).setCell ⟨gb155, 1, none⟩ (.int .i64 t160)).setCell ⟨gb155, 2, none⟩ (.slice Ao102 t161.length co102)).setCell ⟨gb155, 3, none⟩ (.int .i64 t164)).setCell ⟨gb155, 4, none⟩ (.slice Ao103 t165.length co103)).heap[gb155]? = some (.cells #[.int .i64 t159, .int .i64 t160, .slice Ao102 t161.length co102, .int .i64 t164, .slice Ao103 t165.length co103] 27 (0, 0))) := ⟨by (with_reducible repeat (first | refine bN ?_ _ | refine bD ?_ | refine bA ?_ _)); refine blk_put (cs := #[.int .i64 t159, .int .i64 t160, .slice Ao102 t161.length co102, .int .i64 t164, .slice A0_4 l0_4.length c0_4]) ?_ 4 _ rfl; (with_reducible repeat (first | refine bN ?_ _ | refine bD ?_ | refine bA ?_ _)); refine blk_put (cs := #[.int .i64 t159, .int .i64 t160, .slice Ao102 t161.length co102, .int .i64 a0_3, .slice A0_4 l0_4.length c0_4]) ?_ 3 _ rfl; (with_reducible repeat (first | refine bN ?_ _ | refine bD ?_ | refine bA ?_ _)); refine blk_put (cs := #[.int .i64 t159, .int .i64 t160, .slice A0_2 l0_2.length c0_2, .int .i64 a0_3, .slice A0_4 l0_4.length c0_4]) ?_ 2 _ rfl; (with_reducible repeat (first | refine bN ?_ _ | refine bD ?_ | refine bA ?_ _)); refine blk_put (cs := #[.int .i64 t159, .int .i64 a0_1, .slice A0_2 l0_2.length c0_2, .int .i64 a0_3, .slice A0_4 l0_4.length c0_4]) ?_ 1 _ rfl; (with_reducible repeat (first | refine bN ?_ _ | refine bD ?_ | refine bA ?_ _)); refine blk_put (cs := #[.int .i64 a0_0, .int .i64 a0_1, .slice A0_2 l0_2.length c0_2, .int .i64 a0_3, .slice A0_4 l0_4.length c0_4]) ?_ 0 _ rfl; (with_reducible repeat (first | refine bN ?_ _ | refine bD ?_ | refine bA ?_ _)); exact BK155.out⟩
    have n3_ : Aside0 ((((((w100.setCell ⟨gb155, 0, none⟩ (.int .i64 t159)).setCell ⟨gb155, 1, none⟩ (.int .i64 t160)).setCell ⟨gb155, 2, none⟩ (.slice Ao102 t161.length co102)).setCell ⟨gb155, 3, none⟩ (.int .i64 t164)).setCell ⟨gb155, 4, none⟩ (.slice Ao103 t165.length co103)).heap[gb156]? = some (.cells #[.int .i64 a1_0, .int .i64 a1_1, .int .i64 a1_2] 42 (0, 0))) := ⟨by (with_reducible repeat (first | refine bN ?_ _ | refine bD ?_ | refine bA ?_ _)); refine blk_far ?_ NB156_155.out _; (with_reducible repeat (first | refine bN ?_ _ | refine bD ?_ | refine bA ?_ _)); refine blk_far ?_ NB156_155.out _; (with_reducible repeat (first | refine bN ?_ _ | refine bD ?_ | refine bA ?_ _)); refine blk_far ?_ NB156_155.out _; (with_reducible repeat (first | refine bN ?_ _ | refine bD ?_ | refine bA ?_ _)); refine blk_far ?_ NB156_155.out _; (with_reducible repeat (first | refine bN ?_ _ | refine bD ?_ | refine bA ?_ _)); refine blk_far ?_ NB156_155.out _; (with_reducible repeat (first | refine bN ?_ _ | refine bD ?_ | refine bA ?_ _)); exact BK156.out⟩
    have n4_ : Aside0 ((((((w100.setCell ⟨gb155, 0, none⟩ (.int .i64 t159)).setCell ⟨gb155, 1, none⟩ (.int .i64 t160)).setCell ⟨gb155, 2, none⟩ (.slice Ao102 t161.length co102)).setCell ⟨gb155, 3, none⟩ (.int .i64 t164)).setCell ⟨gb155, 4, none⟩ (.slice Ao103 t165.length co103)).heap[gb157]? = some (.cells #[.int .i64 0, .int .i64 0, .slice none 0 0, .int .i64 0, .slice none 0 0] 27 (0, 0))) := ⟨by (with_reducible repeat (first | refine bN ?_ _ | refine bD ?_ | refine bA ?_ _)); refine blk_far ?_ NB157_155.out _; (with_reducible repeat (first | refine bN ?_ _ | refine bD ?_ | refine bA ?_ _)); refine blk_far ?_ NB157_155.out _; (with_reducible repeat (first | refine bN ?_ _ | refine bD ?_ | refine bA ?_ _)); refine blk_far ?_ NB157_155.out _; (with_reducible repeat (first | refine bN ?_ _ | refine bD ?_ | refine bA ?_ _)); refine blk_far ?_ NB157_155.out _; (with_reducible repeat (first | refine bN ?_ _ | refine bD ?_ | refine bA ?_ _)); refine blk_far ?_ NB157_155.out _; (with_reducible repeat (first | refine bN ?_ _ | refine bD ?_ | refine bA ?_ _)); exact BK157.out⟩
    have n5_ : Aside0 ((((((w100.setCell ⟨gb155, 0, none⟩ (.int .i64 t159)).setCell ⟨gb155, 1, none⟩ (.int .i64 t160)).setCell ⟨gb155, 2, none⟩ (.slice Ao102 t161.length co102)).setCell ⟨gb155, 3, none⟩ (.int .i64 t164)).setCell ⟨gb155, 4, none⟩ (.slice Ao103 t165.length co103)).heap[gb158]? = some (.cells #[.int .i64 0, .int .i64 0, .int .i64 0] 42 (0, 0))) := ⟨by (with_reducible repeat (first | refine bN ?_ _ | refine bD ?_ | refine bA ?_ _)); refine blk_far ?_ NB158_155.out _; (with_reducible repeat (first | refine bN ?_ _ | refine bD ?_ | refine bA ?_ _)); refine blk_far ?_ NB158_155.out _; (with_reducible repeat (first | refine bN ?_ _ | refine bD ?_ | refine bA ?_ _)); refine blk_far ?_ NB158_155.out _; (with_reducible repeat (first | refine bN ?_ _ | refine bD ?_ | refine bA ?_ _)); refine blk_far ?_ NB158_155.out _; (with_reducible repeat (first | refine bN ?_ _ | refine bD ?_ | refine bA ?_ _)); refine blk_far ?_ NB158_155.out _; (with_reducible repeat (first | refine bN ?_ _ | refine bD ?_ | refine bA ?_ _)); exact BK158.out⟩
    have n6_ : Aside0 (Below w.heap.size w (((((w100.setCell ⟨gb155, 0, none⟩ (.int .i64 t159)).setCell ⟨gb155, 1, none⟩ (.int .i64 t160)).setCell ⟨gb155, 2, none⟩ (.slice Ao102 t161.length co102)).setCell ⟨gb155, 3, none⟩ (.int .i64 t164)).setCell ⟨gb155, 4, none⟩ (.slice Ao103 t165.length co103))) := ⟨by repeat (first | (with_reducible first | exact HB.out | apply wA | apply wN | apply wD | refine below_set ?_ GE155.out | refine below_set ?_ GE156.out | refine below_set ?_ GE157.out | refine below_set ?_ GE158.out) | exact HB.out)⟩
    (try clear HO163)
    (try clear HO167)
    (try clear BK155)
    (try clear BK156)
    (try clear BK157)
    (try clear BK158)
    (try clear HB)
    generalize (((((w100.setCell ⟨gb155, 0, none⟩ (.int .i64 t159)).setCell ⟨gb155, 1, none⟩ (.int .i64 t160)).setCell ⟨gb155, 2, none⟩ (.slice Ao102 t161.length co102)).setCell ⟨gb155, 3, none⟩ (.int .i64 t164)).setCell ⟨gb155, 4, none⟩ (.slice Ao103 t165.length co103)) = w107 at n0_ n1_ n2_ n3_ n4_ n5_ n6_ ⊢
    have HO163 := n0_
    have HO167 := n1_
    have BK155 := n2_
    have BK156 := n3_
    have BK157 := n4_
    have BK158 := n5_
    have HB := n6_
    clear n0_ n1_ n2_ n3_ n4_ n5_ n6_
    have n0_ := aM (Kd.R_drew HO163.out)
    have n1_ := aM (Kd.R_drew HO167.out)
    have n2_ := aM (bD BK155.out)
    have n3_ := aM (bD BK156.out)
    have n4_ := aM (bD BK157.out)
    have n5_ := aM (bD BK158.out)
    have n6_ := aM (wD HB.out)
    clear HO163
    clear HO167
    clear BK155
    clear BK156
    clear BK157
    clear BK158
    clear HB
    have HO163 := n0_
    have HO167 := n1_
    have BK155 := n2_
    have BK156 := n3_
    have BK157 := n4_
    have BK158 := n5_
    have HB := n6_
    clear n0_ n1_ n2_ n3_ n4_ n5_ n6_
    refine start_ (n := 9) (S := fun w' => w'.cell? ⟨gb155, 0, none⟩ = some (.int .i64 t159) ∧ w'.cell? ⟨gb155, 1, none⟩ = some (.int .i64 t160) ∧ w'.cell? ⟨gb155, 2, none⟩ = some (.slice Ao102 t161.length co102) ∧ w'.cell? ⟨gb155, 3, none⟩ = some (.int .i64 t164) ∧ w'.cell? ⟨gb155, 4, none⟩ = some (.slice Ao103 t165.length co103)) (ds := []) #[false, false, false, false, false, false, false, false, false] (by kernel_rfl) rfl rfl ⟨(blk_cell BK155.out 0).trans rfl, (blk_cell BK155.out 1).trans rfl, (blk_cell BK155.out 2).trans rfl, (blk_cell BK155.out 3).trans rfl, (blk_cell BK155.out 4).trans rfl⟩ (fun hHeld => ?_); refine with_tabW link_Arrive.tab12 link_Arrive.bits12 (fun HT_ HW_ => ?_)
    generalize w107.drew = w108 at HO163 HO167 BK155 BK156 BK157 BK158 HB hHeld ⊢
    refine pure_ (i := 1) (N := some 81) (v := ?_) (a' := ?_) #[false, true, false, false, false, false, false, false, false] rfl rfl (any_of HT_.out (by kernel_rfl)) (fun _ _ _ h => h) (Or.inl ⟨by rfl, ?_⟩) ?_ ?_
    rotate_left
    ·intro w'
     go_simp
     with_reducible rfl
    rotate_left
    ·simp only [Act.put, List.setIfInBounds_toArray, List.set_cons_zero, List.set_cons_succ, i64_w, i32_w]
     rfl
    refine pure_ (i := 2) (N := some 82) (v := ?_) (a' := ?_) #[false, true, true, false, false, false, false, false, false] rfl rfl (any_of HT_.out (by kernel_rfl)) (fun _ _ _ h => h) (Or.inl ⟨by rfl, ?_⟩) ?_ ?_
    rotate_left
    ·intro w'
     go_simp
     with_reducible rfl
    rotate_left
    ·simp only [Act.put, List.setIfInBounds_toArray, List.set_cons_zero, List.set_cons_succ, i64_w, i32_w]
     rfl
    refine take_ (i := 0) (N := some 80) (v := ?_) (a' := ?_) #[true, true, true, false, false, false, false, false, false] rfl rfl (take_ofW HT_.out HW_.out (by kernel_rfl)) (fun _ _ _ h => h) (Or.inl ⟨by rfl, ?_⟩) hHeld ?_ ?_
    rotate_left
    ·rintro w' ⟨s0, s1, s2, s3, s4⟩
     go_simp
     with_reducible rfl
    rotate_left
    ·simp only [Act.put, List.setIfInBounds_toArray, List.set_cons_zero, List.set_cons_succ, i64_w, i32_w]
     rfl
    refine take_ (i := 3) (N := some 83) (v := ?_) (a' := ?_) #[true, true, true, true, false, false, false, false, false] rfl rfl (take_ofW HT_.out HW_.out (by kernel_rfl)) (fun _ _ _ h => h) (Or.inl ⟨by rfl, ?_⟩) hHeld ?_ ?_
    rotate_left
    ·rintro w' ⟨s0, s1, s2, s3, s4⟩
     go_simp
     with_reducible rfl
    rotate_left
    ·simp only [Act.put, List.setIfInBounds_toArray, List.set_cons_zero, List.set_cons_succ, i64_w, i32_w]
     rfl
    refine pure_ (i := 4) (N := some 84) (v := ?_) (a' := ?_) #[true, true, true, true, true, false, false, false, false] rfl rfl (any_of HT_.out (by kernel_rfl)) (fun _ _ _ h => h) (Or.inl ⟨by rfl, ?_⟩) ?_ ?_
    rotate_left
    ·intro w'
     go_simp
     with_reducible rfl
    rotate_left
    ·simp only [Act.put, List.setIfInBounds_toArray, List.set_cons_zero, List.set_cons_succ, i64_w, i32_w]
     rfl
    refine pure_ (i := 5) (N := some 85) (v := ?_) (a' := ?_) #[true, true, true, true, true, true, false, false, false] rfl rfl (any_of HT_.out (by kernel_rfl)) (fun _ _ _ h => h) (Or.inl ⟨by rfl, ?_⟩) ?_ ?_
    rotate_left
    ·intro w'
     go_simp
     with_reducible rfl
    rotate_left
    ·simp only [Act.put, List.setIfInBounds_toArray, List.set_cons_zero, List.set_cons_succ, i64_w, i32_w]
     rfl
    refine one_ (i := 6) (N := none) #[true, true, true, true, true, true, true, false, false] rfl rfl (one_of HT_.out (by kernel_rfl)) (by decide) (fun K hK => ?_)
    have hs109 : w108.cell? ⟨gb157, 0, none⟩ = some (.int .i64 0) := (blk_cell BK157.out 0).trans rfl
    have hfs109 := blk_frozen BK157.out 0
    have hns109_0 := NB155_157.out
    have hns109_1 := NB156_157.out
    have hns109_3 := NB158_157.out
    have hms109_0 := NB157_155.out
    have hms109_1 := NB157_156.out
    have hms109_3 := NB157_158.out
    have hs110 : w108.cell? ⟨gb157, 1, none⟩ = some (.int .i64 0) := (blk_cell BK157.out 1).trans rfl
    have hfs110 := blk_frozen BK157.out 1
    have hns110_0 := NB155_157.out
    have hns110_1 := NB156_157.out
    have hns110_3 := NB158_157.out
    have hms110_0 := NB157_155.out
    have hms110_1 := NB157_156.out
    have hms110_3 := NB157_158.out
    have hs111 : w108.cell? ⟨gb157, 2, none⟩ = some (.slice none 0 0) := (blk_cell BK157.out 2).trans rfl
    have hfs111 := blk_frozen BK157.out 2
    have hns111_0 := NB155_157.out
    have hns111_1 := NB156_157.out
    have hns111_3 := NB158_157.out
    have hms111_0 := NB157_155.out
    have hms111_1 := NB157_156.out
    have hms111_3 := NB157_158.out
    have hs112 : w108.cell? ⟨gb157, 3, none⟩ = some (.int .i64 0) := (blk_cell BK157.out 3).trans rfl
    have hfs112 := blk_frozen BK157.out 3
    have hns112_0 := NB155_157.out
    have hns112_1 := NB156_157.out
    have hns112_3 := NB158_157.out
    have hms112_0 := NB157_155.out
    have hms112_1 := NB157_156.out
    have hms112_3 := NB157_158.out
    have hs113 : w108.cell? ⟨gb157, 4, none⟩ = some (.slice none 0 0) := (blk_cell BK157.out 4).trans rfl
    have hfs113 := blk_frozen BK157.out 4
    have hns113_0 := NB155_157.out
    have hns113_1 := NB156_157.out
    have hns113_3 := NB158_157.out
    have hms113_0 := NB157_155.out
    have hms113_1 := NB157_156.out
    have hms113_3 := NB157_158.out
    refine skip_ (w1 := ?_) (by rfl) rfl ?_ ?_
    rotate_left
    ·go_simp
     rfl
    refine hK.out _ _ ⟨((cell_far (p := ⟨gb157, _, none⟩) NB155_157.out _).trans (((cell_far (p := ⟨gb157, _, none⟩) NB155_157.out _).trans (((cell_far (p := ⟨gb157, _, none⟩) NB155_157.out _).trans (((cell_far (p := ⟨gb157, _, none⟩) NB155_157.out _).trans (((cell_far (p := ⟨gb157, _, none⟩) NB155_157.out _).trans (hHeld.1)))))))))), ((cell_far (p := ⟨gb157, _, none⟩) NB155_157.out _).trans (((cell_far (p := ⟨gb157, _, none⟩) NB155_157.out _).trans (((cell_far (p := ⟨gb157, _, none⟩) NB155_157.out _).trans (((cell_far (p := ⟨gb157, _, none⟩) NB155_157.out _).trans (((cell_far (p := ⟨gb157, _, none⟩) NB155_157.out _).trans (hHeld.2.1)))))))))), ((cell_far (p := ⟨gb157, _, none⟩) NB155_157.out _).trans (((cell_far (p := ⟨gb157, _, none⟩) NB155_157.out _).trans (((cell_far (p := ⟨gb157, _, none⟩) NB155_157.out _).trans (((cell_far (p := ⟨gb157, _, none⟩) NB155_157.out _).trans (((cell_far (p := ⟨gb157, _, none⟩) NB155_157.out _).trans (hHeld.2.2.1)))))))))), ((cell_far (p := ⟨gb157, _, none⟩) NB155_157.out _).trans (((cell_far (p := ⟨gb157, _, none⟩) NB155_157.out _).trans (((cell_far (p := ⟨gb157, _, none⟩) NB155_157.out _).trans (((cell_far (p := ⟨gb157, _, none⟩) NB155_157.out _).trans (((cell_far (p := ⟨gb157, _, none⟩) NB155_157.out _).trans (hHeld.2.2.2.1)))))))))), ((cell_far (p := ⟨gb157, _, none⟩) NB155_157.out _).trans (((cell_far (p := ⟨gb157, _, none⟩) NB155_157.out _).trans (((cell_far (p := ⟨gb157, _, none⟩) NB155_157.out _).trans (((cell_far (p := ⟨gb157, _, none⟩) NB155_157.out _).trans (((cell_far (p := ⟨gb157, _, none⟩) NB155_157.out _).trans (hHeld.2.2.2.2))))))))))⟩ (fun hHeld => ?_)
    clear hK K
    refine pure_ (i := 7) (N := some 5) (v := ?_) (a' := ?_) #[true, true, true, true, true, true, true, true, false] rfl rfl (any_of HT_.out (by kernel_rfl)) (fun _ _ _ h => h) (Or.inl ⟨by rfl, ?_⟩) ?_ ?_
    rotate_left
    ·intro w'
     go_simp
     with_reducible rfl
    rotate_left
    ·simp only [Act.put, List.setIfInBounds_toArray, List.set_cons_zero, List.set_cons_succ, i64_w, i32_w]
     rfl
    refine one_ (i := 8) (N := none) #[true, true, true, true, true, true, true, true, true] rfl rfl (one_of HT_.out (by kernel_rfl)) (by decide) (fun K hK => ?_)
    have hs114 : w108.cell? ⟨gb158, 0, none⟩ = some (.int .i64 0) := (blk_cell BK158.out 0).trans rfl
    have hfs114 := blk_frozen BK158.out 0
    have hns114_0 := NB155_158.out
    have hns114_1 := NB156_158.out
    have hns114_2 := NB157_158.out
    have hms114_0 := NB158_155.out
    have hms114_1 := NB158_156.out
    have hms114_2 := NB158_157.out
    have hs115 : w108.cell? ⟨gb158, 1, none⟩ = some (.int .i64 0) := (blk_cell BK158.out 1).trans rfl
    have hfs115 := blk_frozen BK158.out 1
    have hns115_0 := NB155_158.out
    have hns115_1 := NB156_158.out
    have hns115_2 := NB157_158.out
    have hms115_0 := NB158_155.out
    have hms115_1 := NB158_156.out
    have hms115_2 := NB158_157.out
    have hs116 : w108.cell? ⟨gb158, 2, none⟩ = some (.int .i64 0) := (blk_cell BK158.out 2).trans rfl
    have hfs116 := blk_frozen BK158.out 2
    have hns116_0 := NB155_158.out
    have hns116_1 := NB156_158.out
    have hns116_2 := NB157_158.out
    have hms116_0 := NB158_155.out
    have hms116_1 := NB158_156.out
    have hms116_2 := NB158_157.out
    refine skip_ (w1 := ?_) (by rfl) rfl ?_ ?_
    rotate_left
    ·go_simp
     rfl
    refine hK.out _ _ ⟨((cell_far (p := ⟨gb158, _, none⟩) NB155_158.out _).trans (((cell_far (p := ⟨gb158, _, none⟩) NB155_158.out _).trans (((cell_far (p := ⟨gb158, _, none⟩) NB155_158.out _).trans (hHeld.1)))))), ((cell_far (p := ⟨gb158, _, none⟩) NB155_158.out _).trans (((cell_far (p := ⟨gb158, _, none⟩) NB155_158.out _).trans (((cell_far (p := ⟨gb158, _, none⟩) NB155_158.out _).trans (hHeld.2.1)))))), ((cell_far (p := ⟨gb158, _, none⟩) NB155_158.out _).trans (((cell_far (p := ⟨gb158, _, none⟩) NB155_158.out _).trans (((cell_far (p := ⟨gb158, _, none⟩) NB155_158.out _).trans (hHeld.2.2.1)))))), ((cell_far (p := ⟨gb158, _, none⟩) NB155_158.out _).trans (((cell_far (p := ⟨gb158, _, none⟩) NB155_158.out _).trans (((cell_far (p := ⟨gb158, _, none⟩) NB155_158.out _).trans (hHeld.2.2.2.1)))))), ((cell_far (p := ⟨gb158, _, none⟩) NB155_158.out _).trans (((cell_far (p := ⟨gb158, _, none⟩) NB155_158.out _).trans (((cell_far (p := ⟨gb158, _, none⟩) NB155_158.out _).trans (hHeld.2.2.2.2))))))⟩ (fun hHeld => ?_)
    clear hK K
    refine done_ (done_of HT_.out (by kernel_rfl)) ?_
    try go_wp2
    refine bodyPost_ret (results_list (rs := [.cell 4 27, .tmp 5, .cell 6 42]) rfl (by simp) (.cell gb157 27 #[.int .i64 t159, .int .i64 t160, .slice Ao102 t161.length co102, .int .i64 t164, .slice Ao103 t165.length co103] (0, 0) _ rfl (by (with_reducible repeat (first | refine bN ?_ _ | refine bD ?_ | refine bA ?_ _)); refine blk_far ?_ NB157_158.out _; (with_reducible repeat (first | refine bN ?_ _ | refine bD ?_ | refine bA ?_ _)); refine blk_far ?_ NB157_158.out _; (with_reducible repeat (first | refine bN ?_ _ | refine bD ?_ | refine bA ?_ _)); refine blk_far ?_ NB157_158.out _; (with_reducible repeat (first | refine bN ?_ _ | refine bD ?_ | refine bA ?_ _)); refine blk_put (cs := #[.int .i64 t159, .int .i64 t160, .slice Ao102 t161.length co102, .int .i64 t164, .slice none 0 0]) ?_ 4 _ rfl; (with_reducible repeat (first | refine bN ?_ _ | refine bD ?_ | refine bA ?_ _)); refine blk_put (cs := #[.int .i64 t159, .int .i64 t160, .slice Ao102 t161.length co102, .int .i64 0, .slice none 0 0]) ?_ 3 _ rfl; (with_reducible repeat (first | refine bN ?_ _ | refine bD ?_ | refine bA ?_ _)); refine blk_put (cs := #[.int .i64 t159, .int .i64 t160, .slice none 0 0, .int .i64 0, .slice none 0 0]) ?_ 2 _ rfl; (with_reducible repeat (first | refine bN ?_ _ | refine bD ?_ | refine bA ?_ _)); refine blk_put (cs := #[.int .i64 t159, .int .i64 0, .slice none 0 0, .int .i64 0, .slice none 0 0]) ?_ 1 _ rfl; (with_reducible repeat (first | refine bN ?_ _ | refine bD ?_ | refine bA ?_ _)); refine blk_put (cs := #[.int .i64 0, .int .i64 0, .slice none 0 0, .int .i64 0, .slice none 0 0]) ?_ 0 _ rfl; (with_reducible repeat (first | refine bN ?_ _ | refine bD ?_ | refine bA ?_ _)); exact BK157.out) Try.underlying27 rfl (by kernel_rfl) (.tmp (.cell gb158 42 #[.int .i64 0, .int .i64 (wrap64 (t164 - 1)), .int .i64 0] (0, 0) _ rfl (by (with_reducible repeat (first | refine bN ?_ _ | refine bD ?_ | refine bA ?_ _)); refine blk_put (cs := #[.int .i64 0, .int .i64 (wrap64 (t164 - 1)), .int .i64 0]) ?_ 2 _ rfl; (with_reducible repeat (first | refine bN ?_ _ | refine bD ?_ | refine bA ?_ _)); refine blk_put (cs := #[.int .i64 0, .int .i64 0, .int .i64 0]) ?_ 1 _ rfl; (with_reducible repeat (first | refine bN ?_ _ | refine bD ?_ | refine bA ?_ _)); refine blk_put (cs := #[.int .i64 0, .int .i64 0, .int .i64 0]) ?_ 0 _ rfl; (with_reducible repeat (first | refine bN ?_ _ | refine bD ?_ | refine bA ?_ _)); refine blk_far ?_ NB158_157.out _; (with_reducible repeat (first | refine bN ?_ _ | refine bD ?_ | refine bA ?_ _)); refine blk_far ?_ NB158_157.out _; (with_reducible repeat (first | refine bN ?_ _ | refine bD ?_ | refine bA ?_ _)); refine blk_far ?_ NB158_157.out _; (with_reducible repeat (first | refine bN ?_ _ | refine bD ?_ | refine bA ?_ _)); refine blk_far ?_ NB158_157.out _; (with_reducible repeat (first | refine bN ?_ _ | refine bD ?_ | refine bA ?_ _)); refine blk_far ?_ NB158_157.out _; (with_reducible repeat (first | refine bN ?_ _ | refine bD ?_ | refine bA ?_ _)); exact BK158.out) Try.underlying42 rfl (by kernel_rfl) .nil)))) rfl ?_
    exact ⟨_, _, _, by first | rfl | (simp [errW_none, errW_some] <;> rfl) | (simp [*, errW_none, errW_some] <;> rfl), by (with_reducible repeat (first | apply Kd.R_alloc | apply Kd.R_drewN | apply Kd.R_drew)); exact Kd.R_mono (Kd.R_far (p := ⟨gb158, 2, none⟩) (Kd.R_far (p := ⟨gb158, 1, none⟩) (Kd.R_far (p := ⟨gb158, 0, none⟩) (Kd.R_far (p := ⟨gb157, 4, none⟩) (Kd.R_far (p := ⟨gb157, 3, none⟩) (Kd.R_far (p := ⟨gb157, 2, none⟩) (Kd.R_far (p := ⟨gb157, 1, none⟩) (Kd.R_far (p := ⟨gb157, 0, none⟩) (Kd.R_types (Kd.R_types HO163.out BK157.out (by decide)) BK158.out (by decide)) (fun _ hk => hk.1.2) (.int .i64 t159)) (fun _ hk => hk.1.2) (.int .i64 t160)) (fun _ hk => hk.1.2) (.slice Ao102 t161.length co102)) (fun _ hk => hk.1.2) (.int .i64 t164)) (fun _ hk => hk.1.2) (.slice Ao103 t165.length co103)) (fun _ hk => hk.2) (.int .i64 0)) (fun _ hk => hk.2) (.int .i64 (wrap64 (t164 - 1)))) (fun _ hk => hk.2) (.int .i64 0)) (fun _ hk => (by simp [Value.ownBlock])), Kd.Q_of_R (by (with_reducible repeat (first | apply Kd.R_alloc | apply Kd.R_drewN | apply Kd.R_drew)); exact Kd.R_mono (Kd.R_far (p := ⟨gb158, 2, none⟩) (Kd.R_far (p := ⟨gb158, 1, none⟩) (Kd.R_far (p := ⟨gb158, 0, none⟩) (Kd.R_far (p := ⟨gb157, 4, none⟩) (Kd.R_far (p := ⟨gb157, 3, none⟩) (Kd.R_far (p := ⟨gb157, 2, none⟩) (Kd.R_far (p := ⟨gb157, 1, none⟩) (Kd.R_far (p := ⟨gb157, 0, none⟩) (Kd.R_mono (Kd.R_types HO167.out BK157.out (by decide)) (fun k_ hk => (⟨hk, hk.1.2⟩ : _ ∧ k_ ≠ gb158))) (fun _ hk => hk.1.2) (.int .i64 t159)) (fun _ hk => hk.1.2) (.int .i64 t160)) (fun _ hk => hk.1.2) (.slice Ao102 t161.length co102)) (fun _ hk => hk.1.2) (.int .i64 t164)) (fun _ hk => hk.1.2) (.slice Ao103 t165.length co103)) (fun _ hk => hk.2) (.int .i64 0)) (fun _ hk => hk.2) (.int .i64 (wrap64 (t164 - 1)))) (fun _ hk => hk.2) (.int .i64 0)) (fun _ hk => trivial)), by first | exact Kd.R_nil _ _ _ _ _ | exact Kd.N_nil _ _ _ _ _ | exact Kd.V_nil _ _ _ _ _ | exact Kd.Q_nil _ _ _ _ _ | exact Kd.S_nil _ _ _ _ _, by repeat (first | (with_reducible first | exact HB.out | apply wA | apply wN | apply wD | refine below_set ?_ GE155.out | refine below_set ?_ GE156.out | refine below_set ?_ GE157.out | refine below_set ?_ GE158.out) | exact HB.out)⟩
  ·rw [if_neg c59] at H
   have c59b0 : decide (t164 < a1_0) = false := decide_eq_false c59
   clear c59
   simp only [Option.some.injEq, Prod.mk.injEq] at H
   obtain ⟨rfl, rfl, rfl, rfl, rfl, rfl, rfl, rfl, rfl⟩ := H
   go_enter Try.func17, Try.ntmps17
   try go_wp2_with (first | ((with_reducible refine gate_dst (N := 2) rfl ?_); refine box_event ?hg (N := 2) ?hd (cs := #[.int .i64 a0_0, .int .i64 a0_1, .slice A0_2 l0_2.length c0_2, .int .i64 a0_3, .slice A0_4 l0_4.length c0_4]) (t := 27) ?hr ?_; (case hd => rfl); (case hg => rfl); (case hr => first | (go_simp; done) | (go_simp; rfl)); intro gb155 hg w117 hbox hb; have n0_ := aM (below_step (by repeat (first | (with_reducible first | exact HB.out | apply wA | apply wN | apply wD) | exact HB.out)) hb); have n1_ := aM (hbox); have n2_ := aM ((by rw [hg]; exact (below_size (by repeat (first | (with_reducible first | exact HB.out | apply wA | apply wN | apply wD) | exact HB.out))) : w.heap.size ≤ gb155)); have n3_ := aM ((by rw [hg]; exact (below_size (by repeat (first | (with_reducible first | exact HB.out | apply wA | apply wN | apply wD) | exact HB.out))) : w.heap.size ≤ gb155)); clear HB; have HB := n0_; have BK155 := n1_; have GW155 := n2_; have GE155 := n3_; clear n0_ n1_ n2_ n3_; clear hb hbox hg) | ((with_reducible refine gate_dst (N := 3) rfl ?_); refine box_event ?hg (N := 3) ?hd (cs := #[.int .i64 a1_0, .int .i64 a1_1, .int .i64 a1_2]) (t := 42) ?hr ?_; (case hd => rfl); (case hg => rfl); (case hr => first | (go_simp; done) | (go_simp; rfl)); intro gb156 hg w118 hbox hb; have n0_ := aM (blk_below (g := gb155) (o := .cells #[.int .i64 a0_0, .int .i64 a0_1, .slice A0_2 l0_2.length c0_2, .int .i64 a0_3, .slice A0_4 l0_4.length c0_4] 27 (0, 0)) (by (with_reducible repeat (first | refine bN ?_ _ | refine bD ?_ | refine bA ?_ _)); exact BK155.out) hb); have n1_ := aM (below_step (by repeat (first | (with_reducible first | exact HB.out | apply wA | apply wN | apply wD | refine below_set ?_ GE155.out) | exact HB.out)) hb); have n2_ := aM (hbox); have n3_ := aM ((by rw [hg]; exact (below_size (by repeat (first | (with_reducible first | exact HB.out | apply wA | apply wN | apply wD | refine below_set ?_ GE155.out) | exact HB.out))) : w.heap.size ≤ gb156)); have n4_ := aM ((by rw [hg]; exact (below_size (by repeat (first | (with_reducible first | exact HB.out | apply wA | apply wN | apply wD | refine below_set ?_ GE155.out) | exact HB.out))) : w.heap.size ≤ gb156)); have n5_ := aM ((by rw [hg]; exact Nat.ne_of_lt (blk_lt (g := gb155) (o := .cells #[.int .i64 a0_0, .int .i64 a0_1, .slice A0_2 l0_2.length c0_2, .int .i64 a0_3, .slice A0_4 l0_4.length c0_4] 27 (0, 0)) (by (with_reducible repeat (first | refine bN ?_ _ | refine bD ?_ | refine bA ?_ _)); exact BK155.out)) : gb155 ≠ gb156)); have n6_ := aM ((by rw [hg]; exact Nat.ne_of_gt (blk_lt (g := gb155) (o := .cells #[.int .i64 a0_0, .int .i64 a0_1, .slice A0_2 l0_2.length c0_2, .int .i64 a0_3, .slice A0_4 l0_4.length c0_4] 27 (0, 0)) (by (with_reducible repeat (first | refine bN ?_ _ | refine bD ?_ | refine bA ?_ _)); exact BK155.out)) : gb156 ≠ gb155)); clear BK155; clear HB; have BK155 := n0_; have HB := n1_; have BK156 := n2_; have GW156 := n3_; have GE156 := n4_; have NB155_156 := n5_; have NB156_155 := n6_; clear n0_ n1_ n2_ n3_ n4_ n5_ n6_; clear hb hbox hg) | ((with_reducible refine gate_dst (N := 4) rfl ?_); refine box_event ?hg (N := 4) ?hd (cs := #[.int .i64 0, .int .i64 0, .slice none 0 0, .int .i64 0, .slice none 0 0]) (t := 27) ?hr ?_; (case hd => rfl); (case hg => rfl); (case hr => first | (go_simp; done) | (go_simp; rfl)); intro gb157 hg w119 hbox hb; have n0_ := aM (blk_below (g := gb155) (o := .cells #[.int .i64 a0_0, .int .i64 a0_1, .slice A0_2 l0_2.length c0_2, .int .i64 a0_3, .slice A0_4 l0_4.length c0_4] 27 (0, 0)) (by (with_reducible repeat (first | refine bN ?_ _ | refine bD ?_ | refine bA ?_ _)); exact BK155.out) hb); have n1_ := aM (blk_below (g := gb156) (o := .cells #[.int .i64 a1_0, .int .i64 a1_1, .int .i64 a1_2] 42 (0, 0)) (by (with_reducible repeat (first | refine bN ?_ _ | refine bD ?_ | refine bA ?_ _)); exact BK156.out) hb); have n2_ := aM (below_step (by repeat (first | (with_reducible first | exact HB.out | apply wA | apply wN | apply wD | refine below_set ?_ GE155.out | refine below_set ?_ GE156.out) | exact HB.out)) hb); have n3_ := aM (hbox); have n4_ := aM ((by rw [hg]; exact (below_size (by repeat (first | (with_reducible first | exact HB.out | apply wA | apply wN | apply wD | refine below_set ?_ GE155.out | refine below_set ?_ GE156.out) | exact HB.out))) : w.heap.size ≤ gb157)); have n5_ := aM ((by rw [hg]; exact (below_size (by repeat (first | (with_reducible first | exact HB.out | apply wA | apply wN | apply wD | refine below_set ?_ GE155.out | refine below_set ?_ GE156.out) | exact HB.out))) : w.heap.size ≤ gb157)); have n6_ := aM ((by rw [hg]; exact Nat.ne_of_lt (blk_lt (g := gb155) (o := .cells #[.int .i64 a0_0, .int .i64 a0_1, .slice A0_2 l0_2.length c0_2, .int .i64 a0_3, .slice A0_4 l0_4.length c0_4] 27 (0, 0)) (by (with_reducible repeat (first | refine bN ?_ _ | refine bD ?_ | refine bA ?_ _)); exact BK155.out)) : gb155 ≠ gb157)); have n7_ := aM ((by rw [hg]; exact Nat.ne_of_gt (blk_lt (g := gb155) (o := .cells #[.int .i64 a0_0, .int .i64 a0_1, .slice A0_2 l0_2.length c0_2, .int .i64 a0_3, .slice A0_4 l0_4.length c0_4] 27 (0, 0)) (by (with_reducible repeat (first | refine bN ?_ _ | refine bD ?_ | refine bA ?_ _)); exact BK155.out)) : gb157 ≠ gb155)); have n8_ := aM ((by rw [hg]; exact Nat.ne_of_lt (blk_lt (g := gb156) (o := .cells #[.int .i64 a1_0, .int .i64 a1_1, .int .i64 a1_2] 42 (0, 0)) (by (with_reducible repeat (first | refine bN ?_ _ | refine bD ?_ | refine bA ?_ _)); exact BK156.out)) : gb156 ≠ gb157)); have n9_ := aM ((by rw [hg]; exact Nat.ne_of_gt (blk_lt (g := gb156) (o := .cells #[.int .i64 a1_0, .int .i64 a1_1, .int .i64 a1_2] 42 (0, 0)) (by (with_reducible repeat (first | refine bN ?_ _ | refine bD ?_ | refine bA ?_ _)); exact BK156.out)) : gb157 ≠ gb156)); clear BK155; clear BK156; clear HB; have BK155 := n0_; have BK156 := n1_; have HB := n2_; have BK157 := n3_; have GW157 := n4_; have GE157 := n5_; have NB155_157 := n6_; have NB157_155 := n7_; have NB156_157 := n8_; have NB157_156 := n9_; clear n0_ n1_ n2_ n3_ n4_ n5_ n6_ n7_ n8_ n9_; clear hb hbox hg) | ((with_reducible refine gate_dst (N := 6) rfl ?_); refine box_event ?hg (N := 6) ?hd (cs := #[.int .i64 0, .int .i64 0, .int .i64 0]) (t := 42) ?hr ?_; (case hd => rfl); (case hg => rfl); (case hr => first | (go_simp; done) | (go_simp; rfl)); intro gb158 hg w120 hbox hb; have n0_ := aM (blk_below (g := gb155) (o := .cells #[.int .i64 a0_0, .int .i64 a0_1, .slice A0_2 l0_2.length c0_2, .int .i64 a0_3, .slice A0_4 l0_4.length c0_4] 27 (0, 0)) (by (with_reducible repeat (first | refine bN ?_ _ | refine bD ?_ | refine bA ?_ _)); exact BK155.out) hb); have n1_ := aM (blk_below (g := gb156) (o := .cells #[.int .i64 a1_0, .int .i64 a1_1, .int .i64 a1_2] 42 (0, 0)) (by (with_reducible repeat (first | refine bN ?_ _ | refine bD ?_ | refine bA ?_ _)); exact BK156.out) hb); have n2_ := aM (blk_below (g := gb157) (o := .cells #[.int .i64 0, .int .i64 0, .slice none 0 0, .int .i64 0, .slice none 0 0] 27 (0, 0)) (by (with_reducible repeat (first | refine bN ?_ _ | refine bD ?_ | refine bA ?_ _)); exact BK157.out) hb); have n3_ := aM (below_step (by repeat (first | (with_reducible first | exact HB.out | apply wA | apply wN | apply wD | refine below_set ?_ GE155.out | refine below_set ?_ GE156.out | refine below_set ?_ GE157.out) | exact HB.out)) hb); have n4_ := aM (hbox); have n5_ := aM ((by rw [hg]; exact (below_size (by repeat (first | (with_reducible first | exact HB.out | apply wA | apply wN | apply wD | refine below_set ?_ GE155.out | refine below_set ?_ GE156.out | refine below_set ?_ GE157.out) | exact HB.out))) : w.heap.size ≤ gb158)); have n6_ := aM ((by rw [hg]; exact (below_size (by repeat (first | (with_reducible first | exact HB.out | apply wA | apply wN | apply wD | refine below_set ?_ GE155.out | refine below_set ?_ GE156.out | refine below_set ?_ GE157.out) | exact HB.out))) : w.heap.size ≤ gb158)); have n7_ := aM ((by rw [hg]; exact Nat.ne_of_lt (blk_lt (g := gb155) (o := .cells #[.int .i64 a0_0, .int .i64 a0_1, .slice A0_2 l0_2.length c0_2, .int .i64 a0_3, .slice A0_4 l0_4.length c0_4] 27 (0, 0)) (by (with_reducible repeat (first | refine bN ?_ _ | refine bD ?_ | refine bA ?_ _)); exact BK155.out)) : gb155 ≠ gb158)); have n8_ := aM ((by rw [hg]; exact Nat.ne_of_gt (blk_lt (g := gb155) (o := .cells #[.int .i64 a0_0, .int .i64 a0_1, .slice A0_2 l0_2.length c0_2, .int .i64 a0_3, .slice A0_4 l0_4.length c0_4] 27 (0, 0)) (by (with_reducible repeat (first | refine bN ?_ _ | refine bD ?_ | refine bA ?_ _)); exact BK155.out)) : gb158 ≠ gb155)); have n9_ := aM ((by rw [hg]; exact Nat.ne_of_lt (blk_lt (g := gb156) (o := .cells #[.int .i64 a1_0, .int .i64 a1_1, .int .i64 a1_2] 42 (0, 0)) (by (with_reducible repeat (first | refine bN ?_ _ | refine bD ?_ | refine bA ?_ _)); exact BK156.out)) : gb156 ≠ gb158)); have n10_ := aM ((by rw [hg]; exact Nat.ne_of_gt (blk_lt (g := gb156) (o := .cells #[.int .i64 a1_0, .int .i64 a1_1, .int .i64 a1_2] 42 (0, 0)) (by (with_reducible repeat (first | refine bN ?_ _ | refine bD ?_ | refine bA ?_ _)); exact BK156.out)) : gb158 ≠ gb156)); have n11_ := aM ((by rw [hg]; exact Nat.ne_of_lt (blk_lt (g := gb157) (o := .cells #[.int .i64 0, .int .i64 0, .slice none 0 0, .int .i64 0, .slice none 0 0] 27 (0, 0)) (by (with_reducible repeat (first | refine bN ?_ _ | refine bD ?_ | refine bA ?_ _)); exact BK157.out)) : gb157 ≠ gb158)); have n12_ := aM ((by rw [hg]; exact Nat.ne_of_gt (blk_lt (g := gb157) (o := .cells #[.int .i64 0, .int .i64 0, .slice none 0 0, .int .i64 0, .slice none 0 0] 27 (0, 0)) (by (with_reducible repeat (first | refine bN ?_ _ | refine bD ?_ | refine bA ?_ _)); exact BK157.out)) : gb158 ≠ gb157)); clear BK155; clear BK156; clear BK157; clear HB; have BK155 := n0_; have BK156 := n1_; have BK157 := n2_; have HB := n3_; have BK158 := n4_; have GW158 := n5_; have GE158 := n6_; have NB155_158 := n7_; have NB158_155 := n8_; have NB156_158 := n9_; have NB158_156 := n10_; have NB157_158 := n11_; have NB158_157 := n12_; clear n0_ n1_ n2_ n3_ n4_ n5_ n6_ n7_ n8_ n9_ n10_ n11_ n12_; clear hb hbox hg; have hnb121 := NB155_156.out; have hnc121 := NB156_155.out; have hnb122 := NB155_157.out; have hnc122 := NB157_155.out; have hnb123 := NB155_158.out; have hnc123 := NB158_155.out; have hcz124_0 : w120.cell? ⟨gb155, 0, none⟩ = some (.int .i64 a0_0) := (blk_cell BK155.out 0).trans rfl; have hcz124_1 : w120.cell? ⟨gb155, 1, none⟩ = some (.int .i64 a0_1) := (blk_cell BK155.out 1).trans rfl; have hcz124_2 : w120.cell? ⟨gb155, 2, none⟩ = some (.slice A0_2 l0_2.length c0_2) := (blk_cell BK155.out 2).trans rfl; have hcz124_3 : w120.cell? ⟨gb155, 3, none⟩ = some (.int .i64 a0_3) := (blk_cell BK155.out 3).trans rfl; have hcz124_4 : w120.cell? ⟨gb155, 4, none⟩ = some (.slice A0_4 l0_4.length c0_4) := (blk_cell BK155.out 4).trans rfl; have hfz124_0 := blk_frozen BK155.out 0; have hfz124_1 := blk_frozen BK155.out 1; have hfz124_2 := blk_frozen BK155.out 2; have hfz124_3 := blk_frozen BK155.out 3; have hfz124_4 := blk_frozen BK155.out 4) | ((with_reducible refine gate_callee (f := 30) rfl ?_); refine goesL_ (some 9) rfl rfl Try.func30 (by kernel_rfl) rfl #[.agg #[.int .i64 a0_0, .int .i64 a0_1, .slice A0_2 l0_2.length c0_2, .int .i64 a0_3, .slice A0_4 l0_4.length c0_4]] rfl (by (try simp only [List.map_toArray, List.map_cons, List.map_nil]); first | done | rfl | (simp only [List.length_drop, List.length_take]; rfl)) ?_; (with_reducible refine (link_clone.calls a0_0 a0_1 _ _ l0_2 a0_3 _ _ l0_4 t159 t160 t161 t164 t165 _ ?side1 ?side2 ?side3 ?side4 A3.out).mono ?_); (case side1 => repeat (first | exact (Kd.C_below HR0_2.out HB.out) | (with_reducible refine Kd.C_alloc ?_ _) | (with_reducible refine Kd.C_drewN ?_ _) | (with_reducible refine Kd.C_drew ?_))); (case side2 => exact HC0_2.out); (case side3 => repeat (first | exact (Kd.C_below HR0_4.out HB.out) | (with_reducible refine Kd.C_alloc ?_ _) | (with_reducible refine Kd.C_drewN ?_ _) | (with_reducible refine Kd.C_drew ?_))); (case side4 => exact HC0_4.out); rintro e w125 ⟨v162, v166, rfl, ho0, ho1, hb⟩; refine ⟨_, rfl, ?_⟩; have n0_ := aM (Kd.R_lower ho0 (below_size (by repeat (first | (with_reducible first | exact HB.out | apply wA | apply wN | apply wD | refine below_set ?_ GE155.out | refine below_set ?_ GE156.out | refine below_set ?_ GE157.out | refine below_set ?_ GE158.out) | exact HB.out)))); have n1_ := aM (Kd.R_lower (Kd.R_newB (Kd.R_newB ho1 (g := gb156) (o := .cells #[.int .i64 a1_0, .int .i64 a1_1, .int .i64 a1_2] 42 (0, 0)) (by (with_reducible repeat (first | refine bN ?_ _ | refine bD ?_ | refine bA ?_ _)); exact BK156.out)) (g := gb158) (o := .cells #[.int .i64 0, .int .i64 0, .int .i64 0] 42 (0, 0)) (by (with_reducible repeat (first | refine bN ?_ _ | refine bD ?_ | refine bA ?_ _)); exact BK158.out)) (below_size (by repeat (first | (with_reducible first | exact HB.out | apply wA | apply wN | apply wD | refine below_set ?_ GE155.out | refine below_set ?_ GE156.out | refine below_set ?_ GE157.out | refine below_set ?_ GE158.out) | exact HB.out)))); have n2_ := aM (blk_below (g := gb155) (o := .cells #[.int .i64 a0_0, .int .i64 a0_1, .slice A0_2 l0_2.length c0_2, .int .i64 a0_3, .slice A0_4 l0_4.length c0_4] 27 (0, 0)) (by (with_reducible repeat (first | refine bN ?_ _ | refine bD ?_ | refine bA ?_ _)); exact BK155.out) hb); have n3_ := aM (blk_below (g := gb156) (o := .cells #[.int .i64 a1_0, .int .i64 a1_1, .int .i64 a1_2] 42 (0, 0)) (by (with_reducible repeat (first | refine bN ?_ _ | refine bD ?_ | refine bA ?_ _)); exact BK156.out) hb); have n4_ := aM (blk_below (g := gb157) (o := .cells #[.int .i64 0, .int .i64 0, .slice none 0 0, .int .i64 0, .slice none 0 0] 27 (0, 0)) (by (with_reducible repeat (first | refine bN ?_ _ | refine bD ?_ | refine bA ?_ _)); exact BK157.out) hb); have n5_ := aM (blk_below (g := gb158) (o := .cells #[.int .i64 0, .int .i64 0, .int .i64 0] 42 (0, 0)) (by (with_reducible repeat (first | refine bN ?_ _ | refine bD ?_ | refine bA ?_ _)); exact BK158.out) hb); have n6_ := aM (below_step (by repeat (first | (with_reducible first | exact HB.out | apply wA | apply wN | apply wD | refine below_set ?_ GE155.out | refine below_set ?_ GE156.out | refine below_set ?_ GE157.out | refine below_set ?_ GE158.out) | exact HB.out)) hb); clear BK155; clear BK156; clear BK157; clear BK158; clear HB; have HO163 := n0_; have HO167 := n1_; have BK155 := n2_; have BK156 := n3_; have BK157 := n4_; have BK158 := n5_; have HB := n6_; clear n0_ n1_ n2_ n3_ n4_ n5_ n6_; (try clear hb); (try clear hb2); (try clear hk); (try clear hi); (try clear hge_); (try clear ho0); (try clear ho1); have hcz126_0 : w125.cell? ⟨gb155, 0, none⟩ = some (.int .i64 a0_0) := (blk_cell BK155.out 0).trans rfl; have hcz126_1 : w125.cell? ⟨gb155, 1, none⟩ = some (.int .i64 a0_1) := (blk_cell BK155.out 1).trans rfl; have hcz126_2 : w125.cell? ⟨gb155, 2, none⟩ = some (.slice A0_2 l0_2.length c0_2) := (blk_cell BK155.out 2).trans rfl; have hcz126_3 : w125.cell? ⟨gb155, 3, none⟩ = some (.int .i64 a0_3) := (blk_cell BK155.out 3).trans rfl; have hcz126_4 : w125.cell? ⟨gb155, 4, none⟩ = some (.slice A0_4 l0_4.length c0_4) := (blk_cell BK155.out 4).trans rfl; have hfz126_0 := blk_frozen BK155.out 0; have hfz126_1 := blk_frozen BK155.out 1; have hfz126_2 := blk_frozen BK155.out 2; have hfz126_3 := blk_frozen BK155.out 3; have hfz126_4 := blk_frozen BK155.out 4; obtain ⟨Ao127, co127, eo127⟩ := Kd.R_slice HO163.out; subst eo127; obtain ⟨Ao128, co128, eo128⟩ := Kd.R_slice HO167.out; subst eo128; have hnb129 := NB156_157.out; have hnc129 := NB157_156.out; have hnb130 := NB156_158.out; have hnc130 := NB158_156.out; have hcz131_0 : w125.cell? ⟨gb156, 0, none⟩ = some (.int .i64 a1_0) := (blk_cell BK156.out 0).trans rfl; have hcz131_1 : w125.cell? ⟨gb156, 1, none⟩ = some (.int .i64 a1_1) := (blk_cell BK156.out 1).trans rfl; have hcz131_2 : w125.cell? ⟨gb156, 2, none⟩ = some (.int .i64 a1_2) := (blk_cell BK156.out 2).trans rfl; have hfz131_0 := blk_frozen BK156.out 0; have hfz131_1 := blk_frozen BK156.out 1; have hfz131_2 := blk_frozen BK156.out 2))
   have n0_ : Aside0 (Kd.R (Kd.int .i64) 3 (((((w125.setCell ⟨gb155, 0, none⟩ (.int .i64 t159)).setCell ⟨gb155, 1, none⟩ (.int .i64 t160)).setCell ⟨gb155, 2, none⟩ (.slice Ao127 t161.length co127)).setCell ⟨gb155, 3, none⟩ (.int .i64 t164)).setCell ⟨gb155, 4, none⟩ (.slice Ao128 t165.length co128)) w.heap.size (fun _ => True) (.slice Ao127 t161.length co127) t161) := ⟨by (with_reducible repeat (first | apply Kd.R_alloc | apply Kd.R_drewN | apply Kd.R_drew)); exact Kd.R_mono (Kd.R_far (p := ⟨gb155, 4, none⟩) (Kd.R_far (p := ⟨gb155, 3, none⟩) (Kd.R_far (p := ⟨gb155, 2, none⟩) (Kd.R_far (p := ⟨gb155, 1, none⟩) (Kd.R_far (p := ⟨gb155, 0, none⟩) (Kd.R_types HO163.out BK155.out (by decide)) (fun _ hk => hk.2) (.int .i64 t159)) (fun _ hk => hk.2) (.int .i64 t160)) (fun _ hk => hk.2) (.slice Ao127 t161.length co127)) (fun _ hk => hk.2) (.int .i64 t164)) (fun _ hk => hk.2) (.slice Ao128 t165.length co128)) (fun _ hk => trivial)⟩
   have n1_ : Aside0 (Kd.R k42 42 (((((w125.setCell ⟨gb155, 0, none⟩ (.int .i64 t159)).setCell ⟨gb155, 1, none⟩ (.int .i64 t160)).setCell ⟨gb155, 2, none⟩ (.slice Ao127 t161.length co127)).setCell ⟨gb155, 3, none⟩ (.int .i64 t164)).setCell ⟨gb155, 4, none⟩ (.slice Ao128 t165.length co128)) w.heap.size (fun k_ => k_ ≠ gb156 ∧ k_ ≠ gb158) (.slice Ao128 t165.length co128) t165) := ⟨by (with_reducible repeat (first | apply Kd.R_alloc | apply Kd.R_drewN | apply Kd.R_drew)); exact Kd.R_mono (Kd.R_far (p := ⟨gb155, 4, none⟩) (Kd.R_far (p := ⟨gb155, 3, none⟩) (Kd.R_far (p := ⟨gb155, 2, none⟩) (Kd.R_far (p := ⟨gb155, 1, none⟩) (Kd.R_far (p := ⟨gb155, 0, none⟩) (Kd.R_types HO167.out BK155.out (by decide)) (fun _ hk => hk.2) (.int .i64 t159)) (fun _ hk => hk.2) (.int .i64 t160)) (fun _ hk => hk.2) (.slice Ao127 t161.length co127)) (fun _ hk => hk.2) (.int .i64 t164)) (fun _ hk => hk.2) (.slice Ao128 t165.length co128)) (fun _ hk => ⟨hk.1.1.2, hk.1.2⟩)⟩
   have n2_ : Aside0 ((((((w125.setCell ⟨gb155, 0, none⟩ (.int .i64 t159)).setCell ⟨gb155, 1, none⟩ (.int .i64 t160)).setCell ⟨gb155, 2, none⟩ (.slice Ao127 t161.length co127)).setCell ⟨gb155, 3, none⟩ (.int .i64 t164)).setCell ⟨gb155, 4, none⟩ (.slice Ao128 t165.length co128)).heap[gb155]? = some (.cells #[.int .i64 t159, .int .i64 t160, .slice Ao127 t161.length co127, .int .i64 t164, .slice Ao128 t165.length co128] 27 (0, 0))) := ⟨by (with_reducible repeat (first | refine bN ?_ _ | refine bD ?_ | refine bA ?_ _)); refine blk_put (cs := #[.int .i64 t159, .int .i64 t160, .slice Ao127 t161.length co127, .int .i64 t164, .slice A0_4 l0_4.length c0_4]) ?_ 4 _ rfl; (with_reducible repeat (first | refine bN ?_ _ | refine bD ?_ | refine bA ?_ _)); refine blk_put (cs := #[.int .i64 t159, .int .i64 t160, .slice Ao127 t161.length co127, .int .i64 a0_3, .slice A0_4 l0_4.length c0_4]) ?_ 3 _ rfl; (with_reducible repeat (first | refine bN ?_ _ | refine bD ?_ | refine bA ?_ _)); refine blk_put (cs := #[.int .i64 t159, .int .i64 t160, .slice A0_2 l0_2.length c0_2, .int .i64 a0_3, .slice A0_4 l0_4.length c0_4]) ?_ 2 _ rfl; (with_reducible repeat (first | refine bN ?_ _ | refine bD ?_ | refine bA ?_ _)); refine blk_put (cs := #[.int .i64 t159, .int .i64 a0_1, .slice A0_2 l0_2.length c0_2, .int .i64 a0_3, .slice A0_4 l0_4.length c0_4]) ?_ 1 _ rfl; (with_reducible repeat (first | refine bN ?_ _ | refine bD ?_ | refine bA ?_ _)); refine blk_put (cs := #[.int .i64 a0_0, .int .i64 a0_1, .slice A0_2 l0_2.length c0_2, .int .i64 a0_3, .slice A0_4 l0_4.length c0_4]) ?_ 0 _ rfl; (with_reducible repeat (first | refine bN ?_ _ | refine bD ?_ | refine bA ?_ _)); exact BK155.out⟩
   have n3_ : Aside0 ((((((w125.setCell ⟨gb155, 0, none⟩ (.int .i64 t159)).setCell ⟨gb155, 1, none⟩ (.int .i64 t160)).setCell ⟨gb155, 2, none⟩ (.slice Ao127 t161.length co127)).setCell ⟨gb155, 3, none⟩ (.int .i64 t164)).setCell ⟨gb155, 4, none⟩ (.slice Ao128 t165.length co128)).heap[gb156]? = some (.cells #[.int .i64 a1_0, .int .i64 a1_1, .int .i64 a1_2] 42 (0, 0))) := ⟨by (with_reducible repeat (first | refine bN ?_ _ | refine bD ?_ | refine bA ?_ _)); refine blk_far ?_ NB156_155.out _; (with_reducible repeat (first | refine bN ?_ _ | refine bD ?_ | refine bA ?_ _)); refine blk_far ?_ NB156_155.out _; (with_reducible repeat (first | refine bN ?_ _ | refine bD ?_ | refine bA ?_ _)); refine blk_far ?_ NB156_155.out _; (with_reducible repeat (first | refine bN ?_ _ | refine bD ?_ | refine bA ?_ _)); refine blk_far ?_ NB156_155.out _; (with_reducible repeat (first | refine bN ?_ _ | refine bD ?_ | refine bA ?_ _)); refine blk_far ?_ NB156_155.out _; (with_reducible repeat (first | refine bN ?_ _ | refine bD ?_ | refine bA ?_ _)); exact BK156.out⟩
   have n4_ : Aside0 ((((((w125.setCell ⟨gb155, 0, none⟩ (.int .i64 t159)).setCell ⟨gb155, 1, none⟩ (.int .i64 t160)).setCell ⟨gb155, 2, none⟩ (.slice Ao127 t161.length co127)).setCell ⟨gb155, 3, none⟩ (.int .i64 t164)).setCell ⟨gb155, 4, none⟩ (.slice Ao128 t165.length co128)).heap[gb157]? = some (.cells #[.int .i64 0, .int .i64 0, .slice none 0 0, .int .i64 0, .slice none 0 0] 27 (0, 0))) := ⟨by (with_reducible repeat (first | refine bN ?_ _ | refine bD ?_ | refine bA ?_ _)); refine blk_far ?_ NB157_155.out _; (with_reducible repeat (first | refine bN ?_ _ | refine bD ?_ | refine bA ?_ _)); refine blk_far ?_ NB157_155.out _; (with_reducible repeat (first | refine bN ?_ _ | refine bD ?_ | refine bA ?_ _)); refine blk_far ?_ NB157_155.out _; (with_reducible repeat (first | refine bN ?_ _ | refine bD ?_ | refine bA ?_ _)); refine blk_far ?_ NB157_155.out _; (with_reducible repeat (first | refine bN ?_ _ | refine bD ?_ | refine bA ?_ _)); refine blk_far ?_ NB157_155.out _; (with_reducible repeat (first | refine bN ?_ _ | refine bD ?_ | refine bA ?_ _)); exact BK157.out⟩
   have n5_ : Aside0 ((((((w125.setCell ⟨gb155, 0, none⟩ (.int .i64 t159)).setCell ⟨gb155, 1, none⟩ (.int .i64 t160)).setCell ⟨gb155, 2, none⟩ (.slice Ao127 t161.length co127)).setCell ⟨gb155, 3, none⟩ (.int .i64 t164)).setCell ⟨gb155, 4, none⟩ (.slice Ao128 t165.length co128)).heap[gb158]? = some (.cells #[.int .i64 0, .int .i64 0, .int .i64 0] 42 (0, 0))) := ⟨by (with_reducible repeat (first | refine bN ?_ _ | refine bD ?_ | refine bA ?_ _)); refine blk_far ?_ NB158_155.out _; (with_reducible repeat (first | refine bN ?_ _ | refine bD ?_ | refine bA ?_ _)); refine blk_far ?_ NB158_155.out _; (with_reducible repeat (first | refine bN ?_ _ | refine bD ?_ | refine bA ?_ _)); refine blk_far ?_ NB158_155.out _; (with_reducible repeat (first | refine bN ?_ _ | refine bD ?_ | refine bA ?_ _)); refine blk_far ?_ NB158_155.out _; (with_reducible repeat (first | refine bN ?_ _ | refine bD ?_ | refine bA ?_ _)); refine blk_far ?_ NB158_155.out _; (with_reducible repeat (first | refine bN ?_ _ | refine bD ?_ | refine bA ?_ _)); exact BK158.out⟩
   have n6_ : Aside0 (Below w.heap.size w (((((w125.setCell ⟨gb155, 0, none⟩ (.int .i64 t159)).setCell ⟨gb155, 1, none⟩ (.int .i64 t160)).setCell ⟨gb155, 2, none⟩ (.slice Ao127 t161.length co127)).setCell ⟨gb155, 3, none⟩ (.int .i64 t164)).setCell ⟨gb155, 4, none⟩ (.slice Ao128 t165.length co128))) := ⟨by repeat (first | (with_reducible first | exact HB.out | apply wA | apply wN | apply wD | refine below_set ?_ GE155.out | refine below_set ?_ GE156.out | refine below_set ?_ GE157.out | refine below_set ?_ GE158.out) | exact HB.out)⟩
   (try clear HO163)
   (try clear HO167)
   (try clear BK155)
   (try clear BK156)
   (try clear BK157)
   (try clear BK158)
   (try clear HB)
   generalize (((((w125.setCell ⟨gb155, 0, none⟩ (.int .i64 t159)).setCell ⟨gb155, 1, none⟩ (.int .i64 t160)).setCell ⟨gb155, 2, none⟩ (.slice Ao127 t161.length co127)).setCell ⟨gb155, 3, none⟩ (.int .i64 t164)).setCell ⟨gb155, 4, none⟩ (.slice Ao128 t165.length co128)) = w132 at n0_ n1_ n2_ n3_ n4_ n5_ n6_ ⊢
   have HO163 := n0_
   have HO167 := n1_
   have BK155 := n2_
   have BK156 := n3_
   have BK157 := n4_
   have BK158 := n5_
   have HB := n6_
   clear n0_ n1_ n2_ n3_ n4_ n5_ n6_
   have n0_ := aM (Kd.R_drew HO163.out)
   have n1_ := aM (Kd.R_drew HO167.out)
   have n2_ := aM (bD BK155.out)
   have n3_ := aM (bD BK156.out)
   have n4_ := aM (bD BK157.out)
   have n5_ := aM (bD BK158.out)
   have n6_ := aM (wD HB.out)
   clear HO163
   clear HO167
   clear BK155
   clear BK156
   clear BK157
   clear BK158
   clear HB
   have HO163 := n0_
   have HO167 := n1_
   have BK155 := n2_
   have BK156 := n3_
   have BK157 := n4_
   have BK158 := n5_
   have HB := n6_
   clear n0_ n1_ n2_ n3_ n4_ n5_ n6_
   refine start_ (n := 9) (S := fun w' => w'.cell? ⟨gb155, 0, none⟩ = some (.int .i64 t159) ∧ w'.cell? ⟨gb155, 1, none⟩ = some (.int .i64 t160) ∧ w'.cell? ⟨gb155, 2, none⟩ = some (.slice Ao127 t161.length co127) ∧ w'.cell? ⟨gb155, 3, none⟩ = some (.int .i64 t164) ∧ w'.cell? ⟨gb155, 4, none⟩ = some (.slice Ao128 t165.length co128)) (ds := []) #[false, false, false, false, false, false, false, false, false] (by kernel_rfl) rfl rfl ⟨(blk_cell BK155.out 0).trans rfl, (blk_cell BK155.out 1).trans rfl, (blk_cell BK155.out 2).trans rfl, (blk_cell BK155.out 3).trans rfl, (blk_cell BK155.out 4).trans rfl⟩ (fun hHeld => ?_); refine with_tabW link_Arrive.tab12 link_Arrive.bits12 (fun HT_ HW_ => ?_)
   generalize w132.drew = w133 at HO163 HO167 BK155 BK156 BK157 BK158 HB hHeld ⊢
   refine pure_ (i := 1) (N := some 81) (v := ?_) (a' := ?_) #[false, true, false, false, false, false, false, false, false] rfl rfl (any_of HT_.out (by kernel_rfl)) (fun _ _ _ h => h) (Or.inl ⟨by rfl, ?_⟩) ?_ ?_
   rotate_left
   ·intro w'
    go_simp
    with_reducible rfl
   rotate_left
   ·simp only [Act.put, List.setIfInBounds_toArray, List.set_cons_zero, List.set_cons_succ, i64_w, i32_w]
    rfl
   refine pure_ (i := 2) (N := some 82) (v := ?_) (a' := ?_) #[false, true, true, false, false, false, false, false, false] rfl rfl (any_of HT_.out (by kernel_rfl)) (fun _ _ _ h => h) (Or.inl ⟨by rfl, ?_⟩) ?_ ?_
   rotate_left
   ·intro w'
    go_simp
    with_reducible rfl
   rotate_left
   ·simp only [Act.put, List.setIfInBounds_toArray, List.set_cons_zero, List.set_cons_succ, i64_w, i32_w]
    rfl
   refine take_ (i := 0) (N := some 80) (v := ?_) (a' := ?_) #[true, true, true, false, false, false, false, false, false] rfl rfl (take_ofW HT_.out HW_.out (by kernel_rfl)) (fun _ _ _ h => h) (Or.inl ⟨by rfl, ?_⟩) hHeld ?_ ?_
   rotate_left
   ·rintro w' ⟨s0, s1, s2, s3, s4⟩
    go_simp
    with_reducible rfl
   rotate_left
   ·simp only [Act.put, List.setIfInBounds_toArray, List.set_cons_zero, List.set_cons_succ, i64_w, i32_w]
    rfl
   refine take_ (i := 3) (N := some 83) (v := ?_) (a' := ?_) #[true, true, true, true, false, false, false, false, false] rfl rfl (take_ofW HT_.out HW_.out (by kernel_rfl)) (fun _ _ _ h => h) (Or.inl ⟨by rfl, ?_⟩) hHeld ?_ ?_
   rotate_left
   ·rintro w' ⟨s0, s1, s2, s3, s4⟩
    go_simp
    with_reducible rfl
   rotate_left
   ·simp only [Act.put, List.setIfInBounds_toArray, List.set_cons_zero, List.set_cons_succ, i64_w, i32_w]
    rfl
   refine pure_ (i := 4) (N := some 84) (v := ?_) (a' := ?_) #[true, true, true, true, true, false, false, false, false] rfl rfl (any_of HT_.out (by kernel_rfl)) (fun _ _ _ h => h) (Or.inl ⟨by rfl, ?_⟩) ?_ ?_
   rotate_left
   ·intro w'
    go_simp
    with_reducible rfl
   rotate_left
   ·simp only [Act.put, List.setIfInBounds_toArray, List.set_cons_zero, List.set_cons_succ, i64_w, i32_w]
    rfl
   refine pure_ (i := 5) (N := some 85) (v := ?_) (a' := ?_) #[true, true, true, true, true, true, false, false, false] rfl rfl (any_of HT_.out (by kernel_rfl)) (fun _ _ _ h => h) (Or.inl ⟨by rfl, ?_⟩) ?_ ?_
   rotate_left
   ·intro w'
    go_simp
    with_reducible rfl
   rotate_left
   ·simp only [Act.put, List.setIfInBounds_toArray, List.set_cons_zero, List.set_cons_succ, i64_w, i32_w]
    rfl
   refine one_ (i := 6) (N := none) #[true, true, true, true, true, true, true, false, false] rfl rfl (one_of HT_.out (by kernel_rfl)) (by decide) (fun K hK => ?_)
   have hs134 : w133.cell? ⟨gb157, 0, none⟩ = some (.int .i64 0) := (blk_cell BK157.out 0).trans rfl
   have hfs134 := blk_frozen BK157.out 0
   have hns134_0 := NB155_157.out
   have hns134_1 := NB156_157.out
   have hns134_3 := NB158_157.out
   have hms134_0 := NB157_155.out
   have hms134_1 := NB157_156.out
   have hms134_3 := NB157_158.out
   have hs135 : w133.cell? ⟨gb157, 1, none⟩ = some (.int .i64 0) := (blk_cell BK157.out 1).trans rfl
   have hfs135 := blk_frozen BK157.out 1
   have hns135_0 := NB155_157.out
   have hns135_1 := NB156_157.out
   have hns135_3 := NB158_157.out
   have hms135_0 := NB157_155.out
   have hms135_1 := NB157_156.out
   have hms135_3 := NB157_158.out
   have hs136 : w133.cell? ⟨gb157, 2, none⟩ = some (.slice none 0 0) := (blk_cell BK157.out 2).trans rfl
   have hfs136 := blk_frozen BK157.out 2
   have hns136_0 := NB155_157.out
   have hns136_1 := NB156_157.out
   have hns136_3 := NB158_157.out
   have hms136_0 := NB157_155.out
   have hms136_1 := NB157_156.out
   have hms136_3 := NB157_158.out
   have hs137 : w133.cell? ⟨gb157, 3, none⟩ = some (.int .i64 0) := (blk_cell BK157.out 3).trans rfl
   have hfs137 := blk_frozen BK157.out 3
   have hns137_0 := NB155_157.out
   have hns137_1 := NB156_157.out
   have hns137_3 := NB158_157.out
   have hms137_0 := NB157_155.out
   have hms137_1 := NB157_156.out
   have hms137_3 := NB157_158.out
   have hs138 : w133.cell? ⟨gb157, 4, none⟩ = some (.slice none 0 0) := (blk_cell BK157.out 4).trans rfl
   have hfs138 := blk_frozen BK157.out 4
   have hns138_0 := NB155_157.out
   have hns138_1 := NB156_157.out
   have hns138_3 := NB158_157.out
   have hms138_0 := NB157_155.out
   have hms138_1 := NB157_156.out
   have hms138_3 := NB157_158.out
   refine skip_ (w1 := ?_) (by rfl) rfl ?_ ?_
   rotate_left
   ·go_simp
    rfl
   refine hK.out _ _ ⟨((cell_far (p := ⟨gb157, _, none⟩) NB155_157.out _).trans (((cell_far (p := ⟨gb157, _, none⟩) NB155_157.out _).trans (((cell_far (p := ⟨gb157, _, none⟩) NB155_157.out _).trans (((cell_far (p := ⟨gb157, _, none⟩) NB155_157.out _).trans (((cell_far (p := ⟨gb157, _, none⟩) NB155_157.out _).trans (hHeld.1)))))))))), ((cell_far (p := ⟨gb157, _, none⟩) NB155_157.out _).trans (((cell_far (p := ⟨gb157, _, none⟩) NB155_157.out _).trans (((cell_far (p := ⟨gb157, _, none⟩) NB155_157.out _).trans (((cell_far (p := ⟨gb157, _, none⟩) NB155_157.out _).trans (((cell_far (p := ⟨gb157, _, none⟩) NB155_157.out _).trans (hHeld.2.1)))))))))), ((cell_far (p := ⟨gb157, _, none⟩) NB155_157.out _).trans (((cell_far (p := ⟨gb157, _, none⟩) NB155_157.out _).trans (((cell_far (p := ⟨gb157, _, none⟩) NB155_157.out _).trans (((cell_far (p := ⟨gb157, _, none⟩) NB155_157.out _).trans (((cell_far (p := ⟨gb157, _, none⟩) NB155_157.out _).trans (hHeld.2.2.1)))))))))), ((cell_far (p := ⟨gb157, _, none⟩) NB155_157.out _).trans (((cell_far (p := ⟨gb157, _, none⟩) NB155_157.out _).trans (((cell_far (p := ⟨gb157, _, none⟩) NB155_157.out _).trans (((cell_far (p := ⟨gb157, _, none⟩) NB155_157.out _).trans (((cell_far (p := ⟨gb157, _, none⟩) NB155_157.out _).trans (hHeld.2.2.2.1)))))))))), ((cell_far (p := ⟨gb157, _, none⟩) NB155_157.out _).trans (((cell_far (p := ⟨gb157, _, none⟩) NB155_157.out _).trans (((cell_far (p := ⟨gb157, _, none⟩) NB155_157.out _).trans (((cell_far (p := ⟨gb157, _, none⟩) NB155_157.out _).trans (((cell_far (p := ⟨gb157, _, none⟩) NB155_157.out _).trans (hHeld.2.2.2.2))))))))))⟩ (fun hHeld => ?_)
   clear hK K
   refine pure_ (i := 7) (N := some 5) (v := ?_) (a' := ?_) #[true, true, true, true, true, true, true, true, false] rfl rfl (any_of HT_.out (by kernel_rfl)) (fun _ _ _ h => h) (Or.inl ⟨by rfl, ?_⟩) ?_ ?_
   rotate_left
   ·intro w'
    go_simp
    with_reducible rfl
   rotate_left
   ·simp only [Act.put, List.setIfInBounds_toArray, List.set_cons_zero, List.set_cons_succ, i64_w, i32_w]
    rfl
   refine one_ (i := 8) (N := none) #[true, true, true, true, true, true, true, true, true] rfl rfl (one_of HT_.out (by kernel_rfl)) (by decide) (fun K hK => ?_)
   have hs139 : w133.cell? ⟨gb158, 0, none⟩ = some (.int .i64 0) := (blk_cell BK158.out 0).trans rfl
   have hfs139 := blk_frozen BK158.out 0
   have hns139_0 := NB155_158.out
   have hns139_1 := NB156_158.out
   have hns139_2 := NB157_158.out
   have hms139_0 := NB158_155.out
   have hms139_1 := NB158_156.out
   have hms139_2 := NB158_157.out
   have hs140 : w133.cell? ⟨gb158, 1, none⟩ = some (.int .i64 0) := (blk_cell BK158.out 1).trans rfl
   have hfs140 := blk_frozen BK158.out 1
   have hns140_0 := NB155_158.out
   have hns140_1 := NB156_158.out
   have hns140_2 := NB157_158.out
   have hms140_0 := NB158_155.out
   have hms140_1 := NB158_156.out
   have hms140_2 := NB158_157.out
   have hs141 : w133.cell? ⟨gb158, 2, none⟩ = some (.int .i64 0) := (blk_cell BK158.out 2).trans rfl
   have hfs141 := blk_frozen BK158.out 2
   have hns141_0 := NB155_158.out
   have hns141_1 := NB156_158.out
   have hns141_2 := NB157_158.out
   have hms141_0 := NB158_155.out
   have hms141_1 := NB158_156.out
   have hms141_2 := NB158_157.out
   refine skip_ (w1 := ?_) (by rfl) rfl ?_ ?_
   rotate_left
   ·go_simp
    rfl
   refine hK.out _ _ ⟨((cell_far (p := ⟨gb158, _, none⟩) NB155_158.out _).trans (((cell_far (p := ⟨gb158, _, none⟩) NB155_158.out _).trans (((cell_far (p := ⟨gb158, _, none⟩) NB155_158.out _).trans (hHeld.1)))))), ((cell_far (p := ⟨gb158, _, none⟩) NB155_158.out _).trans (((cell_far (p := ⟨gb158, _, none⟩) NB155_158.out _).trans (((cell_far (p := ⟨gb158, _, none⟩) NB155_158.out _).trans (hHeld.2.1)))))), ((cell_far (p := ⟨gb158, _, none⟩) NB155_158.out _).trans (((cell_far (p := ⟨gb158, _, none⟩) NB155_158.out _).trans (((cell_far (p := ⟨gb158, _, none⟩) NB155_158.out _).trans (hHeld.2.2.1)))))), ((cell_far (p := ⟨gb158, _, none⟩) NB155_158.out _).trans (((cell_far (p := ⟨gb158, _, none⟩) NB155_158.out _).trans (((cell_far (p := ⟨gb158, _, none⟩) NB155_158.out _).trans (hHeld.2.2.2.1)))))), ((cell_far (p := ⟨gb158, _, none⟩) NB155_158.out _).trans (((cell_far (p := ⟨gb158, _, none⟩) NB155_158.out _).trans (((cell_far (p := ⟨gb158, _, none⟩) NB155_158.out _).trans (hHeld.2.2.2.2))))))⟩ (fun hHeld => ?_)
   clear hK K
   refine done_ (done_of HT_.out (by kernel_rfl)) ?_
   try go_wp2
   refine bodyPost_ret (results_list (rs := [.cell 4 27, .tmp 5, .cell 6 42]) rfl (by simp) (.cell gb157 27 #[.int .i64 t159, .int .i64 t160, .slice Ao127 t161.length co127, .int .i64 t164, .slice Ao128 t165.length co128] (0, 0) _ rfl (by (with_reducible repeat (first | refine bN ?_ _ | refine bD ?_ | refine bA ?_ _)); refine blk_far ?_ NB157_158.out _; (with_reducible repeat (first | refine bN ?_ _ | refine bD ?_ | refine bA ?_ _)); refine blk_far ?_ NB157_158.out _; (with_reducible repeat (first | refine bN ?_ _ | refine bD ?_ | refine bA ?_ _)); refine blk_far ?_ NB157_158.out _; (with_reducible repeat (first | refine bN ?_ _ | refine bD ?_ | refine bA ?_ _)); refine blk_put (cs := #[.int .i64 t159, .int .i64 t160, .slice Ao127 t161.length co127, .int .i64 t164, .slice none 0 0]) ?_ 4 _ rfl; (with_reducible repeat (first | refine bN ?_ _ | refine bD ?_ | refine bA ?_ _)); refine blk_put (cs := #[.int .i64 t159, .int .i64 t160, .slice Ao127 t161.length co127, .int .i64 0, .slice none 0 0]) ?_ 3 _ rfl; (with_reducible repeat (first | refine bN ?_ _ | refine bD ?_ | refine bA ?_ _)); refine blk_put (cs := #[.int .i64 t159, .int .i64 t160, .slice none 0 0, .int .i64 0, .slice none 0 0]) ?_ 2 _ rfl; (with_reducible repeat (first | refine bN ?_ _ | refine bD ?_ | refine bA ?_ _)); refine blk_put (cs := #[.int .i64 t159, .int .i64 0, .slice none 0 0, .int .i64 0, .slice none 0 0]) ?_ 1 _ rfl; (with_reducible repeat (first | refine bN ?_ _ | refine bD ?_ | refine bA ?_ _)); refine blk_put (cs := #[.int .i64 0, .int .i64 0, .slice none 0 0, .int .i64 0, .slice none 0 0]) ?_ 0 _ rfl; (with_reducible repeat (first | refine bN ?_ _ | refine bD ?_ | refine bA ?_ _)); exact BK157.out) Try.underlying27 rfl (by kernel_rfl) (.tmp (.cell gb158 42 #[.int .i64 0, .int .i64 (wrap64 (t164 - 1)), .int .i64 0] (0, 0) _ rfl (by (with_reducible repeat (first | refine bN ?_ _ | refine bD ?_ | refine bA ?_ _)); refine blk_put (cs := #[.int .i64 0, .int .i64 (wrap64 (t164 - 1)), .int .i64 0]) ?_ 2 _ rfl; (with_reducible repeat (first | refine bN ?_ _ | refine bD ?_ | refine bA ?_ _)); refine blk_put (cs := #[.int .i64 0, .int .i64 0, .int .i64 0]) ?_ 1 _ rfl; (with_reducible repeat (first | refine bN ?_ _ | refine bD ?_ | refine bA ?_ _)); refine blk_put (cs := #[.int .i64 0, .int .i64 0, .int .i64 0]) ?_ 0 _ rfl; (with_reducible repeat (first | refine bN ?_ _ | refine bD ?_ | refine bA ?_ _)); refine blk_far ?_ NB158_157.out _; (with_reducible repeat (first | refine bN ?_ _ | refine bD ?_ | refine bA ?_ _)); refine blk_far ?_ NB158_157.out _; (with_reducible repeat (first | refine bN ?_ _ | refine bD ?_ | refine bA ?_ _)); refine blk_far ?_ NB158_157.out _; (with_reducible repeat (first | refine bN ?_ _ | refine bD ?_ | refine bA ?_ _)); refine blk_far ?_ NB158_157.out _; (with_reducible repeat (first | refine bN ?_ _ | refine bD ?_ | refine bA ?_ _)); refine blk_far ?_ NB158_157.out _; (with_reducible repeat (first | refine bN ?_ _ | refine bD ?_ | refine bA ?_ _)); exact BK158.out) Try.underlying42 rfl (by kernel_rfl) .nil)))) rfl ?_
   exact ⟨_, _, _, by first | rfl | (simp [errW_none, errW_some] <;> rfl) | (simp [*, errW_none, errW_some] <;> rfl), by (with_reducible repeat (first | apply Kd.R_alloc | apply Kd.R_drewN | apply Kd.R_drew)); exact Kd.R_mono (Kd.R_far (p := ⟨gb158, 2, none⟩) (Kd.R_far (p := ⟨gb158, 1, none⟩) (Kd.R_far (p := ⟨gb158, 0, none⟩) (Kd.R_far (p := ⟨gb157, 4, none⟩) (Kd.R_far (p := ⟨gb157, 3, none⟩) (Kd.R_far (p := ⟨gb157, 2, none⟩) (Kd.R_far (p := ⟨gb157, 1, none⟩) (Kd.R_far (p := ⟨gb157, 0, none⟩) (Kd.R_types (Kd.R_types HO163.out BK157.out (by decide)) BK158.out (by decide)) (fun _ hk => hk.1.2) (.int .i64 t159)) (fun _ hk => hk.1.2) (.int .i64 t160)) (fun _ hk => hk.1.2) (.slice Ao127 t161.length co127)) (fun _ hk => hk.1.2) (.int .i64 t164)) (fun _ hk => hk.1.2) (.slice Ao128 t165.length co128)) (fun _ hk => hk.2) (.int .i64 0)) (fun _ hk => hk.2) (.int .i64 (wrap64 (t164 - 1)))) (fun _ hk => hk.2) (.int .i64 0)) (fun _ hk => (by simp [Value.ownBlock])), Kd.Q_of_R (by (with_reducible repeat (first | apply Kd.R_alloc | apply Kd.R_drewN | apply Kd.R_drew)); exact Kd.R_mono (Kd.R_far (p := ⟨gb158, 2, none⟩) (Kd.R_far (p := ⟨gb158, 1, none⟩) (Kd.R_far (p := ⟨gb158, 0, none⟩) (Kd.R_far (p := ⟨gb157, 4, none⟩) (Kd.R_far (p := ⟨gb157, 3, none⟩) (Kd.R_far (p := ⟨gb157, 2, none⟩) (Kd.R_far (p := ⟨gb157, 1, none⟩) (Kd.R_far (p := ⟨gb157, 0, none⟩) (Kd.R_mono (Kd.R_types HO167.out BK157.out (by decide)) (fun k_ hk => (⟨hk, hk.1.2⟩ : _ ∧ k_ ≠ gb158))) (fun _ hk => hk.1.2) (.int .i64 t159)) (fun _ hk => hk.1.2) (.int .i64 t160)) (fun _ hk => hk.1.2) (.slice Ao127 t161.length co127)) (fun _ hk => hk.1.2) (.int .i64 t164)) (fun _ hk => hk.1.2) (.slice Ao128 t165.length co128)) (fun _ hk => hk.2) (.int .i64 0)) (fun _ hk => hk.2) (.int .i64 (wrap64 (t164 - 1)))) (fun _ hk => hk.2) (.int .i64 0)) (fun _ hk => trivial)), by first | exact Kd.R_nil _ _ _ _ _ | exact Kd.N_nil _ _ _ _ _ | exact Kd.V_nil _ _ _ _ _ | exact Kd.Q_nil _ _ _ _ _ | exact Kd.S_nil _ _ _ _ _, by repeat (first | (with_reducible first | exact HB.out | apply wA | apply wN | apply wD | refine below_set ?_ GE155.out | refine below_set ?_ GE156.out | refine below_set ?_ GE157.out | refine below_set ?_ GE158.out) | exact HB.out)⟩

end Go.Proofs.Ytcbimmcdellmaaa.PLk
