-- Laid by wip/tools/xprint.py, a program of this session over the kit's print: functions as Lean functions, each with its contract.
import Derived.Test.YtiflebfnhjlfdaaPNkx0
import Derived.Test.YtiflebfnhjlfdaaPNkx2
import Derived.Test.YtiflebfnhjlfdaaPNkx3
import Derived.Test.YtiflebfnhjlfdaaPNkx4
import Derived.Test.YtiflebfnhjlfdaaPNkx5
import Derived.Test.YtiflebfnhjlfdaaPNkx7
import Derived.Test.YtiflebfnhjlfdaaPNkx8
import Derived.Test.YtiflebfnhjlfdaaPNkx9
import Derived.Test.YtiflebfnhjlfdaaPNkx10
import Derived.Test.YtiflebfnhjlfdaaPNkx11
namespace Go.Proofs.Ytiflebfnhjlfdaa.PNk
open Go.RowKit Go.Proofs.YtiflebfnhjlfdaaW.PrintWords Go.Proofs.YtiflebfnhjlfdaaW.PrintLast Go.Proofs.YtiflebfnhjlfdaaW.PrintMore
attribute [local go_sem] max2_int min2_int max_two min_two max_three min_three max_four min_four   -- for this text's walks alone
set_option linter.unusedVariables false
set_option linter.unusedSimpArgs false

/-! ### rollbacknetlaw14_NetworkAsks: function 3 -/
mutual
def rollbacknetlaw14_NetworkAsks.j0 : Nat → Int → Int → Int → Int → List (S32) → Int → Bool → Int → Int → Option (Bool)
 | 0, _, _, _, _, _, _, _, _, _ => none
 | k + 1, x1, x2, x3, x5, x13, x14, x32, x158000, x158001 => if x32 = true then (if 0 ≤ x14 then (if x14 < (x13.length : Int) then (rollbacknetlaw14_NetworkAsks.j1 k ((rd_T32 x13 x14).f0) ((rd_T32 x13 x14).f1) x3 ((rd_T32 x13 x14).f3) x13 x14 ((rd_T32 x13 x14).f2.f0) ((rd_T32 x13 x14).f2.f1)) else (none)) else (none)) else (rollbacknetlaw14_NetworkAsks.j1 k x1 x2 x3 x5 x13 x14 x158000 x158001)
def rollbacknetlaw14_NetworkAsks.j1 : Nat → Int → Int → Int → Int → List (S32) → Int → Int → Int → Option (Bool)
 | 0, _, _, _, _, _, _, _, _ => none
 | k + 1, x1, x2, x3, x5, x13, x14, x158000, x158001 => (network_Find.f x13 x1 x158000 x158001 x5).bind fun t167 => ((rollbacknetref14_Find.f k x13 x1 x158000 x158001 x5).bind fun t168 => (if t167 = t168 then ((network_Channel.f x13 x1 x2).bind fun t169 => ((rollbacknetref14_Channel.f k x13 x1 x2).bind fun t172 => ((rollbacknetref03_SameInts.f k t169 t172).bind fun t175 => (if t175 = true then ((network_Oldest.f x13 x14).bind fun t176 => ((rollbacknetref14_Oldest.f k x13 x14).bind fun t177 => (if t176 = t177 then ((network_Oldest.f x13 x3).bind fun t178 => ((rollbacknetref14_Oldest.f k x13 x3).bind fun t179 => (some (t178 == t179)))) else (some false)))) else (some false))))) else (some false)))
end
def rollbacknetlaw14_NetworkAsks.f (k : Nat) (l0 : List Int) (a1 : Int) (a2 : Int) (a3 : Int) (a4_0 : Int) (a4_1 : Int) (a5 : Int) : Option (Bool) := (rollbacknetlaw14_awake.f).bind fun t158 => (if t158 = true then ((rollbacknetlaw14_messages.f k l0 20).bind fun t159 => ((rollbacknetmake_Mod.f a3 (wrap64 ((t159.length : Int) + 1))).bind fun t162 => (if t162 < (t159.length : Int) then (rollbacknetlaw14_NetworkAsks.j0 k a1 a2 a3 a5 t159 t162 ((Int.tmod a3 2) == 0) a4_0 a4_1) else (rollbacknetlaw14_NetworkAsks.j0 k a1 a2 a3 a5 t159 t162 false a4_0 a4_1)))) else (some false))
theorem rollbacknetlaw14_NetworkAsks.mono_l : ∀ k, (∀ y0 y1 y2 y3 y4 y5 y6 y7 y8, LeO (rollbacknetlaw14_NetworkAsks.j0 k y0 y1 y2 y3 y4 y5 y6 y7 y8) (rollbacknetlaw14_NetworkAsks.j0 (k + 1) y0 y1 y2 y3 y4 y5 y6 y7 y8)) ∧ (∀ y0 y1 y2 y3 y4 y5 y6 y7, LeO (rollbacknetlaw14_NetworkAsks.j1 k y0 y1 y2 y3 y4 y5 y6 y7) (rollbacknetlaw14_NetworkAsks.j1 (k + 1) y0 y1 y2 y3 y4 y5 y6 y7))
 | 0 => ⟨fun _ _ _ _ _ _ _ _ _ r h => by simp [rollbacknetlaw14_NetworkAsks.j0] at h, fun _ _ _ _ _ _ _ _ r h => by simp [rollbacknetlaw14_NetworkAsks.j1] at h⟩
 | k + 1 => by
  obtain ⟨ih0, ih1⟩ := rollbacknetlaw14_NetworkAsks.mono_l k
  refine ⟨?_, ?_⟩
  ·intro y0 y1 y2 y3 y4 y5 y6 y7 y8
   unfold rollbacknetlaw14_NetworkAsks.j0
   repeat' first
   | (with_reducible exact ih0 _ _ _ _ _ _ _ _ _)
   | (with_reducible exact ih1 _ _ _ _ _ _ _ _)
   | (with_reducible exact rollbacknetlaw14_messages.mono _ _ _)
   | (with_reducible exact rollbacknetref03_SameInts.mono _ _ _)
   | (with_reducible exact rollbacknetref14_Channel.mono _ _ _ _)
   | (with_reducible exact rollbacknetref14_Find.mono _ _ _ _ _ _)
   | (with_reducible exact rollbacknetref14_Oldest.mono _ _ _)
   | (with_reducible exact LeO.refl _)
   | (with_reducible exact LeO.none _)
   | (with_reducible refine LeO.ite ?_ ?_)
   | (with_reducible refine LeO.bind ?_ (fun _ => ?_))
   | exact ih0 _ _ _ _ _ _ _ _ _
   | exact ih1 _ _ _ _ _ _ _ _
   | exact rollbacknetlaw14_messages.mono _ _ _
   | exact rollbacknetref03_SameInts.mono _ _ _
   | exact rollbacknetref14_Channel.mono _ _ _ _
   | exact rollbacknetref14_Find.mono _ _ _ _ _ _
   | exact rollbacknetref14_Oldest.mono _ _ _
   | exact LeO.none _
   | refine LeO.ite ?_ ?_
   | refine LeO.bind ?_ (fun _ => ?_)
  ·intro y0 y1 y2 y3 y4 y5 y6 y7
   unfold rollbacknetlaw14_NetworkAsks.j1
   repeat' first
   | (with_reducible exact ih0 _ _ _ _ _ _ _ _ _)
   | (with_reducible exact ih1 _ _ _ _ _ _ _ _)
   | (with_reducible exact rollbacknetlaw14_messages.mono _ _ _)
   | (with_reducible exact rollbacknetref03_SameInts.mono _ _ _)
   | (with_reducible exact rollbacknetref14_Channel.mono _ _ _ _)
   | (with_reducible exact rollbacknetref14_Find.mono _ _ _ _ _ _)
   | (with_reducible exact rollbacknetref14_Oldest.mono _ _ _)
   | (with_reducible exact LeO.refl _)
   | (with_reducible exact LeO.none _)
   | (with_reducible refine LeO.ite ?_ ?_)
   | (with_reducible refine LeO.bind ?_ (fun _ => ?_))
   | exact ih0 _ _ _ _ _ _ _ _ _
   | exact ih1 _ _ _ _ _ _ _ _
   | exact rollbacknetlaw14_messages.mono _ _ _
   | exact rollbacknetref03_SameInts.mono _ _ _
   | exact rollbacknetref14_Channel.mono _ _ _ _
   | exact rollbacknetref14_Find.mono _ _ _ _ _ _
   | exact rollbacknetref14_Oldest.mono _ _ _
   | exact LeO.none _
   | refine LeO.ite ?_ ?_
   | refine LeO.bind ?_ (fun _ => ?_)
theorem rollbacknetlaw14_NetworkAsks.mono : ∀ a0 a1 a2 a3 a4 a5 a6 k, LeO (rollbacknetlaw14_NetworkAsks.f k a0 a1 a2 a3 a4 a5 a6) (rollbacknetlaw14_NetworkAsks.f (k + 1) a0 a1 a2 a3 a4 a5 a6) := by
 intro a0 a1 a2 a3 a4 a5 a6 k
 obtain ⟨ih0, ih1⟩ := rollbacknetlaw14_NetworkAsks.mono_l k
 unfold rollbacknetlaw14_NetworkAsks.f
 repeat' first
   | (with_reducible exact ih0 _ _ _ _ _ _ _ _ _)
   | (with_reducible exact ih1 _ _ _ _ _ _ _ _)
   | (with_reducible exact rollbacknetlaw14_messages.mono _ _ _)
   | (with_reducible exact rollbacknetref03_SameInts.mono _ _ _)
   | (with_reducible exact rollbacknetref14_Channel.mono _ _ _ _)
   | (with_reducible exact rollbacknetref14_Find.mono _ _ _ _ _ _)
   | (with_reducible exact rollbacknetref14_Oldest.mono _ _ _)
   | (with_reducible exact LeO.refl _)
   | (with_reducible exact LeO.none _)
   | (with_reducible refine LeO.ite ?_ ?_)
   | (with_reducible refine LeO.bind ?_ (fun _ => ?_))
   | exact ih0 _ _ _ _ _ _ _ _ _
   | exact ih1 _ _ _ _ _ _ _ _
   | exact rollbacknetlaw14_messages.mono _ _ _
   | exact rollbacknetref03_SameInts.mono _ _ _
   | exact rollbacknetref14_Channel.mono _ _ _ _
   | exact rollbacknetref14_Find.mono _ _ _ _ _ _
   | exact rollbacknetref14_Oldest.mono _ _ _
   | exact LeO.none _
   | refine LeO.ite ?_ ?_
   | refine LeO.bind ?_ (fun _ => ?_)
def rollbacknetlaw14_NetworkAsks.T6 : Bool × List (List Nat × List Nat) := (true, [([], []), ([], []), ([0, 1], [0, 1]), ([2], [2]), ([3], [3]), ([], []), ([], []), ([5, 6], [5, 6]), ([7], [7]), ([8], [8]), ([], []), ([], []), ([10, 11], [10, 11]), ([12], [12]), ([13], [13]), ([], []), ([], []), ([15, 16], [15, 16]), ([17], [17]), ([18], [18]), ([4, 0, 1, 2, 3, 4], [4]), ([9, 20, 0, 1, 2, 3, 4, 5, 6, 7, 8, 9, 20], [9]), ([14, 21, 0, 1, 2, 3, 4, 5, 6, 7, 8, 9, 10, 11, 12, 13, 14, 20, 21], [14]), ([19, 22, 0, 1, 2, 3, 4, 5, 6, 7, 8, 9, 10, 11, 12, 13, 14, 15, 16, 17, 18, 19, 20, 21, 22], [19])])
def rollbacknetlaw14_NetworkAsks.B6 : List Nat := [0, 0, 3, 7, 15, 0, 0, 96, 224, 480, 0, 0, 3072, 7168, 15360, 0, 0, 98304, 229376, 491520, 31, 1049599, 3178495, 8388607]
theorem rollbacknetlaw14_NetworkAsks.tab6 : rtab .any (opsOf Try.f3 6) = rollbacknetlaw14_NetworkAsks.T6 := by kernel_rfl
theorem rollbacknetlaw14_NetworkAsks.bits6 : waitsOk rollbacknetlaw14_NetworkAsks.T6.2 rollbacknetlaw14_NetworkAsks.B6 = true := by kernel_rfl
def rollbacknetlaw14_NetworkAsks.T7 : Bool × List (List Nat × List Nat) := (true, [([], []), ([], []), ([], []), ([], []), ([0, 1, 2, 3], [0, 1, 2, 3]), ([], []), ([], []), ([], []), ([], []), ([5, 6, 7, 8, 4], [5, 6, 7, 8]), ([4, 9], [4, 9]), ([10, 9], [10]), ([11], [11]), ([11], [11]), ([11], [11]), ([12, 13, 14, 11, 11], [11, 12, 13, 14]), ([11], [11]), ([11], [11]), ([11], [11]), ([16, 17, 18, 15, 11], [11, 16, 17, 18]), ([15, 19, 19, 11], [11, 15, 19]), ([11, 20], [11, 20]), ([21, 20], [21]), ([22], [22]), ([22], [22]), ([23, 24, 22, 22], [22, 23, 24]), ([22], [22]), ([22], [22]), ([26, 27, 25, 22], [22, 26, 27]), ([25, 28, 22], [22, 25, 28]), ([22, 29], [22, 29]), ([30, 28], [30]), ([31], [31]), ([31], [31]), ([32, 33, 31, 31], [31, 32, 33]), ([31], [31]), ([31], [31]), ([35, 36, 34, 31], [31, 35, 36]), ([34, 37, 31], [31, 34, 37]), ([31, 38], [31, 38]), ([39, 37, 0, 1, 2, 3, 4, 5, 6, 7, 8, 9, 10, 11, 12, 13, 14, 15, 16, 17, 18, 19, 20, 21, 22, 23, 24, 25, 26, 27, 28, 29, 30, 31, 32, 33, 34, 35, 36, 37, 38, 39], [39])])
def rollbacknetlaw14_NetworkAsks.B7 : List Nat := [0, 0, 0, 0, 15, 0, 0, 0, 0, 511, 1023, 2047, 4095, 4095, 4095, 32767, 4095, 4095, 4095, 524287, 1048575, 2097151, 4194303, 8388607, 8388607, 33554431, 8388607, 8388607, 268435455, 536870911, 1073741823, 2147483647, 4294967295, 4294967295, 17179869183, 4294967295, 4294967295, 137438953471, 274877906943, 549755813887, 1099511627775]
theorem rollbacknetlaw14_NetworkAsks.tab7 : rtab .any (opsOf Try.f3 7) = rollbacknetlaw14_NetworkAsks.T7 := by kernel_rfl
theorem rollbacknetlaw14_NetworkAsks.bits7 : waitsOk rollbacknetlaw14_NetworkAsks.T7.2 rollbacknetlaw14_NetworkAsks.B7 = true := by kernel_rfl
set_option maxHeartbeats 8000000 in
set_option maxRecDepth 100000 in
theorem rollbacknetlaw14_NetworkAsks.calls (k : Nat) (A0 : Option Addr) (c0 : Nat) (l0 : List Int) (a1 : Int) (a2 : Int) (a3 : Int) (a4_0 : Int) (a4_1 : Int) (a5 : Int) (r : Bool) (w : World) (hr0 : Kd.C (Kd.int .u8) w A0 l0.length l0) (hc0 : l0.length ≤ c0) (h : rollbacknetlaw14_NetworkAsks.f k l0 a1 a2 a3 a4_0 a4_1 a5 = some r) :
  Calls Try.prog 3 #[.slice A0 l0.length c0, .int .i64 a1, .int .i64 a2, .int .i64 a3, .agg #[.int .i64 a4_0, .int .i64 a4_1], .int .i64 a5] w fun e w' => e = .returned (.bool r) ∧ Below w.heap.size w w' := by
 have hu24 := Try.underlying24
 have HR0 := aM hr0
 have HC0 := aM hc0
 clear hr0 hc0
 have HB := aM (Below.refl w.heap.size w)
 have H : ((rollbacknetlaw14_awake.f).bind fun t158 => (if t158 = true then ((rollbacknetlaw14_messages.f k l0 20).bind fun t159 => ((rollbacknetmake_Mod.f a3 (wrap64 ((t159.length : Int) + 1))).bind fun t162 => (if t162 < (t159.length : Int) then (rollbacknetlaw14_NetworkAsks.j0 k a1 a2 a3 a5 t159 t162 ((Int.tmod a3 2) == 0) a4_0 a4_1) else (rollbacknetlaw14_NetworkAsks.j0 k a1 a2 a3 a5 t159 t162 false a4_0 a4_1)))) else (some false))) = some r := h
 clear h
 replace H := Option.bind_eq_some_iff.mp H
 obtain ⟨t158, A70, H⟩ := H
 replace H : (if t158 = true then ((rollbacknetlaw14_messages.f k l0 20).bind fun t159 => ((rollbacknetmake_Mod.f a3 (wrap64 ((t159.length : Int) + 1))).bind fun t162 => (if t162 < (t159.length : Int) then (rollbacknetlaw14_NetworkAsks.j0 k a1 a2 a3 a5 t159 t162 ((Int.tmod a3 2) == 0) a4_0 a4_1) else (rollbacknetlaw14_NetworkAsks.j0 k a1 a2 a3 a5 t159 t162 false a4_0 a4_1)))) else (some false)) = some r := H
 have A7 := aM A70
 clear A70
 by_cases c8 : t158 = true
 ·subst c8
  have H1 : ((rollbacknetlaw14_messages.f k l0 20).bind fun t159 => ((rollbacknetmake_Mod.f a3 (wrap64 ((t159.length : Int) + 1))).bind fun t162 => (if t162 < (t159.length : Int) then (rollbacknetlaw14_NetworkAsks.j0 k a1 a2 a3 a5 t159 t162 ((Int.tmod a3 2) == 0) a4_0 a4_1) else (rollbacknetlaw14_NetworkAsks.j0 k a1 a2 a3 a5 t159 t162 false a4_0 a4_1)))) = some r := by rw [if_pos rfl] at H; exact H
  clear H
  have H := H1
  clear H1
  replace H := Option.bind_eq_some_iff.mp H
  obtain ⟨t159, A90, H⟩ := H
  replace H : ((rollbacknetmake_Mod.f a3 (wrap64 ((t159.length : Int) + 1))).bind fun t162 => (if t162 < (t159.length : Int) then (rollbacknetlaw14_NetworkAsks.j0 k a1 a2 a3 a5 t159 t162 ((Int.tmod a3 2) == 0) a4_0 a4_1) else (rollbacknetlaw14_NetworkAsks.j0 k a1 a2 a3 a5 t159 t162 false a4_0 a4_1))) = some r := H
  have A9 := aM A90
  clear A90
  replace H := Option.bind_eq_some_iff.mp H
  obtain ⟨t162, A100, H⟩ := H
  replace H : (if t162 < (t159.length : Int) then (rollbacknetlaw14_NetworkAsks.j0 k a1 a2 a3 a5 t159 t162 ((Int.tmod a3 2) == 0) a4_0 a4_1) else (rollbacknetlaw14_NetworkAsks.j0 k a1 a2 a3 a5 t159 t162 false a4_0 a4_1)) = some r := H
  have A10 := aM A100
  clear A100
  have HC11 := aM H
  clear H
  go_enter Try.func3, Try.ntmps3
  go_upto_region 5 with (first | ((with_reducible refine gate_dst (N := 10) rfl ?_); refine box_event ?hg (N := 10) ?hd (cs := #[.int .i64 a4_0, .int .i64 a4_1]) (t := 24) ?hr ?_; (case hd => rfl); (case hg => rfl); (case hr => first | (go_simp; done) | (go_simp; rfl)); intro gb157 hg w12 hbox hb; have n0_ := aM (below_step (by repeat (first | (with_reducible first | exact HB.out | apply wA | apply wN | apply wD) | exact HB.out)) hb); have n1_ := aM (hbox); have n2_ := aM ((by rw [hg]; exact (below_size (by repeat (first | (with_reducible first | exact HB.out | apply wA | apply wN | apply wD) | exact HB.out))) : w.heap.size ≤ gb157)); have n3_ := aM ((by rw [hg]; exact (below_size (by repeat (first | (with_reducible first | exact HB.out | apply wA | apply wN | apply wD) | exact HB.out))) : w.heap.size ≤ gb157)); clear HB; have HB := n0_; have BK157 := n1_; have GW157 := n2_; have GE157 := n3_; clear n0_ n1_ n2_ n3_; clear hb hbox hg) | ((with_reducible refine gate_callee (f := 8) rfl ?_); refine goesL_ (some 15) rfl rfl Try.func8 (by kernel_rfl) rfl #[] rfl (by (try simp only [List.map_toArray, List.map_cons, List.map_nil]); first | done | rfl | (simp only [List.length_drop, List.length_take]; rfl)) ?_; (with_reducible refine (rollbacknetlaw14_awake.calls  true _ A7.out).mono ?_); rintro e w13 ⟨rfl, hb⟩; refine ⟨_, rfl, ?_⟩; have n0_ := aM (blk_below (g := gb157) (o := .cells #[.int .i64 a4_0, .int .i64 a4_1] 24 (0, 0)) (by (with_reducible repeat (first | refine bN ?_ _ | refine bD ?_ | refine bA ?_ _)); exact BK157.out) hb); have n1_ := aM (below_step (by repeat (first | (with_reducible first | exact HB.out | apply wA | apply wN | apply wD | refine below_set ?_ GE157.out) | exact HB.out)) hb); clear BK157; clear HB; have BK157 := n0_; have HB := n1_; clear n0_ n1_; (try clear hb); (try clear hb2); (try clear hk); (try clear hi); (try clear hge_)) | ((with_reducible refine gate_callee (f := 9) rfl ?_); refine goesL_ (some 18) rfl rfl Try.func9 (by kernel_rfl) rfl #[.slice A0 l0.length c0, .int .i64 20] rfl (by (try simp only [List.map_toArray, List.map_cons, List.map_nil]); first | done | rfl | (simp only [List.length_drop, List.length_take]; rfl)) ?_; (with_reducible refine (rollbacknetlaw14_messages.calls k _ _ l0 20 t159 _ ?side1 ?side2 A9.out).mono ?_); (case side1 => repeat (first | exact (Kd.C_below HR0.out HB.out) | (with_reducible refine Kd.C_alloc ?_ _) | (with_reducible refine Kd.C_drewN ?_ _) | (with_reducible refine Kd.C_drew ?_))); (case side2 => exact HC0.out); rintro e w14 ⟨v160, rfl, ho0, hb⟩; refine ⟨_, rfl, ?_⟩; have n0_ := aM (Kd.S_lower ho0 (below_size (by repeat (first | (with_reducible first | exact HB.out | apply wA | apply wN | apply wD | refine below_set ?_ GE157.out) | exact HB.out)))); have n1_ := aM (blk_below (g := gb157) (o := .cells #[.int .i64 a4_0, .int .i64 a4_1] 24 (0, 0)) (by (with_reducible repeat (first | refine bN ?_ _ | refine bD ?_ | refine bA ?_ _)); exact BK157.out) hb); have n2_ := aM (below_step (by repeat (first | (with_reducible first | exact HB.out | apply wA | apply wN | apply wD | refine below_set ?_ GE157.out) | exact HB.out)) hb); clear BK157; clear HB; have HO161 := n0_; have BK157 := n1_; have HB := n2_; clear n0_ n1_ n2_; (try clear hb); (try clear hb2); (try clear hk); (try clear hi); (try clear hge_); (try clear ho0); obtain ⟨Ao15, co15, eo15⟩ := Kd.S_slice HO161.out; subst eo15) | ((with_reducible refine gate_callee (f := 10) rfl ?_); refine goesL_ (some 23) rfl rfl Try.func10 (by kernel_rfl) rfl #[.int .i64 a3, .int .i64 (wrap64 ((t159.length : Int) + 1))] rfl (by (try simp only [List.map_toArray, List.map_cons, List.map_nil]); first | done | rfl | (simp only [List.length_drop, List.length_take]; rfl)) ?_; (with_reducible refine (rollbacknetmake_Mod.calls a3 (wrap64 ((t159.length : Int) + 1)) t162 _ A10.out).mono ?_); rintro e w' ⟨rfl, ⟨nd, rfl⟩⟩; refine ⟨_, rfl, ?_⟩))
  (try simp only [Act.put, List.setIfInBounds_toArray, List.set_cons_zero, List.set_cons_succ])
  go_cut [32] (fun v32 wc => ∃ (kq : Nat) (x32_10 : Bool), v32 = .bool x32_10 ∧ Aside0 (rollbacknetlaw14_NetworkAsks.j0 kq a1 a2 a3 a5 t159 t162 x32_10 a4_0 a4_1 = some r) ∧ Aside0 (kq ≤ k) ∧ Aside0 (Kd.S k32 32 wc w.heap.size (fun _ => True) (.slice Ao15 t159.length co15) t159) ∧ Aside0 (wc.heap[gb157]? = some (.cells #[.int .i64 a4_0, .int .i64 a4_1] 24 (0, 0))) ∧ Aside0 (Below w.heap.size w wc))
  case first =>
   have H := HC11.out
   clear HC11
   by_cases c16 : t162 < (t159.length : Int)
   ·rw [if_pos c16] at H
    have c16b0 : decide (t162 < (t159.length : Int)) = true := decide_eq_true c16
    clear c16
    (first | rw [c16b0] | (simp only [i64_w, i32_w]; rw [c16b0]) | skip)
    have H' := aM H
    clear H
    go_wp2
    go_meet
    case rel => exact ⟨_, (((Int.tmod a3 2) == 0)), (by first | rfl | (simp; done) | (simp [*]; done)), H', ⟨by first | omega | exact Nat.le_refl _⟩, ⟨by (with_reducible repeat (first | apply Kd.S_alloc | apply Kd.S_drewN | apply Kd.S_drew)); exact HO161.out⟩, ⟨by (with_reducible repeat (first | refine bN ?_ _ | refine bD ?_ | refine bA ?_ _)); exact BK157.out⟩, ⟨by repeat (first | (with_reducible first | exact HB.out | apply wA | apply wN | apply wD | refine below_set ?_ GE157.out) | exact HB.out)⟩⟩
   ·rw [if_neg c16] at H
    have c16b0 : decide (t162 < (t159.length : Int)) = false := decide_eq_false c16
    clear c16
    (first | rw [c16b0] | (simp only [i64_w, i32_w]; rw [c16b0]) | skip)
    have H' := aM H
    clear H
    go_wp2
    go_meet
    case rel => exact ⟨_, (false), (by first | rfl | (simp; done) | (simp [*]; done)), H', ⟨by first | omega | exact Nat.le_refl _⟩, ⟨by (with_reducible repeat (first | apply Kd.S_alloc | apply Kd.S_drewN | apply Kd.S_drew)); exact HO161.out⟩, ⟨by (with_reducible repeat (first | refine bN ?_ _ | refine bD ?_ | refine bA ?_ _)); exact BK157.out⟩, ⟨by repeat (first | (with_reducible first | exact HB.out | apply wA | apply wN | apply wD | refine below_set ?_ GE157.out) | exact HB.out)⟩⟩
  case rest =>
   clear HC11
   try clear c1
   try clear p2
   try clear c3
   try clear p6
   try clear c8
   try clear c9
   try clear c10
   try clear c16
   try clear c16b0
   obtain ⟨kq, x32_10, rfl, HA, HJ10, HO_13, BK157, HB⟩ := hcut
   cases kq with
   | zero => exact absurd HA.out (by simp [rollbacknetlaw14_NetworkAsks.j0])
   | succ kj10 =>
    have H := HA.out
    clear HA
    simp only [rollbacknetlaw14_NetworkAsks.j0] at H
    have HC17 := aM H
    clear H
    go_upto_if 32 with (fail)
    go_cut [1, 2, 5] (fun v1 v2 v5 wc => ∃ (kq : Nat) (x1_16 : Int) (x2_16 : Int) (x5_16 : Int) (x158000_16 : Int) (x158001_16 : Int), v1 = .int .i64 x1_16 ∧ v2 = .int .i64 x2_16 ∧ v5 = .int .i64 x5_16 ∧ Aside0 (rollbacknetlaw14_NetworkAsks.j1 kq x1_16 x2_16 a3 x5_16 t159 t162 x158000_16 x158001_16 = some r) ∧ Aside0 (kq ≤ kj10) ∧ Aside0 (Kd.S k32 32 wc w.heap.size (fun _ => True) (.slice Ao15 t159.length co15) t159) ∧ Aside0 (wc.heap[gb157]? = some (.cells #[.int .i64 x158000_16, .int .i64 x158001_16] 24 (0, 0))) ∧ Aside0 (Below w.heap.size w wc))
    case first =>
     have H := HC17.out
     clear HC17
     by_cases c18 : x32_10 = true
     ·subst c18
      have H1 : (if 0 ≤ t162 then (if t162 < (t159.length : Int) then (rollbacknetlaw14_NetworkAsks.j1 kj10 ((rd_T32 t159 t162).f0) ((rd_T32 t159 t162).f1) a3 ((rd_T32 t159 t162).f3) t159 t162 ((rd_T32 t159 t162).f2.f0) ((rd_T32 t159 t162).f2.f1)) else (none)) else (none)) = some r := by rw [if_pos rfl] at H; exact H
      clear H
      have H := H1
      clear H1
      by_cases c19 : 0 ≤ t162
      ·rw [if_pos c19] at H
       have c19b0 : decide (0 ≤ t162) = true := decide_eq_true c19
       clear c19
       (first | rw [c19b0] | (simp only [i64_w, i32_w]; rw [c19b0]) | skip)
       by_cases c20 : t162 < (t159.length : Int)
       ·rw [if_pos c20] at H
        have c20b0 : decide (t162 < (t159.length : Int)) = true := decide_eq_true c20
        clear c20
        have H' := aM H
        clear H
        try go_wp2
        have n0_ := aM (Kd.S_drew HO_13.out)
        have n1_ := aM (bD BK157.out)
        have n2_ := aM (wD HB.out)
        clear HO_13
        clear BK157
        clear HB
        have HO_13 := n0_
        have BK157 := n1_
        have HB := n2_
        clear n0_ n1_ n2_
        have p163 : 0 ≤ (t162 : Int) := of_decide_eq_true (by first | (with_reducible assumption) | assumption)
        have q163 : t162 < (t159.length : Int) := of_decide_eq_true (by first | (with_reducible assumption) | assumption)
        obtain ⟨ad163, A163_7, c163_7, A163_8, c163_8, e163, hx163_0, hx163_1, hx163_2, hx163_3, hx163_4, hx163_5, hx163_6, hx163_7, hx163_8, hl163_7, hi163_7, hl163_8, hi163_8⟩ := at_T32 (Kd.S_reads' HO_13.out).2.2 t162 p163 q163
        cases e163
        obtain ⟨ce163, hce163, hMe163, hcc163⟩ := Kd.S_get HO_13.out z32 t162 p163 (by first | exact q163 | exact of_decide_eq_true (by first | (with_reducible assumption) | assumption) | (have e_ := (Kd.S_reads' HO_13.out).1; omega))
        obtain ⟨ve163_7, ve163_8, rfl, ge163_7, ge163_8⟩ := k32_openM hMe163
        have hv163_7 := hcc163 7 _ rfl
        rw [add_field _ _ 7 (by omega)] at hv163_7
        replace hv163_7 := Option.some.inj (hv163_7.symm.trans hx163_7)
        rw [hv163_7] at ge163_7
        have HL163_7 := aM (show Kd.R (Kd.int .i64) 3 _ _ _ _ ((rd_T32 t159 t162).f6) from ge163_7)
        clear hv163_7 ge163_7
        have hv163_8 := hcc163 8 _ rfl
        rw [add_field _ _ 8 (by omega)] at hv163_8
        replace hv163_8 := Option.some.inj (hv163_8.symm.trans hx163_8)
        rw [hv163_8] at ge163_8
        have HL163_8 := aM (show Kd.R k69 69 _ _ _ _ ((rd_T32 t159 t162).f7) from ge163_8)
        clear hv163_8 ge163_8
        clear hcc163 hce163
        have HR163_7 := aM hi163_7
        have HC163_7 := aM hl163_7
        clear hi163_7 hl163_7
        have HR163_8 := aM hi163_8
        have HC163_8 := aM hl163_8
        clear hi163_8 hl163_8
        replace p163 := eq_true p163
        replace q163 := eq_true q163
        have p164 : 0 ≤ (t162 : Int) := of_decide_eq_true (by first | (with_reducible assumption) | assumption)
        have q164 : t162 < (t159.length : Int) := of_decide_eq_true (by first | (with_reducible assumption) | assumption)
        obtain ⟨ad164, A164_7, c164_7, A164_8, c164_8, e164, hx164_0, hx164_1, hx164_2, hx164_3, hx164_4, hx164_5, hx164_6, hx164_7, hx164_8, hl164_7, hi164_7, hl164_8, hi164_8⟩ := at_T32 (Kd.S_reads' HO_13.out).2.2 t162 p164 q164
        obtain rfl : ad163 = ad164 := (by injection e164)
        obtain ⟨ce164, hce164, hMe164, hcc164⟩ := Kd.S_get HO_13.out z32 t162 p164 (by first | exact q164 | exact of_decide_eq_true (by first | (with_reducible assumption) | assumption) | (have e_ := (Kd.S_reads' HO_13.out).1; omega))
        obtain ⟨ve164_7, ve164_8, rfl, ge164_7, ge164_8⟩ := k32_openM hMe164
        have hv164_7 := hcc164 7 _ rfl
        rw [add_field _ _ 7 (by omega)] at hv164_7
        replace hv164_7 := Option.some.inj (hv164_7.symm.trans hx164_7)
        rw [hv164_7] at ge164_7
        have HL164_7 := aM (show Kd.R (Kd.int .i64) 3 _ _ _ _ ((rd_T32 t159 t162).f6) from ge164_7)
        clear hv164_7 ge164_7
        have hv164_8 := hcc164 8 _ rfl
        rw [add_field _ _ 8 (by omega)] at hv164_8
        replace hv164_8 := Option.some.inj (hv164_8.symm.trans hx164_8)
        rw [hv164_8] at ge164_8
        have HL164_8 := aM (show Kd.R k69 69 _ _ _ _ ((rd_T32 t159 t162).f7) from ge164_8)
        clear hv164_8 ge164_8
        clear hcc164 hce164
        have HR164_7 := aM hi164_7
        have HC164_7 := aM hl164_7
        clear hi164_7 hl164_7
        have HR164_8 := aM hi164_8
        have HC164_8 := aM hl164_8
        clear hi164_8 hl164_8
        replace p164 := eq_true p164
        replace q164 := eq_true q164
        have ea_ := Option.some.inj (hx163_7.symm.trans hx164_7)
        injection ea_ with ea_ en_ ec_
        subst ea_
        subst ec_
        clear en_
        have ea_ := Option.some.inj (hx163_8.symm.trans hx164_8)
        injection ea_ with ea_ en_ ec_
        subst ea_
        subst ec_
        clear en_
        have p165 : 0 ≤ (t162 : Int) := of_decide_eq_true (by first | (with_reducible assumption) | assumption)
        have q165 : t162 < (t159.length : Int) := of_decide_eq_true (by first | (with_reducible assumption) | assumption)
        obtain ⟨ad165, A165_7, c165_7, A165_8, c165_8, e165, hx165_0, hx165_1, hx165_2, hx165_3, hx165_4, hx165_5, hx165_6, hx165_7, hx165_8, hl165_7, hi165_7, hl165_8, hi165_8⟩ := at_T32 (Kd.S_reads' HO_13.out).2.2 t162 p165 q165
        obtain rfl : ad163 = ad165 := (by injection e165)
        obtain ⟨ce165, hce165, hMe165, hcc165⟩ := Kd.S_get HO_13.out z32 t162 p165 (by first | exact q165 | exact of_decide_eq_true (by first | (with_reducible assumption) | assumption) | (have e_ := (Kd.S_reads' HO_13.out).1; omega))
        obtain ⟨ve165_7, ve165_8, rfl, ge165_7, ge165_8⟩ := k32_openM hMe165
        have hv165_7 := hcc165 7 _ rfl
        rw [add_field _ _ 7 (by omega)] at hv165_7
        replace hv165_7 := Option.some.inj (hv165_7.symm.trans hx165_7)
        rw [hv165_7] at ge165_7
        have HL165_7 := aM (show Kd.R (Kd.int .i64) 3 _ _ _ _ ((rd_T32 t159 t162).f6) from ge165_7)
        clear hv165_7 ge165_7
        have hv165_8 := hcc165 8 _ rfl
        rw [add_field _ _ 8 (by omega)] at hv165_8
        replace hv165_8 := Option.some.inj (hv165_8.symm.trans hx165_8)
        rw [hv165_8] at ge165_8
        have HL165_8 := aM (show Kd.R k69 69 _ _ _ _ ((rd_T32 t159 t162).f7) from ge165_8)
        clear hv165_8 ge165_8
        clear hcc165 hce165
        have HR165_7 := aM hi165_7
        have HC165_7 := aM hl165_7
        clear hi165_7 hl165_7
        have HR165_8 := aM hi165_8
        have HC165_8 := aM hl165_8
        clear hi165_8 hl165_8
        replace p165 := eq_true p165
        replace q165 := eq_true q165
        have ea_ := Option.some.inj (hx163_7.symm.trans hx165_7)
        injection ea_ with ea_ en_ ec_
        subst ea_
        subst ec_
        clear en_
        have ea_ := Option.some.inj (hx163_8.symm.trans hx165_8)
        injection ea_ with ea_ en_ ec_
        subst ea_
        subst ec_
        clear en_
        have p166 : 0 ≤ (t162 : Int) := of_decide_eq_true (by first | (with_reducible assumption) | assumption)
        have q166 : t162 < (t159.length : Int) := of_decide_eq_true (by first | (with_reducible assumption) | assumption)
        obtain ⟨ad166, A166_7, c166_7, A166_8, c166_8, e166, hx166_0, hx166_1, hx166_2, hx166_3, hx166_4, hx166_5, hx166_6, hx166_7, hx166_8, hl166_7, hi166_7, hl166_8, hi166_8⟩ := at_T32 (Kd.S_reads' HO_13.out).2.2 t162 p166 q166
        obtain rfl : ad163 = ad166 := (by injection e166)
        obtain ⟨ce166, hce166, hMe166, hcc166⟩ := Kd.S_get HO_13.out z32 t162 p166 (by first | exact q166 | exact of_decide_eq_true (by first | (with_reducible assumption) | assumption) | (have e_ := (Kd.S_reads' HO_13.out).1; omega))
        obtain ⟨ve166_7, ve166_8, rfl, ge166_7, ge166_8⟩ := k32_openM hMe166
        have hv166_7 := hcc166 7 _ rfl
        rw [add_field _ _ 7 (by omega)] at hv166_7
        replace hv166_7 := Option.some.inj (hv166_7.symm.trans hx166_7)
        rw [hv166_7] at ge166_7
        have HL166_7 := aM (show Kd.R (Kd.int .i64) 3 _ _ _ _ ((rd_T32 t159 t162).f6) from ge166_7)
        clear hv166_7 ge166_7
        have hv166_8 := hcc166 8 _ rfl
        rw [add_field _ _ 8 (by omega)] at hv166_8
        replace hv166_8 := Option.some.inj (hv166_8.symm.trans hx166_8)
        rw [hv166_8] at ge166_8
        have HL166_8 := aM (show Kd.R k69 69 _ _ _ _ ((rd_T32 t159 t162).f7) from ge166_8)
        clear hv166_8 ge166_8
        clear hcc166 hce166
        have HR166_7 := aM hi166_7
        have HC166_7 := aM hl166_7
        clear hi166_7 hl166_7
        have HR166_8 := aM hi166_8
        have HC166_8 := aM hl166_8
        clear hi166_8 hl166_8
        replace p166 := eq_true p166
        replace q166 := eq_true q166
        have ea_ := Option.some.inj (hx163_7.symm.trans hx166_7)
        injection ea_ with ea_ en_ ec_
        subst ea_
        subst ec_
        clear en_
        have ea_ := Option.some.inj (hx163_8.symm.trans hx166_8)
        injection ea_ with ea_ en_ ec_
        subst ea_
        subst ec_
        clear en_
        refine start_ (n := 24) (S := fun w' => w'.cell? (ad163.add ((t162).toNat * 9)) = some (.int .i64 ((rd_T32 t159 t162).f0)) ∧ w'.cell? ⟨(ad163.add ((t162).toNat * 9)).block, (ad163.add ((t162).toNat * 9)).off + 1, none⟩ = some (.int .i64 ((rd_T32 t159 t162).f1)) ∧ w'.cell? ⟨(ad163.add ((t162).toNat * 9)).block, (ad163.add ((t162).toNat * 9)).off + 2, none⟩ = some (.int .i64 ((rd_T32 t159 t162).f2.f0)) ∧ w'.cell? ⟨(ad163.add ((t162).toNat * 9)).block, (ad163.add ((t162).toNat * 9)).off + 3, none⟩ = some (.int .i64 ((rd_T32 t159 t162).f2.f1)) ∧ w'.cell? ⟨(ad163.add ((t162).toNat * 9)).block, (ad163.add ((t162).toNat * 9)).off + 4, none⟩ = some (.int .i64 ((rd_T32 t159 t162).f3)) ∧ w'.cell? ⟨(ad163.add ((t162).toNat * 9)).block, (ad163.add ((t162).toNat * 9)).off + 5, none⟩ = some (.int .i64 ((rd_T32 t159 t162).f4)) ∧ w'.cell? ⟨(ad163.add ((t162).toNat * 9)).block, (ad163.add ((t162).toNat * 9)).off + 6, none⟩ = some (.int .i64 ((rd_T32 t159 t162).f5)) ∧ w'.cell? ⟨(ad163.add ((t162).toNat * 9)).block, (ad163.add ((t162).toNat * 9)).off + 7, none⟩ = some (.slice A163_7 ((rd_T32 t159 t162).f6).length c163_7) ∧ w'.cell? ⟨(ad163.add ((t162).toNat * 9)).block, (ad163.add ((t162).toNat * 9)).off + 8, none⟩ = some (.slice A163_8 ((rd_T32 t159 t162).f7).length c163_8) ∧ w'.cell? (ad163.add ((t162).toNat * 9)) = some (.int .i64 ((rd_T32 t159 t162).f0)) ∧ w'.cell? ⟨(ad163.add ((t162).toNat * 9)).block, (ad163.add ((t162).toNat * 9)).off + 1, none⟩ = some (.int .i64 ((rd_T32 t159 t162).f1)) ∧ w'.cell? ⟨(ad163.add ((t162).toNat * 9)).block, (ad163.add ((t162).toNat * 9)).off + 2, none⟩ = some (.int .i64 ((rd_T32 t159 t162).f2.f0)) ∧ w'.cell? ⟨(ad163.add ((t162).toNat * 9)).block, (ad163.add ((t162).toNat * 9)).off + 3, none⟩ = some (.int .i64 ((rd_T32 t159 t162).f2.f1)) ∧ w'.cell? ⟨(ad163.add ((t162).toNat * 9)).block, (ad163.add ((t162).toNat * 9)).off + 4, none⟩ = some (.int .i64 ((rd_T32 t159 t162).f3)) ∧ w'.cell? ⟨(ad163.add ((t162).toNat * 9)).block, (ad163.add ((t162).toNat * 9)).off + 5, none⟩ = some (.int .i64 ((rd_T32 t159 t162).f4)) ∧ w'.cell? ⟨(ad163.add ((t162).toNat * 9)).block, (ad163.add ((t162).toNat * 9)).off + 6, none⟩ = some (.int .i64 ((rd_T32 t159 t162).f5)) ∧ w'.cell? ⟨(ad163.add ((t162).toNat * 9)).block, (ad163.add ((t162).toNat * 9)).off + 7, none⟩ = some (.slice A163_7 ((rd_T32 t159 t162).f6).length c163_7) ∧ w'.cell? ⟨(ad163.add ((t162).toNat * 9)).block, (ad163.add ((t162).toNat * 9)).off + 8, none⟩ = some (.slice A163_8 ((rd_T32 t159 t162).f7).length c163_8) ∧ w'.cell? (ad163.add ((t162).toNat * 9)) = some (.int .i64 ((rd_T32 t159 t162).f0)) ∧ w'.cell? ⟨(ad163.add ((t162).toNat * 9)).block, (ad163.add ((t162).toNat * 9)).off + 1, none⟩ = some (.int .i64 ((rd_T32 t159 t162).f1)) ∧ w'.cell? ⟨(ad163.add ((t162).toNat * 9)).block, (ad163.add ((t162).toNat * 9)).off + 2, none⟩ = some (.int .i64 ((rd_T32 t159 t162).f2.f0)) ∧ w'.cell? ⟨(ad163.add ((t162).toNat * 9)).block, (ad163.add ((t162).toNat * 9)).off + 3, none⟩ = some (.int .i64 ((rd_T32 t159 t162).f2.f1)) ∧ w'.cell? ⟨(ad163.add ((t162).toNat * 9)).block, (ad163.add ((t162).toNat * 9)).off + 4, none⟩ = some (.int .i64 ((rd_T32 t159 t162).f3)) ∧ w'.cell? ⟨(ad163.add ((t162).toNat * 9)).block, (ad163.add ((t162).toNat * 9)).off + 5, none⟩ = some (.int .i64 ((rd_T32 t159 t162).f4)) ∧ w'.cell? ⟨(ad163.add ((t162).toNat * 9)).block, (ad163.add ((t162).toNat * 9)).off + 6, none⟩ = some (.int .i64 ((rd_T32 t159 t162).f5)) ∧ w'.cell? ⟨(ad163.add ((t162).toNat * 9)).block, (ad163.add ((t162).toNat * 9)).off + 7, none⟩ = some (.slice A163_7 ((rd_T32 t159 t162).f6).length c163_7) ∧ w'.cell? ⟨(ad163.add ((t162).toNat * 9)).block, (ad163.add ((t162).toNat * 9)).off + 8, none⟩ = some (.slice A163_8 ((rd_T32 t159 t162).f7).length c163_8) ∧ w'.cell? (ad163.add ((t162).toNat * 9)) = some (.int .i64 ((rd_T32 t159 t162).f0)) ∧ w'.cell? ⟨(ad163.add ((t162).toNat * 9)).block, (ad163.add ((t162).toNat * 9)).off + 1, none⟩ = some (.int .i64 ((rd_T32 t159 t162).f1)) ∧ w'.cell? ⟨(ad163.add ((t162).toNat * 9)).block, (ad163.add ((t162).toNat * 9)).off + 2, none⟩ = some (.int .i64 ((rd_T32 t159 t162).f2.f0)) ∧ w'.cell? ⟨(ad163.add ((t162).toNat * 9)).block, (ad163.add ((t162).toNat * 9)).off + 3, none⟩ = some (.int .i64 ((rd_T32 t159 t162).f2.f1)) ∧ w'.cell? ⟨(ad163.add ((t162).toNat * 9)).block, (ad163.add ((t162).toNat * 9)).off + 4, none⟩ = some (.int .i64 ((rd_T32 t159 t162).f3)) ∧ w'.cell? ⟨(ad163.add ((t162).toNat * 9)).block, (ad163.add ((t162).toNat * 9)).off + 5, none⟩ = some (.int .i64 ((rd_T32 t159 t162).f4)) ∧ w'.cell? ⟨(ad163.add ((t162).toNat * 9)).block, (ad163.add ((t162).toNat * 9)).off + 6, none⟩ = some (.int .i64 ((rd_T32 t159 t162).f5)) ∧ w'.cell? ⟨(ad163.add ((t162).toNat * 9)).block, (ad163.add ((t162).toNat * 9)).off + 7, none⟩ = some (.slice A163_7 ((rd_T32 t159 t162).f6).length c163_7) ∧ w'.cell? ⟨(ad163.add ((t162).toNat * 9)).block, (ad163.add ((t162).toNat * 9)).off + 8, none⟩ = some (.slice A163_8 ((rd_T32 t159 t162).f7).length c163_8)) (ds := []) #[false, false, false, false, false, false, false, false, false, false, false, false, false, false, false, false, false, false, false, false, false, false, false, false] (by kernel_rfl) rfl rfl ⟨hx163_0, hx163_1, hx163_2, hx163_3, hx163_4, hx163_5, hx163_6, hx163_7, hx163_8, hx164_0, hx164_1, hx164_2, hx164_3, hx164_4, hx164_5, hx164_6, hx164_7, hx164_8, hx165_0, hx165_1, hx165_2, hx165_3, hx165_4, hx165_5, hx165_6, hx165_7, hx165_8, hx166_0, hx166_1, hx166_2, hx166_3, hx166_4, hx166_5, hx166_6, hx166_7, hx166_8⟩ (fun hHeld => ?_); refine with_tabW rollbacknetlaw14_NetworkAsks.tab6 rollbacknetlaw14_NetworkAsks.bits6 (fun HT_ HW_ => ?_)
        generalize wc.drew = w21 at HO_13 BK157 HB HL163_7 HL163_8 HL164_7 HL164_8 HL165_7 HL165_8 HL166_7 HL166_8 HR163_7 HR163_8 HR164_7 HR164_8 HR165_7 HR165_8 HR166_7 HR166_8 hx163_0 hx163_1 hx163_2 hx163_3 hx163_4 hx163_5 hx163_6 hx163_7 hx163_8 hx164_0 hx164_1 hx164_2 hx164_3 hx164_4 hx164_5 hx164_6 hx164_7 hx164_8 hx165_0 hx165_1 hx165_2 hx165_3 hx165_4 hx165_5 hx165_6 hx165_7 hx165_8 hx166_0 hx166_1 hx166_2 hx166_3 hx166_4 hx166_5 hx166_6 hx166_7 hx166_8 hHeld ⊢
        refine pure_ (i := 0) (N := some 33) (v := ?_) (a' := ?_) #[true, false, false, false, false, false, false, false, false, false, false, false, false, false, false, false, false, false, false, false, false, false, false, false] rfl rfl (any_of HT_.out (by kernel_rfl)) (fun _ _ _ h => h) (Or.inl ⟨by rfl, ?_⟩) ?_ ?_
        rotate_left
        ·intro w'
         go_simp
         with_reducible rfl
        rotate_left
        ·simp only [Act.put, List.setIfInBounds_toArray, List.set_cons_zero, List.set_cons_succ, i64_w, i32_w]
         rfl
        refine pure_ (i := 1) (N := some 34) (v := ?_) (a' := ?_) #[true, true, false, false, false, false, false, false, false, false, false, false, false, false, false, false, false, false, false, false, false, false, false, false] rfl rfl (any_of HT_.out (by kernel_rfl)) (fun _ _ _ h => h) (Or.inl ⟨by rfl, ?_⟩) ?_ ?_
        rotate_left
        ·intro w'
         go_simp
         with_reducible rfl
        rotate_left
        ·simp only [Act.put, List.setIfInBounds_toArray, List.set_cons_zero, List.set_cons_succ, i64_w, i32_w]
         rfl
        refine pure_ (i := 2) (N := some 35) (v := ?_) (a' := ?_) #[true, true, true, false, false, false, false, false, false, false, false, false, false, false, false, false, false, false, false, false, false, false, false, false] rfl rfl (any_of HT_.out (by kernel_rfl)) (fun _ _ _ h => h) (Or.inl ⟨by rfl, ?_⟩) ?_ ?_
        rotate_left
        ·intro w'
         go_simp
         with_reducible rfl
        rotate_left
        ·simp only [Act.put, List.setIfInBounds_toArray, List.set_cons_zero, List.set_cons_succ, i64_w, i32_w]
         rfl
        refine pure_ (i := 3) (N := some 36) (v := ?_) (a' := ?_) #[true, true, true, true, false, false, false, false, false, false, false, false, false, false, false, false, false, false, false, false, false, false, false, false] rfl rfl (any_of HT_.out (by kernel_rfl)) (fun _ _ _ h => h) (Or.inl ⟨by rfl, ?_⟩) ?_ ?_
        rotate_left
        ·intro w'
         go_simp
         with_reducible rfl
        rotate_left
        ·simp only [Act.put, List.setIfInBounds_toArray, List.set_cons_zero, List.set_cons_succ, i64_w, i32_w]
         rfl
        refine pure_ (i := 5) (N := some 38) (v := ?_) (a' := ?_) #[true, true, true, true, false, true, false, false, false, false, false, false, false, false, false, false, false, false, false, false, false, false, false, false] rfl rfl (any_of HT_.out (by kernel_rfl)) (fun _ _ _ h => h) (Or.inl ⟨by rfl, ?_⟩) ?_ ?_
        rotate_left
        ·intro w'
         go_simp
         with_reducible rfl
        rotate_left
        ·simp only [Act.put, List.setIfInBounds_toArray, List.set_cons_zero, List.set_cons_succ, i64_w, i32_w]
         rfl
        refine pure_ (i := 6) (N := some 39) (v := ?_) (a' := ?_) #[true, true, true, true, false, true, true, false, false, false, false, false, false, false, false, false, false, false, false, false, false, false, false, false] rfl rfl (any_of HT_.out (by kernel_rfl)) (fun _ _ _ h => h) (Or.inl ⟨by rfl, ?_⟩) ?_ ?_
        rotate_left
        ·intro w'
         go_simp
         with_reducible rfl
        rotate_left
        ·simp only [Act.put, List.setIfInBounds_toArray, List.set_cons_zero, List.set_cons_succ, i64_w, i32_w]
         rfl
        refine pure_ (i := 7) (N := some 40) (v := ?_) (a' := ?_) #[true, true, true, true, false, true, true, true, false, false, false, false, false, false, false, false, false, false, false, false, false, false, false, false] rfl rfl (any_of HT_.out (by kernel_rfl)) (fun _ _ _ h => h) (Or.inl ⟨by rfl, ?_⟩) ?_ ?_
        rotate_left
        ·intro w'
         go_simp
         with_reducible rfl
        rotate_left
        ·simp only [Act.put, List.setIfInBounds_toArray, List.set_cons_zero, List.set_cons_succ, i64_w, i32_w]
         rfl
        refine pure_ (i := 8) (N := some 41) (v := ?_) (a' := ?_) #[true, true, true, true, false, true, true, true, true, false, false, false, false, false, false, false, false, false, false, false, false, false, false, false] rfl rfl (any_of HT_.out (by kernel_rfl)) (fun _ _ _ h => h) (Or.inl ⟨by rfl, ?_⟩) ?_ ?_
        rotate_left
        ·intro w'
         go_simp
         with_reducible rfl
        rotate_left
        ·simp only [Act.put, List.setIfInBounds_toArray, List.set_cons_zero, List.set_cons_succ, i64_w, i32_w]
         rfl
        refine pure_ (i := 10) (N := some 43) (v := ?_) (a' := ?_) #[true, true, true, true, false, true, true, true, true, false, true, false, false, false, false, false, false, false, false, false, false, false, false, false] rfl rfl (any_of HT_.out (by kernel_rfl)) (fun _ _ _ h => h) (Or.inl ⟨by rfl, ?_⟩) ?_ ?_
        rotate_left
        ·intro w'
         go_simp
         with_reducible rfl
        rotate_left
        ·simp only [Act.put, List.setIfInBounds_toArray, List.set_cons_zero, List.set_cons_succ, i64_w, i32_w]
         rfl
        refine pure_ (i := 11) (N := some 44) (v := ?_) (a' := ?_) #[true, true, true, true, false, true, true, true, true, false, true, true, false, false, false, false, false, false, false, false, false, false, false, false] rfl rfl (any_of HT_.out (by kernel_rfl)) (fun _ _ _ h => h) (Or.inl ⟨by rfl, ?_⟩) ?_ ?_
        rotate_left
        ·intro w'
         go_simp
         with_reducible rfl
        rotate_left
        ·simp only [Act.put, List.setIfInBounds_toArray, List.set_cons_zero, List.set_cons_succ, i64_w, i32_w]
         rfl
        refine pure_ (i := 12) (N := some 45) (v := ?_) (a' := ?_) #[true, true, true, true, false, true, true, true, true, false, true, true, true, false, false, false, false, false, false, false, false, false, false, false] rfl rfl (any_of HT_.out (by kernel_rfl)) (fun _ _ _ h => h) (Or.inl ⟨by rfl, ?_⟩) ?_ ?_
        rotate_left
        ·intro w'
         go_simp
         with_reducible rfl
        rotate_left
        ·simp only [Act.put, List.setIfInBounds_toArray, List.set_cons_zero, List.set_cons_succ, i64_w, i32_w]
         rfl
        refine pure_ (i := 13) (N := some 46) (v := ?_) (a' := ?_) #[true, true, true, true, false, true, true, true, true, false, true, true, true, true, false, false, false, false, false, false, false, false, false, false] rfl rfl (any_of HT_.out (by kernel_rfl)) (fun _ _ _ h => h) (Or.inl ⟨by rfl, ?_⟩) ?_ ?_
        rotate_left
        ·intro w'
         go_simp
         with_reducible rfl
        rotate_left
        ·simp only [Act.put, List.setIfInBounds_toArray, List.set_cons_zero, List.set_cons_succ, i64_w, i32_w]
         rfl
        refine pure_ (i := 15) (N := some 48) (v := ?_) (a' := ?_) #[true, true, true, true, false, true, true, true, true, false, true, true, true, true, false, true, false, false, false, false, false, false, false, false] rfl rfl (any_of HT_.out (by kernel_rfl)) (fun _ _ _ h => h) (Or.inl ⟨by rfl, ?_⟩) ?_ ?_
        rotate_left
        ·intro w'
         go_simp
         with_reducible rfl
        rotate_left
        ·simp only [Act.put, List.setIfInBounds_toArray, List.set_cons_zero, List.set_cons_succ, i64_w, i32_w]
         rfl
        refine pure_ (i := 16) (N := some 49) (v := ?_) (a' := ?_) #[true, true, true, true, false, true, true, true, true, false, true, true, true, true, false, true, true, false, false, false, false, false, false, false] rfl rfl (any_of HT_.out (by kernel_rfl)) (fun _ _ _ h => h) (Or.inl ⟨by rfl, ?_⟩) ?_ ?_
        rotate_left
        ·intro w'
         go_simp
         with_reducible rfl
        rotate_left
        ·simp only [Act.put, List.setIfInBounds_toArray, List.set_cons_zero, List.set_cons_succ, i64_w, i32_w]
         rfl
        refine pure_ (i := 17) (N := some 50) (v := ?_) (a' := ?_) #[true, true, true, true, false, true, true, true, true, false, true, true, true, true, false, true, true, true, false, false, false, false, false, false] rfl rfl (any_of HT_.out (by kernel_rfl)) (fun _ _ _ h => h) (Or.inl ⟨by rfl, ?_⟩) ?_ ?_
        rotate_left
        ·intro w'
         go_simp
         with_reducible rfl
        rotate_left
        ·simp only [Act.put, List.setIfInBounds_toArray, List.set_cons_zero, List.set_cons_succ, i64_w, i32_w]
         rfl
        refine pure_ (i := 18) (N := some 51) (v := ?_) (a' := ?_) #[true, true, true, true, false, true, true, true, true, false, true, true, true, true, false, true, true, true, true, false, false, false, false, false] rfl rfl (any_of HT_.out (by kernel_rfl)) (fun _ _ _ h => h) (Or.inl ⟨by rfl, ?_⟩) ?_ ?_
        rotate_left
        ·intro w'
         go_simp
         with_reducible rfl
        rotate_left
        ·simp only [Act.put, List.setIfInBounds_toArray, List.set_cons_zero, List.set_cons_succ, i64_w, i32_w]
         rfl
        refine take_ (i := 4) (N := some 37) (v := ?_) (a' := ?_) #[true, true, true, true, true, true, true, true, true, false, true, true, true, true, false, true, true, true, true, false, false, false, false, false] rfl rfl (take_ofW HT_.out HW_.out (by kernel_rfl)) (fun _ _ _ h => h) (Or.inl ⟨by rfl, ?_⟩) hHeld ?_ ?_
        rotate_left
        ·rintro w' ⟨s0, s1, s2, s3, s4, s5, s6, s7, s8, s9, s10, s11, s12, s13, s14, s15, s16, s17, s18, s19, s20, s21, s22, s23, s24, s25, s26, s27, s28, s29, s30, s31, s32, s33, s34, s35⟩
         go_simp
         with_reducible rfl
        rotate_left
        ·simp only [Act.put, List.setIfInBounds_toArray, List.set_cons_zero, List.set_cons_succ, i64_w, i32_w]
         rfl
        refine pure_ (i := 20) (N := some 1) (v := ?_) (a' := ?_) #[true, true, true, true, true, true, true, true, true, false, true, true, true, true, false, true, true, true, true, false, true, false, false, false] rfl rfl (any_of HT_.out (by kernel_rfl)) (fun _ _ _ h => h) (Or.inl ⟨by rfl, ?_⟩) ?_ ?_
        rotate_left
        ·intro w'
         go_simp
         with_reducible rfl
        rotate_left
        ·simp only [Act.put, List.setIfInBounds_toArray, List.set_cons_zero, List.set_cons_succ, i64_w, i32_w]
         rfl
        refine take_ (i := 9) (N := some 42) (v := ?_) (a' := ?_) #[true, true, true, true, true, true, true, true, true, true, true, true, true, true, false, true, true, true, true, false, true, false, false, false] rfl rfl (take_ofW HT_.out HW_.out (by kernel_rfl)) (fun _ _ _ h => h) (Or.inl ⟨by rfl, ?_⟩) hHeld ?_ ?_
        rotate_left
        ·rintro w' ⟨s0, s1, s2, s3, s4, s5, s6, s7, s8, s9, s10, s11, s12, s13, s14, s15, s16, s17, s18, s19, s20, s21, s22, s23, s24, s25, s26, s27, s28, s29, s30, s31, s32, s33, s34, s35⟩
         go_simp
         with_reducible rfl
        rotate_left
        ·simp only [Act.put, List.setIfInBounds_toArray, List.set_cons_zero, List.set_cons_succ, i64_w, i32_w]
         rfl
        refine pure_ (i := 21) (N := some 2) (v := ?_) (a' := ?_) #[true, true, true, true, true, true, true, true, true, true, true, true, true, true, false, true, true, true, true, false, true, true, false, false] rfl rfl (any_of HT_.out (by kernel_rfl)) (fun _ _ _ h => h) (Or.inl ⟨by rfl, ?_⟩) ?_ ?_
        rotate_left
        ·intro w'
         go_simp
         with_reducible rfl
        rotate_left
        ·simp only [Act.put, List.setIfInBounds_toArray, List.set_cons_zero, List.set_cons_succ, i64_w, i32_w]
         rfl
        refine take_ (i := 14) (N := some 47) (v := ?_) (a' := ?_) #[true, true, true, true, true, true, true, true, true, true, true, true, true, true, true, true, true, true, true, false, true, true, false, false] rfl rfl (take_ofW HT_.out HW_.out (by kernel_rfl)) (fun _ _ _ h => h) (Or.inl ⟨by rfl, ?_⟩) hHeld ?_ ?_
        rotate_left
        ·rintro w' ⟨s0, s1, s2, s3, s4, s5, s6, s7, s8, s9, s10, s11, s12, s13, s14, s15, s16, s17, s18, s19, s20, s21, s22, s23, s24, s25, s26, s27, s28, s29, s30, s31, s32, s33, s34, s35⟩
         go_simp
         with_reducible rfl
        rotate_left
        ·simp only [Act.put, List.setIfInBounds_toArray, List.set_cons_zero, List.set_cons_succ, i64_w, i32_w]
         rfl
        refine take_ (i := 19) (N := some 52) (v := ?_) (a' := ?_) #[true, true, true, true, true, true, true, true, true, true, true, true, true, true, true, true, true, true, true, true, true, true, false, false] rfl rfl (take_ofW HT_.out HW_.out (by kernel_rfl)) (fun _ _ _ h => h) (Or.inl ⟨by rfl, ?_⟩) hHeld ?_ ?_
        rotate_left
        ·rintro w' ⟨s0, s1, s2, s3, s4, s5, s6, s7, s8, s9, s10, s11, s12, s13, s14, s15, s16, s17, s18, s19, s20, s21, s22, s23, s24, s25, s26, s27, s28, s29, s30, s31, s32, s33, s34, s35⟩
         go_simp
         with_reducible rfl
        rotate_left
        ·simp only [Act.put, List.setIfInBounds_toArray, List.set_cons_zero, List.set_cons_succ, i64_w, i32_w]
         rfl
        refine one_ (i := 22) (N := none) #[true, true, true, true, true, true, true, true, true, true, true, true, true, true, true, true, true, true, true, true, true, true, true, false] rfl rfl (one_of HT_.out (by kernel_rfl)) (by decide) (fun K hK => ?_)
        have hs22 : w21.cell? ⟨gb157, 0, none⟩ = some (.int .i64 a4_0) := (blk_cell BK157.out 0).trans rfl
        have hfs22 := blk_frozen BK157.out 0
        have hs23 : w21.cell? ⟨gb157, 1, none⟩ = some (.int .i64 a4_1) := (blk_cell BK157.out 1).trans rfl
        have hfs23 := blk_frozen BK157.out 1
        refine skip_ (w1 := ?_) (by rfl) rfl ?_ ?_
        rotate_left
        ·go_simp
         rfl
        refine hK.out _ _ ⟨((cell_far (p := ⟨gb157, _, none⟩) (by first | exact Kd.own_blk (Kd.S_ne HO_13.out BK157.out (by decide)) | (rw [add_block]; exact Kd.own_blk (Kd.S_ne HO_13.out BK157.out (by decide))) | (show (Addr.add _ _).block ≠ _; rw [add_block]; exact Kd.own_blk (Kd.S_ne HO_13.out BK157.out (by decide))) | (dsimp only; exact Kd.own_blk (Kd.S_ne HO_13.out BK157.out (by decide)))) _).trans (((cell_far (p := ⟨gb157, _, none⟩) (by first | exact Kd.own_blk (Kd.S_ne HO_13.out BK157.out (by decide)) | (rw [add_block]; exact Kd.own_blk (Kd.S_ne HO_13.out BK157.out (by decide))) | (show (Addr.add _ _).block ≠ _; rw [add_block]; exact Kd.own_blk (Kd.S_ne HO_13.out BK157.out (by decide))) | (dsimp only; exact Kd.own_blk (Kd.S_ne HO_13.out BK157.out (by decide)))) _).trans (hHeld.1)))), ((cell_far (p := ⟨gb157, _, none⟩) (by first | exact Kd.own_blk (Kd.S_ne HO_13.out BK157.out (by decide)) | (rw [add_block]; exact Kd.own_blk (Kd.S_ne HO_13.out BK157.out (by decide))) | (show (Addr.add _ _).block ≠ _; rw [add_block]; exact Kd.own_blk (Kd.S_ne HO_13.out BK157.out (by decide))) | (dsimp only; exact Kd.own_blk (Kd.S_ne HO_13.out BK157.out (by decide)))) _).trans (((cell_far (p := ⟨gb157, _, none⟩) (by first | exact Kd.own_blk (Kd.S_ne HO_13.out BK157.out (by decide)) | (rw [add_block]; exact Kd.own_blk (Kd.S_ne HO_13.out BK157.out (by decide))) | (show (Addr.add _ _).block ≠ _; rw [add_block]; exact Kd.own_blk (Kd.S_ne HO_13.out BK157.out (by decide))) | (dsimp only; exact Kd.own_blk (Kd.S_ne HO_13.out BK157.out (by decide)))) _).trans (hHeld.2.1)))), ((cell_far (p := ⟨gb157, _, none⟩) (by first | exact Kd.own_blk (Kd.S_ne HO_13.out BK157.out (by decide)) | (rw [add_block]; exact Kd.own_blk (Kd.S_ne HO_13.out BK157.out (by decide))) | (show (Addr.add _ _).block ≠ _; rw [add_block]; exact Kd.own_blk (Kd.S_ne HO_13.out BK157.out (by decide))) | (dsimp only; exact Kd.own_blk (Kd.S_ne HO_13.out BK157.out (by decide)))) _).trans (((cell_far (p := ⟨gb157, _, none⟩) (by first | exact Kd.own_blk (Kd.S_ne HO_13.out BK157.out (by decide)) | (rw [add_block]; exact Kd.own_blk (Kd.S_ne HO_13.out BK157.out (by decide))) | (show (Addr.add _ _).block ≠ _; rw [add_block]; exact Kd.own_blk (Kd.S_ne HO_13.out BK157.out (by decide))) | (dsimp only; exact Kd.own_blk (Kd.S_ne HO_13.out BK157.out (by decide)))) _).trans (hHeld.2.2.1)))), ((cell_far (p := ⟨gb157, _, none⟩) (by first | exact Kd.own_blk (Kd.S_ne HO_13.out BK157.out (by decide)) | (rw [add_block]; exact Kd.own_blk (Kd.S_ne HO_13.out BK157.out (by decide))) | (show (Addr.add _ _).block ≠ _; rw [add_block]; exact Kd.own_blk (Kd.S_ne HO_13.out BK157.out (by decide))) | (dsimp only; exact Kd.own_blk (Kd.S_ne HO_13.out BK157.out (by decide)))) _).trans (((cell_far (p := ⟨gb157, _, none⟩) (by first | exact Kd.own_blk (Kd.S_ne HO_13.out BK157.out (by decide)) | (rw [add_block]; exact Kd.own_blk (Kd.S_ne HO_13.out BK157.out (by decide))) | (show (Addr.add _ _).block ≠ _; rw [add_block]; exact Kd.own_blk (Kd.S_ne HO_13.out BK157.out (by decide))) | (dsimp only; exact Kd.own_blk (Kd.S_ne HO_13.out BK157.out (by decide)))) _).trans (hHeld.2.2.2.1)))), ((cell_far (p := ⟨gb157, _, none⟩) (by first | exact Kd.own_blk (Kd.S_ne HO_13.out BK157.out (by decide)) | (rw [add_block]; exact Kd.own_blk (Kd.S_ne HO_13.out BK157.out (by decide))) | (show (Addr.add _ _).block ≠ _; rw [add_block]; exact Kd.own_blk (Kd.S_ne HO_13.out BK157.out (by decide))) | (dsimp only; exact Kd.own_blk (Kd.S_ne HO_13.out BK157.out (by decide)))) _).trans (((cell_far (p := ⟨gb157, _, none⟩) (by first | exact Kd.own_blk (Kd.S_ne HO_13.out BK157.out (by decide)) | (rw [add_block]; exact Kd.own_blk (Kd.S_ne HO_13.out BK157.out (by decide))) | (show (Addr.add _ _).block ≠ _; rw [add_block]; exact Kd.own_blk (Kd.S_ne HO_13.out BK157.out (by decide))) | (dsimp only; exact Kd.own_blk (Kd.S_ne HO_13.out BK157.out (by decide)))) _).trans (hHeld.2.2.2.2.1)))), ((cell_far (p := ⟨gb157, _, none⟩) (by first | exact Kd.own_blk (Kd.S_ne HO_13.out BK157.out (by decide)) | (rw [add_block]; exact Kd.own_blk (Kd.S_ne HO_13.out BK157.out (by decide))) | (show (Addr.add _ _).block ≠ _; rw [add_block]; exact Kd.own_blk (Kd.S_ne HO_13.out BK157.out (by decide))) | (dsimp only; exact Kd.own_blk (Kd.S_ne HO_13.out BK157.out (by decide)))) _).trans (((cell_far (p := ⟨gb157, _, none⟩) (by first | exact Kd.own_blk (Kd.S_ne HO_13.out BK157.out (by decide)) | (rw [add_block]; exact Kd.own_blk (Kd.S_ne HO_13.out BK157.out (by decide))) | (show (Addr.add _ _).block ≠ _; rw [add_block]; exact Kd.own_blk (Kd.S_ne HO_13.out BK157.out (by decide))) | (dsimp only; exact Kd.own_blk (Kd.S_ne HO_13.out BK157.out (by decide)))) _).trans (hHeld.2.2.2.2.2.1)))), ((cell_far (p := ⟨gb157, _, none⟩) (by first | exact Kd.own_blk (Kd.S_ne HO_13.out BK157.out (by decide)) | (rw [add_block]; exact Kd.own_blk (Kd.S_ne HO_13.out BK157.out (by decide))) | (show (Addr.add _ _).block ≠ _; rw [add_block]; exact Kd.own_blk (Kd.S_ne HO_13.out BK157.out (by decide))) | (dsimp only; exact Kd.own_blk (Kd.S_ne HO_13.out BK157.out (by decide)))) _).trans (((cell_far (p := ⟨gb157, _, none⟩) (by first | exact Kd.own_blk (Kd.S_ne HO_13.out BK157.out (by decide)) | (rw [add_block]; exact Kd.own_blk (Kd.S_ne HO_13.out BK157.out (by decide))) | (show (Addr.add _ _).block ≠ _; rw [add_block]; exact Kd.own_blk (Kd.S_ne HO_13.out BK157.out (by decide))) | (dsimp only; exact Kd.own_blk (Kd.S_ne HO_13.out BK157.out (by decide)))) _).trans (hHeld.2.2.2.2.2.2.1)))), ((cell_far (p := ⟨gb157, _, none⟩) (by first | exact Kd.own_blk (Kd.S_ne HO_13.out BK157.out (by decide)) | (rw [add_block]; exact Kd.own_blk (Kd.S_ne HO_13.out BK157.out (by decide))) | (show (Addr.add _ _).block ≠ _; rw [add_block]; exact Kd.own_blk (Kd.S_ne HO_13.out BK157.out (by decide))) | (dsimp only; exact Kd.own_blk (Kd.S_ne HO_13.out BK157.out (by decide)))) _).trans (((cell_far (p := ⟨gb157, _, none⟩) (by first | exact Kd.own_blk (Kd.S_ne HO_13.out BK157.out (by decide)) | (rw [add_block]; exact Kd.own_blk (Kd.S_ne HO_13.out BK157.out (by decide))) | (show (Addr.add _ _).block ≠ _; rw [add_block]; exact Kd.own_blk (Kd.S_ne HO_13.out BK157.out (by decide))) | (dsimp only; exact Kd.own_blk (Kd.S_ne HO_13.out BK157.out (by decide)))) _).trans (hHeld.2.2.2.2.2.2.2.1)))), ((cell_far (p := ⟨gb157, _, none⟩) (by first | exact Kd.own_blk (Kd.S_ne HO_13.out BK157.out (by decide)) | (rw [add_block]; exact Kd.own_blk (Kd.S_ne HO_13.out BK157.out (by decide))) | (show (Addr.add _ _).block ≠ _; rw [add_block]; exact Kd.own_blk (Kd.S_ne HO_13.out BK157.out (by decide))) | (dsimp only; exact Kd.own_blk (Kd.S_ne HO_13.out BK157.out (by decide)))) _).trans (((cell_far (p := ⟨gb157, _, none⟩) (by first | exact Kd.own_blk (Kd.S_ne HO_13.out BK157.out (by decide)) | (rw [add_block]; exact Kd.own_blk (Kd.S_ne HO_13.out BK157.out (by decide))) | (show (Addr.add _ _).block ≠ _; rw [add_block]; exact Kd.own_blk (Kd.S_ne HO_13.out BK157.out (by decide))) | (dsimp only; exact Kd.own_blk (Kd.S_ne HO_13.out BK157.out (by decide)))) _).trans (hHeld.2.2.2.2.2.2.2.2.1)))), ((cell_far (p := ⟨gb157, _, none⟩) (by first | exact Kd.own_blk (Kd.S_ne HO_13.out BK157.out (by decide)) | (rw [add_block]; exact Kd.own_blk (Kd.S_ne HO_13.out BK157.out (by decide))) | (show (Addr.add _ _).block ≠ _; rw [add_block]; exact Kd.own_blk (Kd.S_ne HO_13.out BK157.out (by decide))) | (dsimp only; exact Kd.own_blk (Kd.S_ne HO_13.out BK157.out (by decide)))) _).trans (((cell_far (p := ⟨gb157, _, none⟩) (by first | exact Kd.own_blk (Kd.S_ne HO_13.out BK157.out (by decide)) | (rw [add_block]; exact Kd.own_blk (Kd.S_ne HO_13.out BK157.out (by decide))) | (show (Addr.add _ _).block ≠ _; rw [add_block]; exact Kd.own_blk (Kd.S_ne HO_13.out BK157.out (by decide))) | (dsimp only; exact Kd.own_blk (Kd.S_ne HO_13.out BK157.out (by decide)))) _).trans (hHeld.2.2.2.2.2.2.2.2.2.1)))), ((cell_far (p := ⟨gb157, _, none⟩) (by first | exact Kd.own_blk (Kd.S_ne HO_13.out BK157.out (by decide)) | (rw [add_block]; exact Kd.own_blk (Kd.S_ne HO_13.out BK157.out (by decide))) | (show (Addr.add _ _).block ≠ _; rw [add_block]; exact Kd.own_blk (Kd.S_ne HO_13.out BK157.out (by decide))) | (dsimp only; exact Kd.own_blk (Kd.S_ne HO_13.out BK157.out (by decide)))) _).trans (((cell_far (p := ⟨gb157, _, none⟩) (by first | exact Kd.own_blk (Kd.S_ne HO_13.out BK157.out (by decide)) | (rw [add_block]; exact Kd.own_blk (Kd.S_ne HO_13.out BK157.out (by decide))) | (show (Addr.add _ _).block ≠ _; rw [add_block]; exact Kd.own_blk (Kd.S_ne HO_13.out BK157.out (by decide))) | (dsimp only; exact Kd.own_blk (Kd.S_ne HO_13.out BK157.out (by decide)))) _).trans (hHeld.2.2.2.2.2.2.2.2.2.2.1)))), ((cell_far (p := ⟨gb157, _, none⟩) (by first | exact Kd.own_blk (Kd.S_ne HO_13.out BK157.out (by decide)) | (rw [add_block]; exact Kd.own_blk (Kd.S_ne HO_13.out BK157.out (by decide))) | (show (Addr.add _ _).block ≠ _; rw [add_block]; exact Kd.own_blk (Kd.S_ne HO_13.out BK157.out (by decide))) | (dsimp only; exact Kd.own_blk (Kd.S_ne HO_13.out BK157.out (by decide)))) _).trans (((cell_far (p := ⟨gb157, _, none⟩) (by first | exact Kd.own_blk (Kd.S_ne HO_13.out BK157.out (by decide)) | (rw [add_block]; exact Kd.own_blk (Kd.S_ne HO_13.out BK157.out (by decide))) | (show (Addr.add _ _).block ≠ _; rw [add_block]; exact Kd.own_blk (Kd.S_ne HO_13.out BK157.out (by decide))) | (dsimp only; exact Kd.own_blk (Kd.S_ne HO_13.out BK157.out (by decide)))) _).trans (hHeld.2.2.2.2.2.2.2.2.2.2.2.1)))), ((cell_far (p := ⟨gb157, _, none⟩) (by first | exact Kd.own_blk (Kd.S_ne HO_13.out BK157.out (by decide)) | (rw [add_block]; exact Kd.own_blk (Kd.S_ne HO_13.out BK157.out (by decide))) | (show (Addr.add _ _).block ≠ _; rw [add_block]; exact Kd.own_blk (Kd.S_ne HO_13.out BK157.out (by decide))) | (dsimp only; exact Kd.own_blk (Kd.S_ne HO_13.out BK157.out (by decide)))) _).trans (((cell_far (p := ⟨gb157, _, none⟩) (by first | exact Kd.own_blk (Kd.S_ne HO_13.out BK157.out (by decide)) | (rw [add_block]; exact Kd.own_blk (Kd.S_ne HO_13.out BK157.out (by decide))) | (show (Addr.add _ _).block ≠ _; rw [add_block]; exact Kd.own_blk (Kd.S_ne HO_13.out BK157.out (by decide))) | (dsimp only; exact Kd.own_blk (Kd.S_ne HO_13.out BK157.out (by decide)))) _).trans (hHeld.2.2.2.2.2.2.2.2.2.2.2.2.1)))), ((cell_far (p := ⟨gb157, _, none⟩) (by first | exact Kd.own_blk (Kd.S_ne HO_13.out BK157.out (by decide)) | (rw [add_block]; exact Kd.own_blk (Kd.S_ne HO_13.out BK157.out (by decide))) | (show (Addr.add _ _).block ≠ _; rw [add_block]; exact Kd.own_blk (Kd.S_ne HO_13.out BK157.out (by decide))) | (dsimp only; exact Kd.own_blk (Kd.S_ne HO_13.out BK157.out (by decide)))) _).trans (((cell_far (p := ⟨gb157, _, none⟩) (by first | exact Kd.own_blk (Kd.S_ne HO_13.out BK157.out (by decide)) | (rw [add_block]; exact Kd.own_blk (Kd.S_ne HO_13.out BK157.out (by decide))) | (show (Addr.add _ _).block ≠ _; rw [add_block]; exact Kd.own_blk (Kd.S_ne HO_13.out BK157.out (by decide))) | (dsimp only; exact Kd.own_blk (Kd.S_ne HO_13.out BK157.out (by decide)))) _).trans (hHeld.2.2.2.2.2.2.2.2.2.2.2.2.2.1)))), ((cell_far (p := ⟨gb157, _, none⟩) (by first | exact Kd.own_blk (Kd.S_ne HO_13.out BK157.out (by decide)) | (rw [add_block]; exact Kd.own_blk (Kd.S_ne HO_13.out BK157.out (by decide))) | (show (Addr.add _ _).block ≠ _; rw [add_block]; exact Kd.own_blk (Kd.S_ne HO_13.out BK157.out (by decide))) | (dsimp only; exact Kd.own_blk (Kd.S_ne HO_13.out BK157.out (by decide)))) _).trans (((cell_far (p := ⟨gb157, _, none⟩) (by first | exact Kd.own_blk (Kd.S_ne HO_13.out BK157.out (by decide)) | (rw [add_block]; exact Kd.own_blk (Kd.S_ne HO_13.out BK157.out (by decide))) | (show (Addr.add _ _).block ≠ _; rw [add_block]; exact Kd.own_blk (Kd.S_ne HO_13.out BK157.out (by decide))) | (dsimp only; exact Kd.own_blk (Kd.S_ne HO_13.out BK157.out (by decide)))) _).trans (hHeld.2.2.2.2.2.2.2.2.2.2.2.2.2.2.1)))), ((cell_far (p := ⟨gb157, _, none⟩) (by first | exact Kd.own_blk (Kd.S_ne HO_13.out BK157.out (by decide)) | (rw [add_block]; exact Kd.own_blk (Kd.S_ne HO_13.out BK157.out (by decide))) | (show (Addr.add _ _).block ≠ _; rw [add_block]; exact Kd.own_blk (Kd.S_ne HO_13.out BK157.out (by decide))) | (dsimp only; exact Kd.own_blk (Kd.S_ne HO_13.out BK157.out (by decide)))) _).trans (((cell_far (p := ⟨gb157, _, none⟩) (by first | exact Kd.own_blk (Kd.S_ne HO_13.out BK157.out (by decide)) | (rw [add_block]; exact Kd.own_blk (Kd.S_ne HO_13.out BK157.out (by decide))) | (show (Addr.add _ _).block ≠ _; rw [add_block]; exact Kd.own_blk (Kd.S_ne HO_13.out BK157.out (by decide))) | (dsimp only; exact Kd.own_blk (Kd.S_ne HO_13.out BK157.out (by decide)))) _).trans (hHeld.2.2.2.2.2.2.2.2.2.2.2.2.2.2.2.1)))), ((cell_far (p := ⟨gb157, _, none⟩) (by first | exact Kd.own_blk (Kd.S_ne HO_13.out BK157.out (by decide)) | (rw [add_block]; exact Kd.own_blk (Kd.S_ne HO_13.out BK157.out (by decide))) | (show (Addr.add _ _).block ≠ _; rw [add_block]; exact Kd.own_blk (Kd.S_ne HO_13.out BK157.out (by decide))) | (dsimp only; exact Kd.own_blk (Kd.S_ne HO_13.out BK157.out (by decide)))) _).trans (((cell_far (p := ⟨gb157, _, none⟩) (by first | exact Kd.own_blk (Kd.S_ne HO_13.out BK157.out (by decide)) | (rw [add_block]; exact Kd.own_blk (Kd.S_ne HO_13.out BK157.out (by decide))) | (show (Addr.add _ _).block ≠ _; rw [add_block]; exact Kd.own_blk (Kd.S_ne HO_13.out BK157.out (by decide))) | (dsimp only; exact Kd.own_blk (Kd.S_ne HO_13.out BK157.out (by decide)))) _).trans (hHeld.2.2.2.2.2.2.2.2.2.2.2.2.2.2.2.2.1)))), ((cell_far (p := ⟨gb157, _, none⟩) (by first | exact Kd.own_blk (Kd.S_ne HO_13.out BK157.out (by decide)) | (rw [add_block]; exact Kd.own_blk (Kd.S_ne HO_13.out BK157.out (by decide))) | (show (Addr.add _ _).block ≠ _; rw [add_block]; exact Kd.own_blk (Kd.S_ne HO_13.out BK157.out (by decide))) | (dsimp only; exact Kd.own_blk (Kd.S_ne HO_13.out BK157.out (by decide)))) _).trans (((cell_far (p := ⟨gb157, _, none⟩) (by first | exact Kd.own_blk (Kd.S_ne HO_13.out BK157.out (by decide)) | (rw [add_block]; exact Kd.own_blk (Kd.S_ne HO_13.out BK157.out (by decide))) | (show (Addr.add _ _).block ≠ _; rw [add_block]; exact Kd.own_blk (Kd.S_ne HO_13.out BK157.out (by decide))) | (dsimp only; exact Kd.own_blk (Kd.S_ne HO_13.out BK157.out (by decide)))) _).trans (hHeld.2.2.2.2.2.2.2.2.2.2.2.2.2.2.2.2.2.1)))), ((cell_far (p := ⟨gb157, _, none⟩) (by first | exact Kd.own_blk (Kd.S_ne HO_13.out BK157.out (by decide)) | (rw [add_block]; exact Kd.own_blk (Kd.S_ne HO_13.out BK157.out (by decide))) | (show (Addr.add _ _).block ≠ _; rw [add_block]; exact Kd.own_blk (Kd.S_ne HO_13.out BK157.out (by decide))) | (dsimp only; exact Kd.own_blk (Kd.S_ne HO_13.out BK157.out (by decide)))) _).trans (((cell_far (p := ⟨gb157, _, none⟩) (by first | exact Kd.own_blk (Kd.S_ne HO_13.out BK157.out (by decide)) | (rw [add_block]; exact Kd.own_blk (Kd.S_ne HO_13.out BK157.out (by decide))) | (show (Addr.add _ _).block ≠ _; rw [add_block]; exact Kd.own_blk (Kd.S_ne HO_13.out BK157.out (by decide))) | (dsimp only; exact Kd.own_blk (Kd.S_ne HO_13.out BK157.out (by decide)))) _).trans (hHeld.2.2.2.2.2.2.2.2.2.2.2.2.2.2.2.2.2.2.1)))), ((cell_far (p := ⟨gb157, _, none⟩) (by first | exact Kd.own_blk (Kd.S_ne HO_13.out BK157.out (by decide)) | (rw [add_block]; exact Kd.own_blk (Kd.S_ne HO_13.out BK157.out (by decide))) | (show (Addr.add _ _).block ≠ _; rw [add_block]; exact Kd.own_blk (Kd.S_ne HO_13.out BK157.out (by decide))) | (dsimp only; exact Kd.own_blk (Kd.S_ne HO_13.out BK157.out (by decide)))) _).trans (((cell_far (p := ⟨gb157, _, none⟩) (by first | exact Kd.own_blk (Kd.S_ne HO_13.out BK157.out (by decide)) | (rw [add_block]; exact Kd.own_blk (Kd.S_ne HO_13.out BK157.out (by decide))) | (show (Addr.add _ _).block ≠ _; rw [add_block]; exact Kd.own_blk (Kd.S_ne HO_13.out BK157.out (by decide))) | (dsimp only; exact Kd.own_blk (Kd.S_ne HO_13.out BK157.out (by decide)))) _).trans (hHeld.2.2.2.2.2.2.2.2.2.2.2.2.2.2.2.2.2.2.2.1)))), ((cell_far (p := ⟨gb157, _, none⟩) (by first | exact Kd.own_blk (Kd.S_ne HO_13.out BK157.out (by decide)) | (rw [add_block]; exact Kd.own_blk (Kd.S_ne HO_13.out BK157.out (by decide))) | (show (Addr.add _ _).block ≠ _; rw [add_block]; exact Kd.own_blk (Kd.S_ne HO_13.out BK157.out (by decide))) | (dsimp only; exact Kd.own_blk (Kd.S_ne HO_13.out BK157.out (by decide)))) _).trans (((cell_far (p := ⟨gb157, _, none⟩) (by first | exact Kd.own_blk (Kd.S_ne HO_13.out BK157.out (by decide)) | (rw [add_block]; exact Kd.own_blk (Kd.S_ne HO_13.out BK157.out (by decide))) | (show (Addr.add _ _).block ≠ _; rw [add_block]; exact Kd.own_blk (Kd.S_ne HO_13.out BK157.out (by decide))) | (dsimp only; exact Kd.own_blk (Kd.S_ne HO_13.out BK157.out (by decide)))) _).trans (hHeld.2.2.2.2.2.2.2.2.2.2.2.2.2.2.2.2.2.2.2.2.1)))), ((cell_far (p := ⟨gb157, _, none⟩) (by first | exact Kd.own_blk (Kd.S_ne HO_13.out BK157.out (by decide)) | (rw [add_block]; exact Kd.own_blk (Kd.S_ne HO_13.out BK157.out (by decide))) | (show (Addr.add _ _).block ≠ _; rw [add_block]; exact Kd.own_blk (Kd.S_ne HO_13.out BK157.out (by decide))) | (dsimp only; exact Kd.own_blk (Kd.S_ne HO_13.out BK157.out (by decide)))) _).trans (((cell_far (p := ⟨gb157, _, none⟩) (by first | exact Kd.own_blk (Kd.S_ne HO_13.out BK157.out (by decide)) | (rw [add_block]; exact Kd.own_blk (Kd.S_ne HO_13.out BK157.out (by decide))) | (show (Addr.add _ _).block ≠ _; rw [add_block]; exact Kd.own_blk (Kd.S_ne HO_13.out BK157.out (by decide))) | (dsimp only; exact Kd.own_blk (Kd.S_ne HO_13.out BK157.out (by decide)))) _).trans (hHeld.2.2.2.2.2.2.2.2.2.2.2.2.2.2.2.2.2.2.2.2.2.1)))), ((cell_far (p := ⟨gb157, _, none⟩) (by first | exact Kd.own_blk (Kd.S_ne HO_13.out BK157.out (by decide)) | (rw [add_block]; exact Kd.own_blk (Kd.S_ne HO_13.out BK157.out (by decide))) | (show (Addr.add _ _).block ≠ _; rw [add_block]; exact Kd.own_blk (Kd.S_ne HO_13.out BK157.out (by decide))) | (dsimp only; exact Kd.own_blk (Kd.S_ne HO_13.out BK157.out (by decide)))) _).trans (((cell_far (p := ⟨gb157, _, none⟩) (by first | exact Kd.own_blk (Kd.S_ne HO_13.out BK157.out (by decide)) | (rw [add_block]; exact Kd.own_blk (Kd.S_ne HO_13.out BK157.out (by decide))) | (show (Addr.add _ _).block ≠ _; rw [add_block]; exact Kd.own_blk (Kd.S_ne HO_13.out BK157.out (by decide))) | (dsimp only; exact Kd.own_blk (Kd.S_ne HO_13.out BK157.out (by decide)))) _).trans (hHeld.2.2.2.2.2.2.2.2.2.2.2.2.2.2.2.2.2.2.2.2.2.2.1)))), ((cell_far (p := ⟨gb157, _, none⟩) (by first | exact Kd.own_blk (Kd.S_ne HO_13.out BK157.out (by decide)) | (rw [add_block]; exact Kd.own_blk (Kd.S_ne HO_13.out BK157.out (by decide))) | (show (Addr.add _ _).block ≠ _; rw [add_block]; exact Kd.own_blk (Kd.S_ne HO_13.out BK157.out (by decide))) | (dsimp only; exact Kd.own_blk (Kd.S_ne HO_13.out BK157.out (by decide)))) _).trans (((cell_far (p := ⟨gb157, _, none⟩) (by first | exact Kd.own_blk (Kd.S_ne HO_13.out BK157.out (by decide)) | (rw [add_block]; exact Kd.own_blk (Kd.S_ne HO_13.out BK157.out (by decide))) | (show (Addr.add _ _).block ≠ _; rw [add_block]; exact Kd.own_blk (Kd.S_ne HO_13.out BK157.out (by decide))) | (dsimp only; exact Kd.own_blk (Kd.S_ne HO_13.out BK157.out (by decide)))) _).trans (hHeld.2.2.2.2.2.2.2.2.2.2.2.2.2.2.2.2.2.2.2.2.2.2.2.1)))), ((cell_far (p := ⟨gb157, _, none⟩) (by first | exact Kd.own_blk (Kd.S_ne HO_13.out BK157.out (by decide)) | (rw [add_block]; exact Kd.own_blk (Kd.S_ne HO_13.out BK157.out (by decide))) | (show (Addr.add _ _).block ≠ _; rw [add_block]; exact Kd.own_blk (Kd.S_ne HO_13.out BK157.out (by decide))) | (dsimp only; exact Kd.own_blk (Kd.S_ne HO_13.out BK157.out (by decide)))) _).trans (((cell_far (p := ⟨gb157, _, none⟩) (by first | exact Kd.own_blk (Kd.S_ne HO_13.out BK157.out (by decide)) | (rw [add_block]; exact Kd.own_blk (Kd.S_ne HO_13.out BK157.out (by decide))) | (show (Addr.add _ _).block ≠ _; rw [add_block]; exact Kd.own_blk (Kd.S_ne HO_13.out BK157.out (by decide))) | (dsimp only; exact Kd.own_blk (Kd.S_ne HO_13.out BK157.out (by decide)))) _).trans (hHeld.2.2.2.2.2.2.2.2.2.2.2.2.2.2.2.2.2.2.2.2.2.2.2.2.1)))), ((cell_far (p := ⟨gb157, _, none⟩) (by first | exact Kd.own_blk (Kd.S_ne HO_13.out BK157.out (by decide)) | (rw [add_block]; exact Kd.own_blk (Kd.S_ne HO_13.out BK157.out (by decide))) | (show (Addr.add _ _).block ≠ _; rw [add_block]; exact Kd.own_blk (Kd.S_ne HO_13.out BK157.out (by decide))) | (dsimp only; exact Kd.own_blk (Kd.S_ne HO_13.out BK157.out (by decide)))) _).trans (((cell_far (p := ⟨gb157, _, none⟩) (by first | exact Kd.own_blk (Kd.S_ne HO_13.out BK157.out (by decide)) | (rw [add_block]; exact Kd.own_blk (Kd.S_ne HO_13.out BK157.out (by decide))) | (show (Addr.add _ _).block ≠ _; rw [add_block]; exact Kd.own_blk (Kd.S_ne HO_13.out BK157.out (by decide))) | (dsimp only; exact Kd.own_blk (Kd.S_ne HO_13.out BK157.out (by decide)))) _).trans (hHeld.2.2.2.2.2.2.2.2.2.2.2.2.2.2.2.2.2.2.2.2.2.2.2.2.2.1)))), ((cell_far (p := ⟨gb157, _, none⟩) (by first | exact Kd.own_blk (Kd.S_ne HO_13.out BK157.out (by decide)) | (rw [add_block]; exact Kd.own_blk (Kd.S_ne HO_13.out BK157.out (by decide))) | (show (Addr.add _ _).block ≠ _; rw [add_block]; exact Kd.own_blk (Kd.S_ne HO_13.out BK157.out (by decide))) | (dsimp only; exact Kd.own_blk (Kd.S_ne HO_13.out BK157.out (by decide)))) _).trans (((cell_far (p := ⟨gb157, _, none⟩) (by first | exact Kd.own_blk (Kd.S_ne HO_13.out BK157.out (by decide)) | (rw [add_block]; exact Kd.own_blk (Kd.S_ne HO_13.out BK157.out (by decide))) | (show (Addr.add _ _).block ≠ _; rw [add_block]; exact Kd.own_blk (Kd.S_ne HO_13.out BK157.out (by decide))) | (dsimp only; exact Kd.own_blk (Kd.S_ne HO_13.out BK157.out (by decide)))) _).trans (hHeld.2.2.2.2.2.2.2.2.2.2.2.2.2.2.2.2.2.2.2.2.2.2.2.2.2.2.1)))), ((cell_far (p := ⟨gb157, _, none⟩) (by first | exact Kd.own_blk (Kd.S_ne HO_13.out BK157.out (by decide)) | (rw [add_block]; exact Kd.own_blk (Kd.S_ne HO_13.out BK157.out (by decide))) | (show (Addr.add _ _).block ≠ _; rw [add_block]; exact Kd.own_blk (Kd.S_ne HO_13.out BK157.out (by decide))) | (dsimp only; exact Kd.own_blk (Kd.S_ne HO_13.out BK157.out (by decide)))) _).trans (((cell_far (p := ⟨gb157, _, none⟩) (by first | exact Kd.own_blk (Kd.S_ne HO_13.out BK157.out (by decide)) | (rw [add_block]; exact Kd.own_blk (Kd.S_ne HO_13.out BK157.out (by decide))) | (show (Addr.add _ _).block ≠ _; rw [add_block]; exact Kd.own_blk (Kd.S_ne HO_13.out BK157.out (by decide))) | (dsimp only; exact Kd.own_blk (Kd.S_ne HO_13.out BK157.out (by decide)))) _).trans (hHeld.2.2.2.2.2.2.2.2.2.2.2.2.2.2.2.2.2.2.2.2.2.2.2.2.2.2.2.1)))), ((cell_far (p := ⟨gb157, _, none⟩) (by first | exact Kd.own_blk (Kd.S_ne HO_13.out BK157.out (by decide)) | (rw [add_block]; exact Kd.own_blk (Kd.S_ne HO_13.out BK157.out (by decide))) | (show (Addr.add _ _).block ≠ _; rw [add_block]; exact Kd.own_blk (Kd.S_ne HO_13.out BK157.out (by decide))) | (dsimp only; exact Kd.own_blk (Kd.S_ne HO_13.out BK157.out (by decide)))) _).trans (((cell_far (p := ⟨gb157, _, none⟩) (by first | exact Kd.own_blk (Kd.S_ne HO_13.out BK157.out (by decide)) | (rw [add_block]; exact Kd.own_blk (Kd.S_ne HO_13.out BK157.out (by decide))) | (show (Addr.add _ _).block ≠ _; rw [add_block]; exact Kd.own_blk (Kd.S_ne HO_13.out BK157.out (by decide))) | (dsimp only; exact Kd.own_blk (Kd.S_ne HO_13.out BK157.out (by decide)))) _).trans (hHeld.2.2.2.2.2.2.2.2.2.2.2.2.2.2.2.2.2.2.2.2.2.2.2.2.2.2.2.2.1)))), ((cell_far (p := ⟨gb157, _, none⟩) (by first | exact Kd.own_blk (Kd.S_ne HO_13.out BK157.out (by decide)) | (rw [add_block]; exact Kd.own_blk (Kd.S_ne HO_13.out BK157.out (by decide))) | (show (Addr.add _ _).block ≠ _; rw [add_block]; exact Kd.own_blk (Kd.S_ne HO_13.out BK157.out (by decide))) | (dsimp only; exact Kd.own_blk (Kd.S_ne HO_13.out BK157.out (by decide)))) _).trans (((cell_far (p := ⟨gb157, _, none⟩) (by first | exact Kd.own_blk (Kd.S_ne HO_13.out BK157.out (by decide)) | (rw [add_block]; exact Kd.own_blk (Kd.S_ne HO_13.out BK157.out (by decide))) | (show (Addr.add _ _).block ≠ _; rw [add_block]; exact Kd.own_blk (Kd.S_ne HO_13.out BK157.out (by decide))) | (dsimp only; exact Kd.own_blk (Kd.S_ne HO_13.out BK157.out (by decide)))) _).trans (hHeld.2.2.2.2.2.2.2.2.2.2.2.2.2.2.2.2.2.2.2.2.2.2.2.2.2.2.2.2.2.1)))), ((cell_far (p := ⟨gb157, _, none⟩) (by first | exact Kd.own_blk (Kd.S_ne HO_13.out BK157.out (by decide)) | (rw [add_block]; exact Kd.own_blk (Kd.S_ne HO_13.out BK157.out (by decide))) | (show (Addr.add _ _).block ≠ _; rw [add_block]; exact Kd.own_blk (Kd.S_ne HO_13.out BK157.out (by decide))) | (dsimp only; exact Kd.own_blk (Kd.S_ne HO_13.out BK157.out (by decide)))) _).trans (((cell_far (p := ⟨gb157, _, none⟩) (by first | exact Kd.own_blk (Kd.S_ne HO_13.out BK157.out (by decide)) | (rw [add_block]; exact Kd.own_blk (Kd.S_ne HO_13.out BK157.out (by decide))) | (show (Addr.add _ _).block ≠ _; rw [add_block]; exact Kd.own_blk (Kd.S_ne HO_13.out BK157.out (by decide))) | (dsimp only; exact Kd.own_blk (Kd.S_ne HO_13.out BK157.out (by decide)))) _).trans (hHeld.2.2.2.2.2.2.2.2.2.2.2.2.2.2.2.2.2.2.2.2.2.2.2.2.2.2.2.2.2.2.1)))), ((cell_far (p := ⟨gb157, _, none⟩) (by first | exact Kd.own_blk (Kd.S_ne HO_13.out BK157.out (by decide)) | (rw [add_block]; exact Kd.own_blk (Kd.S_ne HO_13.out BK157.out (by decide))) | (show (Addr.add _ _).block ≠ _; rw [add_block]; exact Kd.own_blk (Kd.S_ne HO_13.out BK157.out (by decide))) | (dsimp only; exact Kd.own_blk (Kd.S_ne HO_13.out BK157.out (by decide)))) _).trans (((cell_far (p := ⟨gb157, _, none⟩) (by first | exact Kd.own_blk (Kd.S_ne HO_13.out BK157.out (by decide)) | (rw [add_block]; exact Kd.own_blk (Kd.S_ne HO_13.out BK157.out (by decide))) | (show (Addr.add _ _).block ≠ _; rw [add_block]; exact Kd.own_blk (Kd.S_ne HO_13.out BK157.out (by decide))) | (dsimp only; exact Kd.own_blk (Kd.S_ne HO_13.out BK157.out (by decide)))) _).trans (hHeld.2.2.2.2.2.2.2.2.2.2.2.2.2.2.2.2.2.2.2.2.2.2.2.2.2.2.2.2.2.2.2.1)))), ((cell_far (p := ⟨gb157, _, none⟩) (by first | exact Kd.own_blk (Kd.S_ne HO_13.out BK157.out (by decide)) | (rw [add_block]; exact Kd.own_blk (Kd.S_ne HO_13.out BK157.out (by decide))) | (show (Addr.add _ _).block ≠ _; rw [add_block]; exact Kd.own_blk (Kd.S_ne HO_13.out BK157.out (by decide))) | (dsimp only; exact Kd.own_blk (Kd.S_ne HO_13.out BK157.out (by decide)))) _).trans (((cell_far (p := ⟨gb157, _, none⟩) (by first | exact Kd.own_blk (Kd.S_ne HO_13.out BK157.out (by decide)) | (rw [add_block]; exact Kd.own_blk (Kd.S_ne HO_13.out BK157.out (by decide))) | (show (Addr.add _ _).block ≠ _; rw [add_block]; exact Kd.own_blk (Kd.S_ne HO_13.out BK157.out (by decide))) | (dsimp only; exact Kd.own_blk (Kd.S_ne HO_13.out BK157.out (by decide)))) _).trans (hHeld.2.2.2.2.2.2.2.2.2.2.2.2.2.2.2.2.2.2.2.2.2.2.2.2.2.2.2.2.2.2.2.2.1)))), ((cell_far (p := ⟨gb157, _, none⟩) (by first | exact Kd.own_blk (Kd.S_ne HO_13.out BK157.out (by decide)) | (rw [add_block]; exact Kd.own_blk (Kd.S_ne HO_13.out BK157.out (by decide))) | (show (Addr.add _ _).block ≠ _; rw [add_block]; exact Kd.own_blk (Kd.S_ne HO_13.out BK157.out (by decide))) | (dsimp only; exact Kd.own_blk (Kd.S_ne HO_13.out BK157.out (by decide)))) _).trans (((cell_far (p := ⟨gb157, _, none⟩) (by first | exact Kd.own_blk (Kd.S_ne HO_13.out BK157.out (by decide)) | (rw [add_block]; exact Kd.own_blk (Kd.S_ne HO_13.out BK157.out (by decide))) | (show (Addr.add _ _).block ≠ _; rw [add_block]; exact Kd.own_blk (Kd.S_ne HO_13.out BK157.out (by decide))) | (dsimp only; exact Kd.own_blk (Kd.S_ne HO_13.out BK157.out (by decide)))) _).trans (hHeld.2.2.2.2.2.2.2.2.2.2.2.2.2.2.2.2.2.2.2.2.2.2.2.2.2.2.2.2.2.2.2.2.2.1)))), ((cell_far (p := ⟨gb157, _, none⟩) (by first | exact Kd.own_blk (Kd.S_ne HO_13.out BK157.out (by decide)) | (rw [add_block]; exact Kd.own_blk (Kd.S_ne HO_13.out BK157.out (by decide))) | (show (Addr.add _ _).block ≠ _; rw [add_block]; exact Kd.own_blk (Kd.S_ne HO_13.out BK157.out (by decide))) | (dsimp only; exact Kd.own_blk (Kd.S_ne HO_13.out BK157.out (by decide)))) _).trans (((cell_far (p := ⟨gb157, _, none⟩) (by first | exact Kd.own_blk (Kd.S_ne HO_13.out BK157.out (by decide)) | (rw [add_block]; exact Kd.own_blk (Kd.S_ne HO_13.out BK157.out (by decide))) | (show (Addr.add _ _).block ≠ _; rw [add_block]; exact Kd.own_blk (Kd.S_ne HO_13.out BK157.out (by decide))) | (dsimp only; exact Kd.own_blk (Kd.S_ne HO_13.out BK157.out (by decide)))) _).trans (hHeld.2.2.2.2.2.2.2.2.2.2.2.2.2.2.2.2.2.2.2.2.2.2.2.2.2.2.2.2.2.2.2.2.2.2.1)))), ((cell_far (p := ⟨gb157, _, none⟩) (by first | exact Kd.own_blk (Kd.S_ne HO_13.out BK157.out (by decide)) | (rw [add_block]; exact Kd.own_blk (Kd.S_ne HO_13.out BK157.out (by decide))) | (show (Addr.add _ _).block ≠ _; rw [add_block]; exact Kd.own_blk (Kd.S_ne HO_13.out BK157.out (by decide))) | (dsimp only; exact Kd.own_blk (Kd.S_ne HO_13.out BK157.out (by decide)))) _).trans (((cell_far (p := ⟨gb157, _, none⟩) (by first | exact Kd.own_blk (Kd.S_ne HO_13.out BK157.out (by decide)) | (rw [add_block]; exact Kd.own_blk (Kd.S_ne HO_13.out BK157.out (by decide))) | (show (Addr.add _ _).block ≠ _; rw [add_block]; exact Kd.own_blk (Kd.S_ne HO_13.out BK157.out (by decide))) | (dsimp only; exact Kd.own_blk (Kd.S_ne HO_13.out BK157.out (by decide)))) _).trans (hHeld.2.2.2.2.2.2.2.2.2.2.2.2.2.2.2.2.2.2.2.2.2.2.2.2.2.2.2.2.2.2.2.2.2.2.2))))⟩ (fun hHeld => ?_)
        clear hK K
        refine pure_ (i := 23) (N := some 5) (v := ?_) (a' := ?_) #[true, true, true, true, true, true, true, true, true, true, true, true, true, true, true, true, true, true, true, true, true, true, true, true] rfl rfl (any_of HT_.out (by kernel_rfl)) (fun _ _ _ h => h) (Or.inl ⟨by rfl, ?_⟩) ?_ ?_
        rotate_left
        ·intro w'
         go_simp
         with_reducible rfl
        rotate_left
        ·simp only [Act.put, List.setIfInBounds_toArray, List.set_cons_zero, List.set_cons_succ, i64_w, i32_w]
         rfl
        refine done_ (done_of HT_.out (by kernel_rfl)) ?_
        try go_wp2
        go_meet
        case rel => exact ⟨_, ((rd_T32 t159 t162).f0), ((rd_T32 t159 t162).f1), ((rd_T32 t159 t162).f3), ((rd_T32 t159 t162).f2.f0), ((rd_T32 t159 t162).f2.f1), (by first | rfl | (simp; done) | (simp [*]; done)), (by first | rfl | (simp; done) | (simp [*]; done)), (by first | rfl | (simp; done) | (simp [*]; done)), H', ⟨by have := HJ10.out; first | omega | exact Nat.le_refl _⟩, ⟨by (with_reducible repeat (first | apply Kd.S_alloc | apply Kd.S_drewN | apply Kd.S_drew)); exact Kd.S_mono (Kd.S_far (p := ⟨gb157, 1, none⟩) (Kd.S_far (p := ⟨gb157, 0, none⟩) (Kd.S_types HO_13.out BK157.out (by decide)) (fun _ hk => hk.2) (.int .i64 ((rd_T32 t159 t162).f2.f0))) (fun _ hk => hk.2) (.int .i64 ((rd_T32 t159 t162).f2.f1))) (fun _ hk => trivial)⟩, ⟨by (with_reducible repeat (first | refine bN ?_ _ | refine bD ?_ | refine bA ?_ _)); refine blk_put (cs := #[.int .i64 ((rd_T32 t159 t162).f2.f0), .int .i64 a4_1]) ?_ 1 _ rfl; (with_reducible repeat (first | refine bN ?_ _ | refine bD ?_ | refine bA ?_ _)); refine blk_put (cs := #[.int .i64 a4_0, .int .i64 a4_1]) ?_ 0 _ rfl; (with_reducible repeat (first | refine bN ?_ _ | refine bD ?_ | refine bA ?_ _)); exact BK157.out⟩, ⟨by repeat (first | (with_reducible first | exact HB.out | apply wA | apply wN | apply wD | refine below_set ?_ GE157.out) | exact HB.out)⟩⟩
       ·rw [if_neg c20] at H
        exact absurd H (by simp)
      ·rw [if_neg c19] at H
       exact absurd H (by simp)
     ·replace c18 := Bool.eq_false_iff.mpr c18
      subst c18
      have H1 : (rollbacknetlaw14_NetworkAsks.j1 kj10 a1 a2 a3 a5 t159 t162 a4_0 a4_1) = some r := by rw [if_neg (show ¬ (false = true) by decide)] at H; exact H
      clear H
      have H := H1
      clear H1
      have H' := aM H
      clear H
      go_wp2
      go_meet
      case rel => exact ⟨_, (a1), (a2), (a5), (a4_0), (a4_1), (by first | rfl | (simp; done) | (simp [*]; done)), (by first | rfl | (simp; done) | (simp [*]; done)), (by first | rfl | (simp; done) | (simp [*]; done)), H', ⟨by have := HJ10.out; first | omega | exact Nat.le_refl _⟩, ⟨by (with_reducible repeat (first | apply Kd.S_alloc | apply Kd.S_drewN | apply Kd.S_drew)); exact HO_13.out⟩, ⟨by (with_reducible repeat (first | refine bN ?_ _ | refine bD ?_ | refine bA ?_ _)); exact BK157.out⟩, ⟨by repeat (first | (with_reducible first | exact HB.out | apply wA | apply wN | apply wD | refine below_set ?_ GE157.out) | exact HB.out)⟩⟩
    case rest =>
     clear HC17
     try clear c1
     try clear p1
     try clear q1
     try clear hx1
     try clear c2
     try clear p2
     try clear c3
     try clear p6
     try clear c8
     try clear c9
     try clear c10
     try clear c16
     try clear c16b0
     try clear p16
     try clear q16
     try clear hx16
     try clear c18
     try clear c19
     try clear c19b0
     try clear c20
     try clear c20b0
     try clear hx163_0
     try clear hx163_1
     try clear hx163_2
     try clear hx163_3
     try clear hx163_4
     try clear hx163_5
     try clear hx163_6
     try clear hx163_7
     try clear hx163_8
     try clear hx164_0
     try clear hx164_1
     try clear hx164_2
     try clear hx164_3
     try clear hx164_4
     try clear hx164_5
     try clear hx164_6
     try clear hx164_7
     try clear hx164_8
     try clear hx165_0
     try clear hx165_1
     try clear hx165_2
     try clear hx165_3
     try clear hx165_4
     try clear hx165_5
     try clear hx165_6
     try clear hx165_7
     try clear hx165_8
     try clear hx166_0
     try clear hx166_1
     try clear hx166_2
     try clear hx166_3
     try clear hx166_4
     try clear hx166_5
     try clear hx166_6
     try clear hx166_7
     try clear hx166_8
     try clear p163
     try clear p164
     try clear p165
     try clear p166
     try clear p2
     try clear p6
     try clear q163
     try clear q164
     try clear q165
     try clear q166
     obtain ⟨kq, x1_16, x2_16, x5_16, x158000_16, x158001_16, rfl, rfl, rfl, HA, HJ16, HO_13, BK157, HB⟩ := hcut
     cases kq with
     | zero => exact absurd HA.out (by simp [rollbacknetlaw14_NetworkAsks.j1])
     | succ kj16 =>
      have H := HA.out
      clear HA
      simp only [rollbacknetlaw14_NetworkAsks.j1] at H
      replace H := Option.bind_eq_some_iff.mp H
      obtain ⟨t167, A240, H⟩ := H
      replace H : ((rollbacknetref14_Find.f kj16 t159 x1_16 x158000_16 x158001_16 x5_16).bind fun t168 => (if t167 = t168 then ((network_Channel.f t159 x1_16 x2_16).bind fun t169 => ((rollbacknetref14_Channel.f kj16 t159 x1_16 x2_16).bind fun t172 => ((rollbacknetref03_SameInts.f kj16 t169 t172).bind fun t175 => (if t175 = true then ((network_Oldest.f t159 t162).bind fun t176 => ((rollbacknetref14_Oldest.f kj16 t159 t162).bind fun t177 => (if t176 = t177 then ((network_Oldest.f t159 a3).bind fun t178 => ((rollbacknetref14_Oldest.f kj16 t159 a3).bind fun t179 => (some (t178 == t179)))) else (some false)))) else (some false))))) else (some false))) = some r := H
      have A24 := aM A240
      clear A240
      replace H := Option.bind_eq_some_iff.mp H
      obtain ⟨t168, A250, H⟩ := H
      replace H : (if t167 = t168 then ((network_Channel.f t159 x1_16 x2_16).bind fun t169 => ((rollbacknetref14_Channel.f kj16 t159 x1_16 x2_16).bind fun t172 => ((rollbacknetref03_SameInts.f kj16 t169 t172).bind fun t175 => (if t175 = true then ((network_Oldest.f t159 t162).bind fun t176 => ((rollbacknetref14_Oldest.f kj16 t159 t162).bind fun t177 => (if t176 = t177 then ((network_Oldest.f t159 a3).bind fun t178 => ((rollbacknetref14_Oldest.f kj16 t159 a3).bind fun t179 => (some (t178 == t179)))) else (some false)))) else (some false))))) else (some false)) = some r := H
      have A25 := aM A250
      clear A250
      by_cases c26 : t167 = t168
      ·rw [if_pos c26] at H
       have c26b0 : (t167 == t168) = true := beq_iff_eq.mpr c26
       have c26b1 : (t167 != t168) = false := bne_eq_false_iff_eq.mpr c26
       clear c26
       replace H := Option.bind_eq_some_iff.mp H
       obtain ⟨t169, A270, H⟩ := H
       replace H : ((rollbacknetref14_Channel.f kj16 t159 x1_16 x2_16).bind fun t172 => ((rollbacknetref03_SameInts.f kj16 t169 t172).bind fun t175 => (if t175 = true then ((network_Oldest.f t159 t162).bind fun t176 => ((rollbacknetref14_Oldest.f kj16 t159 t162).bind fun t177 => (if t176 = t177 then ((network_Oldest.f t159 a3).bind fun t178 => ((rollbacknetref14_Oldest.f kj16 t159 a3).bind fun t179 => (some (t178 == t179)))) else (some false)))) else (some false)))) = some r := H
       have A27 := aM A270
       clear A270
       replace H := Option.bind_eq_some_iff.mp H
       obtain ⟨t172, A280, H⟩ := H
       replace H : ((rollbacknetref03_SameInts.f kj16 t169 t172).bind fun t175 => (if t175 = true then ((network_Oldest.f t159 t162).bind fun t176 => ((rollbacknetref14_Oldest.f kj16 t159 t162).bind fun t177 => (if t176 = t177 then ((network_Oldest.f t159 a3).bind fun t178 => ((rollbacknetref14_Oldest.f kj16 t159 a3).bind fun t179 => (some (t178 == t179)))) else (some false)))) else (some false))) = some r := H
       have A28 := aM A280
       clear A280
       replace H := Option.bind_eq_some_iff.mp H
       obtain ⟨t175, A290, H⟩ := H
       replace H : (if t175 = true then ((network_Oldest.f t159 t162).bind fun t176 => ((rollbacknetref14_Oldest.f kj16 t159 t162).bind fun t177 => (if t176 = t177 then ((network_Oldest.f t159 a3).bind fun t178 => ((rollbacknetref14_Oldest.f kj16 t159 a3).bind fun t179 => (some (t178 == t179)))) else (some false)))) else (some false)) = some r := H
       have A29 := aM A290
       clear A290
       by_cases c30 : t175 = true
       ·subst c30
        have H1 : ((network_Oldest.f t159 t162).bind fun t176 => ((rollbacknetref14_Oldest.f kj16 t159 t162).bind fun t177 => (if t176 = t177 then ((network_Oldest.f t159 a3).bind fun t178 => ((rollbacknetref14_Oldest.f kj16 t159 a3).bind fun t179 => (some (t178 == t179)))) else (some false)))) = some r := by rw [if_pos rfl] at H; exact H
        clear H
        have H := H1
        clear H1
        replace H := Option.bind_eq_some_iff.mp H
        obtain ⟨t176, A310, H⟩ := H
        replace H : ((rollbacknetref14_Oldest.f kj16 t159 t162).bind fun t177 => (if t176 = t177 then ((network_Oldest.f t159 a3).bind fun t178 => ((rollbacknetref14_Oldest.f kj16 t159 a3).bind fun t179 => (some (t178 == t179)))) else (some false))) = some r := H
        have A31 := aM A310
        clear A310
        replace H := Option.bind_eq_some_iff.mp H
        obtain ⟨t177, A320, H⟩ := H
        replace H : (if t176 = t177 then ((network_Oldest.f t159 a3).bind fun t178 => ((rollbacknetref14_Oldest.f kj16 t159 a3).bind fun t179 => (some (t178 == t179)))) else (some false)) = some r := H
        have A32 := aM A320
        clear A320
        by_cases c33 : t176 = t177
        ·rw [if_pos c33] at H
         have c33b0 : (t176 == t177) = true := beq_iff_eq.mpr c33
         have c33b1 : (t176 != t177) = false := bne_eq_false_iff_eq.mpr c33
         clear c33
         replace H := Option.bind_eq_some_iff.mp H
         obtain ⟨t178, A340, H⟩ := H
         replace H : ((rollbacknetref14_Oldest.f kj16 t159 a3).bind fun t179 => (some (t178 == t179))) = some r := H
         have A34 := aM A340
         clear A340
         replace H := Option.bind_eq_some_iff.mp H
         obtain ⟨t179, A350, H⟩ := H
         replace H : (some (t178 == t179)) = some r := H
         have A35 := aM A350
         clear A350
         obtain rfl := Option.some.inj H
         try go_wp2
         have n0_ := aM (Kd.S_drew HO_13.out)
         have n1_ := aM (bD BK157.out)
         have n2_ := aM (wD HB.out)
         clear HO_13
         clear BK157
         clear HB
         have HO_13 := n0_
         have BK157 := n1_
         have HB := n2_
         clear n0_ n1_ n2_
         refine start_ (n := 41) (S := fun w' => w'.cell? ⟨gb157, 0, none⟩ = some (.int .i64 x158000_16) ∧ w'.cell? ⟨gb157, 1, none⟩ = some (.int .i64 x158001_16)) (ds := []) #[false, false, false, false, false, false, false, false, false, false, false, false, false, false, false, false, false, false, false, false, false, false, false, false, false, false, false, false, false, false, false, false, false, false, false, false, false, false, false, false, false] (by kernel_rfl) rfl rfl ⟨(blk_cell BK157.out 0).trans rfl, (blk_cell BK157.out 1).trans rfl⟩ (fun hHeld => ?_); refine with_tabW rollbacknetlaw14_NetworkAsks.tab7 rollbacknetlaw14_NetworkAsks.bits7 (fun HT_ HW_ => ?_)
         generalize wc.drew = w36 at HO_13 BK157 HB hHeld ⊢
         refine pure_ (i := 0) (N := some 53) (v := ?_) (a' := ?_) #[true, false, false, false, false, false, false, false, false, false, false, false, false, false, false, false, false, false, false, false, false, false, false, false, false, false, false, false, false, false, false, false, false, false, false, false, false, false, false, false, false] rfl rfl (any_of HT_.out (by kernel_rfl)) (fun _ _ _ h => h) (Or.inl ⟨by rfl, ?_⟩) ?_ ?_
         rotate_left
         ·intro w'
          go_simp
          with_reducible rfl
         rotate_left
         ·simp only [Act.put, List.setIfInBounds_toArray, List.set_cons_zero, List.set_cons_succ, i64_w, i32_w]
          rfl
         refine pure_ (i := 1) (N := some 54) (v := ?_) (a' := ?_) #[true, true, false, false, false, false, false, false, false, false, false, false, false, false, false, false, false, false, false, false, false, false, false, false, false, false, false, false, false, false, false, false, false, false, false, false, false, false, false, false, false] rfl rfl (any_of HT_.out (by kernel_rfl)) (fun _ _ _ h => h) (Or.inl ⟨by rfl, ?_⟩) ?_ ?_
         rotate_left
         ·intro w'
          go_simp
          with_reducible rfl
         rotate_left
         ·simp only [Act.put, List.setIfInBounds_toArray, List.set_cons_zero, List.set_cons_succ, i64_w, i32_w]
          rfl
         refine pure_ (i := 3) (N := some 56) (v := ?_) (a' := ?_) #[true, true, false, true, false, false, false, false, false, false, false, false, false, false, false, false, false, false, false, false, false, false, false, false, false, false, false, false, false, false, false, false, false, false, false, false, false, false, false, false, false] rfl rfl (any_of HT_.out (by kernel_rfl)) (fun _ _ _ h => h) (Or.inl ⟨by rfl, ?_⟩) ?_ ?_
         rotate_left
         ·intro w'
          go_simp
          with_reducible rfl
         rotate_left
         ·simp only [Act.put, List.setIfInBounds_toArray, List.set_cons_zero, List.set_cons_succ, i64_w, i32_w]
          rfl
         refine pure_ (i := 5) (N := some 58) (v := ?_) (a' := ?_) #[true, true, false, true, false, true, false, false, false, false, false, false, false, false, false, false, false, false, false, false, false, false, false, false, false, false, false, false, false, false, false, false, false, false, false, false, false, false, false, false, false] rfl rfl (any_of HT_.out (by kernel_rfl)) (fun _ _ _ h => h) (Or.inl ⟨by rfl, ?_⟩) ?_ ?_
         rotate_left
         ·intro w'
          go_simp
          with_reducible rfl
         rotate_left
         ·simp only [Act.put, List.setIfInBounds_toArray, List.set_cons_zero, List.set_cons_succ, i64_w, i32_w]
          rfl
         refine pure_ (i := 6) (N := some 59) (v := ?_) (a' := ?_) #[true, true, false, true, false, true, true, false, false, false, false, false, false, false, false, false, false, false, false, false, false, false, false, false, false, false, false, false, false, false, false, false, false, false, false, false, false, false, false, false, false] rfl rfl (any_of HT_.out (by kernel_rfl)) (fun _ _ _ h => h) (Or.inl ⟨by rfl, ?_⟩) ?_ ?_
         rotate_left
         ·intro w'
          go_simp
          with_reducible rfl
         rotate_left
         ·simp only [Act.put, List.setIfInBounds_toArray, List.set_cons_zero, List.set_cons_succ, i64_w, i32_w]
          rfl
         refine pure_ (i := 8) (N := some 61) (v := ?_) (a' := ?_) #[true, true, false, true, false, true, true, false, true, false, false, false, false, false, false, false, false, false, false, false, false, false, false, false, false, false, false, false, false, false, false, false, false, false, false, false, false, false, false, false, false] rfl rfl (any_of HT_.out (by kernel_rfl)) (fun _ _ _ h => h) (Or.inl ⟨by rfl, ?_⟩) ?_ ?_
         rotate_left
         ·intro w'
          go_simp
          with_reducible rfl
         rotate_left
         ·simp only [Act.put, List.setIfInBounds_toArray, List.set_cons_zero, List.set_cons_succ, i64_w, i32_w]
          rfl
         refine take_ (i := 2) (N := some 55) (v := ?_) (a' := ?_) #[true, true, true, true, false, true, true, false, true, false, false, false, false, false, false, false, false, false, false, false, false, false, false, false, false, false, false, false, false, false, false, false, false, false, false, false, false, false, false, false, false] rfl rfl (take_ofW HT_.out HW_.out (by kernel_rfl)) (fun _ _ _ h => h) (Or.inl ⟨by rfl, ?_⟩) hHeld ?_ ?_
         rotate_left
         ·rintro w' ⟨s0, s1⟩
          go_simp
          with_reducible rfl
         rotate_left
         ·simp only [Act.put, List.setIfInBounds_toArray, List.set_cons_zero, List.set_cons_succ, i64_w, i32_w]
          rfl
         refine take_ (i := 7) (N := some 60) (v := ?_) (a' := ?_) #[true, true, true, true, false, true, true, true, true, false, false, false, false, false, false, false, false, false, false, false, false, false, false, false, false, false, false, false, false, false, false, false, false, false, false, false, false, false, false, false, false] rfl rfl (take_ofW HT_.out HW_.out (by kernel_rfl)) (fun _ _ _ h => h) (Or.inl ⟨by rfl, ?_⟩) hHeld ?_ ?_
         rotate_left
         ·rintro w' ⟨s0, s1⟩
          go_simp
          with_reducible rfl
         rotate_left
         ·simp only [Act.put, List.setIfInBounds_toArray, List.set_cons_zero, List.set_cons_succ, i64_w, i32_w]
          rfl
         refine one_ (i := 4) (N := some 57) #[true, true, true, true, true, true, true, true, true, false, false, false, false, false, false, false, false, false, false, false, false, false, false, false, false, false, false, false, false, false, false, false, false, false, false, false, false, false, false, false, false] rfl rfl (one_of HT_.out (by kernel_rfl)) (by decide) (fun K hK => ?_)
         refine goes_ Try.func11 (by kernel_rfl) rfl #[.slice Ao15 t159.length co15, .int .i64 x1_16, .agg #[.int .i64 x158000_16, .int .i64 x158001_16], .int .i64 x5_16] (by rfl) rfl rfl (by (try simp only [List.map_toArray, List.map_cons, List.map_nil]); first | done | rfl | (simp only [List.length_drop, List.length_take]; rfl)) ?_
         with_reducible refine (network_Find.calls _ _ t159 x1_16 x158000_16 x158001_16 x5_16 t167 _ ?side1 ?side2 A24.out).mono ?_
         (case side1 => repeat (first | exact (Kd.S_reads' HO_13.out).2.2 | (with_reducible refine Kd.C_alloc ?_ _) | (with_reducible refine Kd.C_drewN ?_ _) | (with_reducible refine Kd.C_drew ?_)))
         (case side2 => exact (Kd.S_reads' HO_13.out).2.1)
         rintro e w37 ⟨rfl, hb⟩
         refine ⟨_, rfl, ?_⟩
         have n0_ := aM (Kd.S_below (by (with_reducible repeat (first | apply Kd.S_alloc | apply Kd.S_drewN | apply Kd.S_drew)); exact HO_13.out) hb)
         have n1_ := aM (blk_below (g := gb157) (o := .cells #[.int .i64 x158000_16, .int .i64 x158001_16] 24 (0, 0)) (by (with_reducible repeat (first | refine bN ?_ _ | refine bD ?_ | refine bA ?_ _)); exact BK157.out) hb)
         have n2_ := aM (below_step (by repeat (first | (with_reducible first | exact HB.out | apply wA | apply wN | apply wD | refine below_set ?_ GE157.out) | exact HB.out)) hb)
         clear HO_13
         clear BK157
         clear HB
         have HO_13 := n0_
         have BK157 := n1_
         have HB := n2_
         clear n0_ n1_ n2_
         (try clear hb)
         (try clear hb2)
         (try clear hk)
         (try clear hi)
         (try clear hge_)
         refine hK.out _ _ ⟨(blk_cell BK157.out 0).trans rfl, (blk_cell BK157.out 1).trans rfl⟩ (fun hHeld => ?_)
         clear hK K
         refine norm_ (a' := ?_) ?_ ?_
         rotate_left
         ·show Act.put _ (some 57) _ = _
          simp only [Act.put, List.setIfInBounds_toArray, List.set_cons_zero, List.set_cons_succ, i64_w, i32_w]
          rfl
         refine one_ (i := 9) (N := some 62) #[true, true, true, true, true, true, true, true, true, true, false, false, false, false, false, false, false, false, false, false, false, false, false, false, false, false, false, false, false, false, false, false, false, false, false, false, false, false, false, false, false] rfl rfl (one_of HT_.out (by kernel_rfl)) (by decide) (fun K hK => ?_)
         refine goes_ Try.func12 (by kernel_rfl) rfl #[.slice Ao15 t159.length co15, .int .i64 x1_16, .agg #[.int .i64 x158000_16, .int .i64 x158001_16], .int .i64 x5_16] (by rfl) rfl rfl (by (try simp only [List.map_toArray, List.map_cons, List.map_nil]); first | done | rfl | (simp only [List.length_drop, List.length_take]; rfl)) ?_
         with_reducible refine (rollbacknetref14_Find.calls kj16 _ _ t159 x1_16 x158000_16 x158001_16 x5_16 t168 _ ?side1 ?side2 A25.out).mono ?_
         (case side1 => repeat (first | exact (Kd.S_reads' HO_13.out).2.2 | (with_reducible refine Kd.C_alloc ?_ _) | (with_reducible refine Kd.C_drewN ?_ _) | (with_reducible refine Kd.C_drew ?_)))
         (case side2 => exact (Kd.S_reads' HO_13.out).2.1)
         rintro e w38 ⟨rfl, hb⟩
         refine ⟨_, rfl, ?_⟩
         have n0_ := aM (Kd.S_below (by (with_reducible repeat (first | apply Kd.S_alloc | apply Kd.S_drewN | apply Kd.S_drew)); exact HO_13.out) hb)
         have n1_ := aM (blk_below (g := gb157) (o := .cells #[.int .i64 x158000_16, .int .i64 x158001_16] 24 (0, 0)) (by (with_reducible repeat (first | refine bN ?_ _ | refine bD ?_ | refine bA ?_ _)); exact BK157.out) hb)
         have n2_ := aM (below_step (by repeat (first | (with_reducible first | exact HB.out | apply wA | apply wN | apply wD | refine below_set ?_ GE157.out) | exact HB.out)) hb)
         clear HO_13
         clear BK157
         clear HB
         have HO_13 := n0_
         have BK157 := n1_
         have HB := n2_
         clear n0_ n1_ n2_
         (try clear hb)
         (try clear hb2)
         (try clear hk)
         (try clear hi)
         (try clear hge_)
         refine hK.out _ _ ⟨(blk_cell BK157.out 0).trans rfl, (blk_cell BK157.out 1).trans rfl⟩ (fun hHeld => ?_)
         clear hK K
         refine norm_ (a' := ?_) ?_ ?_
         rotate_left
         ·show Act.put _ (some 62) _ = _
          simp only [Act.put, List.setIfInBounds_toArray, List.set_cons_zero, List.set_cons_succ, i64_w, i32_w]
          rfl
         refine pure_ (i := 10) (N := some 63) (v := ?_) (a' := ?_) #[true, true, true, true, true, true, true, true, true, true, true, false, false, false, false, false, false, false, false, false, false, false, false, false, false, false, false, false, false, false, false, false, false, false, false, false, false, false, false, false, false] rfl rfl (any_of HT_.out (by kernel_rfl)) (fun _ _ _ h => h) (Or.inl ⟨by rfl, ?_⟩) ?_ ?_
         rotate_left
         ·intro w'
          go_simp
          with_reducible rfl
         rotate_left
         ·simp only [Act.put, List.setIfInBounds_toArray, List.set_cons_zero, List.set_cons_succ, i64_w, i32_w]
          rfl
         refine pure_ (i := 11) (N := some 64) (v := ?_) (a' := ?_) #[true, true, true, true, true, true, true, true, true, true, true, true, false, false, false, false, false, false, false, false, false, false, false, false, false, false, false, false, false, false, false, false, false, false, false, false, false, false, false, false, false] rfl rfl (any_of HT_.out (by kernel_rfl)) (fun _ _ _ h => h) (Or.inl ⟨by rfl, ?_⟩) ?_ ?_
         rotate_left
         ·intro w'
          go_simp
          with_reducible rfl
         rotate_left
         ·simp only [Act.put, List.setIfInBounds_toArray, List.set_cons_zero, List.set_cons_succ, i64_w, i32_w]
          rfl
         refine pure_ (i := 12) (N := some 65) (v := ?_) (a' := ?_) #[true, true, true, true, true, true, true, true, true, true, true, true, true, false, false, false, false, false, false, false, false, false, false, false, false, false, false, false, false, false, false, false, false, false, false, false, false, false, false, false, false] rfl rfl (any_of HT_.out (by kernel_rfl)) (fun _ _ _ h => h) (Or.inl ⟨by rfl, ?_⟩) ?_ ?_
         rotate_left
         ·intro w'
          go_simp
          with_reducible rfl
         rotate_left
         ·simp only [Act.put, List.setIfInBounds_toArray, List.set_cons_zero, List.set_cons_succ, i64_w, i32_w]
          rfl
         refine pure_ (i := 13) (N := some 66) (v := ?_) (a' := ?_) #[true, true, true, true, true, true, true, true, true, true, true, true, true, true, false, false, false, false, false, false, false, false, false, false, false, false, false, false, false, false, false, false, false, false, false, false, false, false, false, false, false] rfl rfl (any_of HT_.out (by kernel_rfl)) (fun _ _ _ h => h) (Or.inl ⟨by rfl, ?_⟩) ?_ ?_
         rotate_left
         ·intro w'
          go_simp
          with_reducible rfl
         rotate_left
         ·simp only [Act.put, List.setIfInBounds_toArray, List.set_cons_zero, List.set_cons_succ, i64_w, i32_w]
          rfl
         refine pure_ (i := 14) (N := some 67) (v := ?_) (a' := ?_) #[true, true, true, true, true, true, true, true, true, true, true, true, true, true, true, false, false, false, false, false, false, false, false, false, false, false, false, false, false, false, false, false, false, false, false, false, false, false, false, false, false] rfl rfl (any_of HT_.out (by kernel_rfl)) (fun _ _ _ h => h) (Or.inl ⟨by rfl, ?_⟩) ?_ ?_
         rotate_left
         ·intro w'
          go_simp
          with_reducible rfl
         rotate_left
         ·simp only [Act.put, List.setIfInBounds_toArray, List.set_cons_zero, List.set_cons_succ, i64_w, i32_w]
          rfl
         refine pure_ (i := 16) (N := some 69) (v := ?_) (a' := ?_) #[true, true, true, true, true, true, true, true, true, true, true, true, true, true, true, false, true, false, false, false, false, false, false, false, false, false, false, false, false, false, false, false, false, false, false, false, false, false, false, false, false] rfl rfl (any_of HT_.out (by kernel_rfl)) (fun _ _ _ h => h) (Or.inl ⟨by rfl, ?_⟩) ?_ ?_
         rotate_left
         ·intro w'
          go_simp
          with_reducible rfl
         rotate_left
         ·simp only [Act.put, List.setIfInBounds_toArray, List.set_cons_zero, List.set_cons_succ, i64_w, i32_w]
          rfl
         refine pure_ (i := 17) (N := some 70) (v := ?_) (a' := ?_) #[true, true, true, true, true, true, true, true, true, true, true, true, true, true, true, false, true, true, false, false, false, false, false, false, false, false, false, false, false, false, false, false, false, false, false, false, false, false, false, false, false] rfl rfl (any_of HT_.out (by kernel_rfl)) (fun _ _ _ h => h) (Or.inl ⟨by rfl, ?_⟩) ?_ ?_
         rotate_left
         ·intro w'
          go_simp
          with_reducible rfl
         rotate_left
         ·simp only [Act.put, List.setIfInBounds_toArray, List.set_cons_zero, List.set_cons_succ, i64_w, i32_w]
          rfl
         refine pure_ (i := 18) (N := some 71) (v := ?_) (a' := ?_) #[true, true, true, true, true, true, true, true, true, true, true, true, true, true, true, false, true, true, true, false, false, false, false, false, false, false, false, false, false, false, false, false, false, false, false, false, false, false, false, false, false] rfl rfl (any_of HT_.out (by kernel_rfl)) (fun _ _ _ h => h) (Or.inl ⟨by rfl, ?_⟩) ?_ ?_
         rotate_left
         ·intro w'
          go_simp
          with_reducible rfl
         rotate_left
         ·simp only [Act.put, List.setIfInBounds_toArray, List.set_cons_zero, List.set_cons_succ, i64_w, i32_w]
          rfl
         refine one_ (i := 15) (N := some 68) #[true, true, true, true, true, true, true, true, true, true, true, true, true, true, true, true, true, true, true, false, false, false, false, false, false, false, false, false, false, false, false, false, false, false, false, false, false, false, false, false, false] rfl rfl (one_of HT_.out (by kernel_rfl)) (by decide) (fun K hK => ?_)
         refine goes_ Try.func14 (by kernel_rfl) rfl #[.slice Ao15 t159.length co15, .int .i64 x1_16, .int .i64 x2_16] (by rfl) rfl rfl (by (try simp only [List.map_toArray, List.map_cons, List.map_nil]); first | done | rfl | (simp only [List.length_drop, List.length_take]; rfl)) ?_
         with_reducible refine (network_Channel.calls _ _ t159 x1_16 x2_16 t169 _ ?side1 ?side2 A27.out).mono ?_
         (case side1 => repeat (first | exact (Kd.S_reads' HO_13.out).2.2 | (with_reducible refine Kd.C_alloc ?_ _) | (with_reducible refine Kd.C_drewN ?_ _) | (with_reducible refine Kd.C_drew ?_)))
         (case side2 => exact (Kd.S_reads' HO_13.out).2.1)
         rintro e w39 ⟨v170, rfl, ho0, hb⟩
         refine ⟨_, rfl, ?_⟩
         have n0_ := aM (Kd.S_elder' (by (with_reducible repeat (first | apply Kd.S_alloc | apply Kd.S_drewN | apply Kd.S_drew)); exact HO_13.out) (Kd.R_base ho0) hb)
         have n1_ := aM (Kd.R_lower ho0 (below_size (by repeat (first | (with_reducible first | exact HB.out | apply wA | apply wN | apply wD | refine below_set ?_ GE157.out) | exact HB.out))))
         have n2_ := aM (blk_below (g := gb157) (o := .cells #[.int .i64 x158000_16, .int .i64 x158001_16] 24 (0, 0)) (by (with_reducible repeat (first | refine bN ?_ _ | refine bD ?_ | refine bA ?_ _)); exact BK157.out) hb)
         have n3_ := aM (below_step (by repeat (first | (with_reducible first | exact HB.out | apply wA | apply wN | apply wD | refine below_set ?_ GE157.out) | exact HB.out)) hb)
         clear HO_13
         clear BK157
         clear HB
         have HO_13 := n0_
         have HO171 := n1_
         have BK157 := n2_
         have HB := n3_
         clear n0_ n1_ n2_ n3_
         (try clear hb)
         (try clear hb2)
         (try clear hk)
         (try clear hi)
         (try clear hge_)
         (try clear ho0)
         refine hK.out _ _ ⟨(blk_cell BK157.out 0).trans rfl, (blk_cell BK157.out 1).trans rfl⟩ (fun hHeld => ?_)
         clear hK K
         refine norm_ (a' := ?_) ?_ ?_
         rotate_left
         ·show Act.put _ (some 68) _ = _
          simp only [Act.put, List.setIfInBounds_toArray, List.set_cons_zero, List.set_cons_succ, i64_w, i32_w]
          rfl
         refine one_ (i := 19) (N := some 72) #[true, true, true, true, true, true, true, true, true, true, true, true, true, true, true, true, true, true, true, true, false, false, false, false, false, false, false, false, false, false, false, false, false, false, false, false, false, false, false, false, false] rfl rfl (one_of HT_.out (by kernel_rfl)) (by decide) (fun K hK => ?_)
         refine goes_ Try.func15 (by kernel_rfl) rfl #[.slice Ao15 t159.length co15, .int .i64 x1_16, .int .i64 x2_16] (by rfl) rfl rfl (by (try simp only [List.map_toArray, List.map_cons, List.map_nil]); first | done | rfl | (simp only [List.length_drop, List.length_take]; rfl)) ?_
         with_reducible refine (rollbacknetref14_Channel.calls kj16 _ _ t159 x1_16 x2_16 t172 _ ?side1 ?side2 A28.out).mono ?_
         (case side1 => repeat (first | exact (Kd.S_reads' HO_13.out).2.2 | (with_reducible refine Kd.C_alloc ?_ _) | (with_reducible refine Kd.C_drewN ?_ _) | (with_reducible refine Kd.C_drew ?_)))
         (case side2 => exact (Kd.S_reads' HO_13.out).2.1)
         rintro e w40 ⟨v173, rfl, ho0, hb⟩
         refine ⟨_, rfl, ?_⟩
         have n0_ := aM (Kd.S_elder' (by (with_reducible repeat (first | apply Kd.S_alloc | apply Kd.S_drewN | apply Kd.S_drew)); exact HO_13.out) (Kd.R_base ho0) hb)
         have n1_ := aM (Kd.R_elder' (by (with_reducible repeat (first | apply Kd.R_alloc | apply Kd.R_drewN | apply Kd.R_drew)); exact HO171.out) (Kd.R_base ho0) hb)
         have n2_ := aM (Kd.R_lower (Kd.R_new' ho0 (Kd.R_lt (by (with_reducible repeat (first | apply Kd.R_alloc | apply Kd.R_drewN | apply Kd.R_drew)); exact HO171.out))) (below_size (by repeat (first | (with_reducible first | exact HB.out | apply wA | apply wN | apply wD | refine below_set ?_ GE157.out) | exact HB.out))))
         have n3_ := aM (blk_below (g := gb157) (o := .cells #[.int .i64 x158000_16, .int .i64 x158001_16] 24 (0, 0)) (by (with_reducible repeat (first | refine bN ?_ _ | refine bD ?_ | refine bA ?_ _)); exact BK157.out) hb)
         have n4_ := aM (below_step (by repeat (first | (with_reducible first | exact HB.out | apply wA | apply wN | apply wD | refine below_set ?_ GE157.out) | exact HB.out)) hb)
         clear HO_13
         clear HO171
         clear BK157
         clear HB
         have HO_13 := n0_
         have HO171 := n1_
         have HO174 := n2_
         have BK157 := n3_
         have HB := n4_
         clear n0_ n1_ n2_ n3_ n4_
         (try clear hb)
         (try clear hb2)
         (try clear hk)
         (try clear hi)
         (try clear hge_)
         (try clear ho0)
         obtain ⟨Ao41, co41, eo41⟩ := Kd.R_slice HO171.out
         (first | subst eo41 | (injection eo41 with f1_ f2_ f3_; have f4_ := f1_.symm; have f5_ := f3_.symm; clear f1_ f2_ f3_; subst f4_; subst f5_))
         obtain ⟨Ao42, co42, eo42⟩ := Kd.R_slice HO174.out
         (first | subst eo42 | (injection eo42 with f1_ f2_ f3_; have f4_ := f1_.symm; have f5_ := f3_.symm; clear f1_ f2_ f3_; subst f4_; subst f5_))
         refine hK.out _ _ ⟨(blk_cell BK157.out 0).trans rfl, (blk_cell BK157.out 1).trans rfl⟩ (fun hHeld => ?_)
         clear hK K
         refine norm_ (a' := ?_) ?_ ?_
         rotate_left
         ·show Act.put _ (some 72) _ = _
          simp only [Act.put, List.setIfInBounds_toArray, List.set_cons_zero, List.set_cons_succ, i64_w, i32_w]
          rfl
         refine one_ (i := 20) (N := some 73) #[true, true, true, true, true, true, true, true, true, true, true, true, true, true, true, true, true, true, true, true, true, false, false, false, false, false, false, false, false, false, false, false, false, false, false, false, false, false, false, false, false] rfl rfl (one_of HT_.out (by kernel_rfl)) (by decide) (fun K hK => ?_)
         refine goes_ Try.func13 (by kernel_rfl) rfl #[.slice Ao41 t169.length co41, .slice Ao42 t172.length co42] (by rfl) rfl rfl (by (try simp only [List.map_toArray, List.map_cons, List.map_nil]); first | done | rfl | (simp only [List.length_drop, List.length_take]; rfl)) ?_
         with_reducible refine (rollbacknetref03_SameInts.calls kj16 _ _ t169 _ _ t172 true _ ?side1 ?side2 ?side3 ?side4 A29.out).mono ?_
         (case side1 => repeat (first | exact (Kd.R_reads' HO171.out).2.2 | (with_reducible refine Kd.C_alloc ?_ _) | (with_reducible refine Kd.C_drewN ?_ _) | (with_reducible refine Kd.C_drew ?_)))
         (case side2 => exact (Kd.R_reads' HO171.out).2.1)
         (case side3 => repeat (first | exact (Kd.R_reads' HO174.out).2.2 | (with_reducible refine Kd.C_alloc ?_ _) | (with_reducible refine Kd.C_drewN ?_ _) | (with_reducible refine Kd.C_drew ?_)))
         (case side4 => exact (Kd.R_reads' HO174.out).2.1)
         rintro e w' ⟨rfl, ⟨nd, rfl⟩⟩
         refine ⟨_, rfl, ?_⟩
         refine hK.out _ _ ⟨(blk_cell BK157.out 0).trans rfl, (blk_cell BK157.out 1).trans rfl⟩ (fun hHeld => ?_)
         clear hK K
         refine norm_ (a' := ?_) ?_ ?_
         rotate_left
         ·show Act.put _ (some 73) _ = _
          simp only [Act.put, List.setIfInBounds_toArray, List.set_cons_zero, List.set_cons_succ, i64_w, i32_w]
          rfl
         refine pure_ (i := 21) (N := some 74) (v := ?_) (a' := ?_) #[true, true, true, true, true, true, true, true, true, true, true, true, true, true, true, true, true, true, true, true, true, true, false, false, false, false, false, false, false, false, false, false, false, false, false, false, false, false, false, false, false] rfl rfl (any_of HT_.out (by kernel_rfl)) (fun _ _ _ h => h) (Or.inl ⟨by rfl, ?_⟩) ?_ ?_
         rotate_left
         ·intro w'
          go_simp
          with_reducible rfl
         rotate_left
         ·simp only [Act.put, List.setIfInBounds_toArray, List.set_cons_zero, List.set_cons_succ, i64_w, i32_w]
          rfl
         refine pure_ (i := 22) (N := some 75) (v := ?_) (a' := ?_) #[true, true, true, true, true, true, true, true, true, true, true, true, true, true, true, true, true, true, true, true, true, true, true, false, false, false, false, false, false, false, false, false, false, false, false, false, false, false, false, false, false] rfl rfl (any_of HT_.out (by kernel_rfl)) (fun _ _ _ h => h) (Or.inl ⟨by rfl, ?_⟩) ?_ ?_
         rotate_left
         ·intro w'
          go_simp
          with_reducible rfl
         rotate_left
         ·simp only [Act.put, List.setIfInBounds_toArray, List.set_cons_zero, List.set_cons_succ, i64_w, i32_w]
          rfl
         refine pure_ (i := 23) (N := some 76) (v := ?_) (a' := ?_) #[true, true, true, true, true, true, true, true, true, true, true, true, true, true, true, true, true, true, true, true, true, true, true, true, false, false, false, false, false, false, false, false, false, false, false, false, false, false, false, false, false] rfl rfl (any_of HT_.out (by kernel_rfl)) (fun _ _ _ h => h) (Or.inl ⟨by rfl, ?_⟩) ?_ ?_
         rotate_left
         ·intro w'
          go_simp
          with_reducible rfl
         rotate_left
         ·simp only [Act.put, List.setIfInBounds_toArray, List.set_cons_zero, List.set_cons_succ, i64_w, i32_w]
          rfl
         refine pure_ (i := 24) (N := some 77) (v := ?_) (a' := ?_) #[true, true, true, true, true, true, true, true, true, true, true, true, true, true, true, true, true, true, true, true, true, true, true, true, true, false, false, false, false, false, false, false, false, false, false, false, false, false, false, false, false] rfl rfl (any_of HT_.out (by kernel_rfl)) (fun _ _ _ h => h) (Or.inl ⟨by rfl, ?_⟩) ?_ ?_
         rotate_left
         ·intro w'
          go_simp
          with_reducible rfl
         rotate_left
         ·simp only [Act.put, List.setIfInBounds_toArray, List.set_cons_zero, List.set_cons_succ, i64_w, i32_w]
          rfl
         refine pure_ (i := 26) (N := some 79) (v := ?_) (a' := ?_) #[true, true, true, true, true, true, true, true, true, true, true, true, true, true, true, true, true, true, true, true, true, true, true, true, true, false, true, false, false, false, false, false, false, false, false, false, false, false, false, false, false] rfl rfl (any_of HT_.out (by kernel_rfl)) (fun _ _ _ h => h) (Or.inl ⟨by rfl, ?_⟩) ?_ ?_
         rotate_left
         ·intro w'
          go_simp
          with_reducible rfl
         rotate_left
         ·simp only [Act.put, List.setIfInBounds_toArray, List.set_cons_zero, List.set_cons_succ, i64_w, i32_w]
          rfl
         refine pure_ (i := 27) (N := some 80) (v := ?_) (a' := ?_) #[true, true, true, true, true, true, true, true, true, true, true, true, true, true, true, true, true, true, true, true, true, true, true, true, true, false, true, true, false, false, false, false, false, false, false, false, false, false, false, false, false] rfl rfl (any_of HT_.out (by kernel_rfl)) (fun _ _ _ h => h) (Or.inl ⟨by rfl, ?_⟩) ?_ ?_
         rotate_left
         ·intro w'
          go_simp
          with_reducible rfl
         rotate_left
         ·simp only [Act.put, List.setIfInBounds_toArray, List.set_cons_zero, List.set_cons_succ, i64_w, i32_w]
          rfl
         refine one_ (i := 25) (N := some 78) #[true, true, true, true, true, true, true, true, true, true, true, true, true, true, true, true, true, true, true, true, true, true, true, true, true, true, true, true, false, false, false, false, false, false, false, false, false, false, false, false, false] rfl rfl (one_of HT_.out (by kernel_rfl)) (by decide) (fun K hK => ?_)
         refine goes_ Try.func16 (by kernel_rfl) rfl #[.slice Ao15 t159.length co15, .int .i64 t162] (by rfl) rfl rfl (by (try simp only [List.map_toArray, List.map_cons, List.map_nil]); first | done | rfl | (simp only [List.length_drop, List.length_take]; rfl)) ?_
         with_reducible refine (network_Oldest.calls _ _ t159 t162 t176 _ ?side1 ?side2 A31.out).mono ?_
         (case side1 => repeat (first | exact (Kd.S_reads' HO_13.out).2.2 | (with_reducible refine Kd.C_alloc ?_ _) | (with_reducible refine Kd.C_drewN ?_ _) | (with_reducible refine Kd.C_drew ?_)))
         (case side2 => exact (Kd.S_reads' HO_13.out).2.1)
         rintro e w43 ⟨rfl, hb⟩
         refine ⟨_, rfl, ?_⟩
         have n0_ := aM (Kd.S_below (by (with_reducible repeat (first | apply Kd.S_alloc | apply Kd.S_drewN | apply Kd.S_drew)); exact HO_13.out) hb)
         have n1_ := aM (Kd.R_below (by (with_reducible repeat (first | apply Kd.R_alloc | apply Kd.R_drewN | apply Kd.R_drew)); exact HO171.out) hb)
         have n2_ := aM (Kd.R_below (by (with_reducible repeat (first | apply Kd.R_alloc | apply Kd.R_drewN | apply Kd.R_drew)); exact HO174.out) hb)
         have n3_ := aM (blk_below (g := gb157) (o := .cells #[.int .i64 x158000_16, .int .i64 x158001_16] 24 (0, 0)) (by (with_reducible repeat (first | refine bN ?_ _ | refine bD ?_ | refine bA ?_ _)); exact BK157.out) hb)
         have n4_ := aM (below_step (by repeat (first | (with_reducible first | exact HB.out | apply wA | apply wN | apply wD | refine below_set ?_ GE157.out) | exact HB.out)) hb)
         clear HO_13
         clear HO171
         clear HO174
         clear BK157
         clear HB
         have HO_13 := n0_
         have HO171 := n1_
         have HO174 := n2_
         have BK157 := n3_
         have HB := n4_
         clear n0_ n1_ n2_ n3_ n4_
         (try clear hb)
         (try clear hb2)
         (try clear hk)
         (try clear hi)
         (try clear hge_)
         refine hK.out _ _ ⟨(blk_cell BK157.out 0).trans rfl, (blk_cell BK157.out 1).trans rfl⟩ (fun hHeld => ?_)
         clear hK K
         refine norm_ (a' := ?_) ?_ ?_
         rotate_left
         ·show Act.put _ (some 78) _ = _
          simp only [Act.put, List.setIfInBounds_toArray, List.set_cons_zero, List.set_cons_succ, i64_w, i32_w]
          rfl
         refine one_ (i := 28) (N := some 81) #[true, true, true, true, true, true, true, true, true, true, true, true, true, true, true, true, true, true, true, true, true, true, true, true, true, true, true, true, true, false, false, false, false, false, false, false, false, false, false, false, false] rfl rfl (one_of HT_.out (by kernel_rfl)) (by decide) (fun K hK => ?_)
         refine goes_ Try.func17 (by kernel_rfl) rfl #[.slice Ao15 t159.length co15, .int .i64 t162] (by rfl) rfl rfl (by (try simp only [List.map_toArray, List.map_cons, List.map_nil]); first | done | rfl | (simp only [List.length_drop, List.length_take]; rfl)) ?_
         with_reducible refine (rollbacknetref14_Oldest.calls kj16 _ _ t159 t162 t177 _ ?side1 ?side2 A32.out).mono ?_
         (case side1 => repeat (first | exact (Kd.S_reads' HO_13.out).2.2 | (with_reducible refine Kd.C_alloc ?_ _) | (with_reducible refine Kd.C_drewN ?_ _) | (with_reducible refine Kd.C_drew ?_)))
         (case side2 => exact (Kd.S_reads' HO_13.out).2.1)
         rintro e w44 ⟨rfl, hb⟩
         refine ⟨_, rfl, ?_⟩
         have n0_ := aM (Kd.S_below (by (with_reducible repeat (first | apply Kd.S_alloc | apply Kd.S_drewN | apply Kd.S_drew)); exact HO_13.out) hb)
         have n1_ := aM (Kd.R_below (by (with_reducible repeat (first | apply Kd.R_alloc | apply Kd.R_drewN | apply Kd.R_drew)); exact HO171.out) hb)
         have n2_ := aM (Kd.R_below (by (with_reducible repeat (first | apply Kd.R_alloc | apply Kd.R_drewN | apply Kd.R_drew)); exact HO174.out) hb)
         have n3_ := aM (blk_below (g := gb157) (o := .cells #[.int .i64 x158000_16, .int .i64 x158001_16] 24 (0, 0)) (by (with_reducible repeat (first | refine bN ?_ _ | refine bD ?_ | refine bA ?_ _)); exact BK157.out) hb)
         have n4_ := aM (below_step (by repeat (first | (with_reducible first | exact HB.out | apply wA | apply wN | apply wD | refine below_set ?_ GE157.out) | exact HB.out)) hb)
         clear HO_13
         clear HO171
         clear HO174
         clear BK157
         clear HB
         have HO_13 := n0_
         have HO171 := n1_
         have HO174 := n2_
         have BK157 := n3_
         have HB := n4_
         clear n0_ n1_ n2_ n3_ n4_
         (try clear hb)
         (try clear hb2)
         (try clear hk)
         (try clear hi)
         (try clear hge_)
         refine hK.out _ _ ⟨(blk_cell BK157.out 0).trans rfl, (blk_cell BK157.out 1).trans rfl⟩ (fun hHeld => ?_)
         clear hK K
         refine norm_ (a' := ?_) ?_ ?_
         rotate_left
         ·show Act.put _ (some 81) _ = _
          simp only [Act.put, List.setIfInBounds_toArray, List.set_cons_zero, List.set_cons_succ, i64_w, i32_w]
          rfl
         refine pure_ (i := 29) (N := some 82) (v := ?_) (a' := ?_) #[true, true, true, true, true, true, true, true, true, true, true, true, true, true, true, true, true, true, true, true, true, true, true, true, true, true, true, true, true, true, false, false, false, false, false, false, false, false, false, false, false] rfl rfl (any_of HT_.out (by kernel_rfl)) (fun _ _ _ h => h) (Or.inl ⟨by rfl, ?_⟩) ?_ ?_
         rotate_left
         ·intro w'
          go_simp
          with_reducible rfl
         rotate_left
         ·simp only [Act.put, List.setIfInBounds_toArray, List.set_cons_zero, List.set_cons_succ, i64_w, i32_w]
          rfl
         refine pure_ (i := 30) (N := some 83) (v := ?_) (a' := ?_) #[true, true, true, true, true, true, true, true, true, true, true, true, true, true, true, true, true, true, true, true, true, true, true, true, true, true, true, true, true, true, true, false, false, false, false, false, false, false, false, false, false] rfl rfl (any_of HT_.out (by kernel_rfl)) (fun _ _ _ h => h) (Or.inl ⟨by rfl, ?_⟩) ?_ ?_
         rotate_left
         ·intro w'
          go_simp
          with_reducible rfl
         rotate_left
         ·simp only [Act.put, List.setIfInBounds_toArray, List.set_cons_zero, List.set_cons_succ, i64_w, i32_w]
          rfl
         refine pure_ (i := 31) (N := some 84) (v := ?_) (a' := ?_) #[true, true, true, true, true, true, true, true, true, true, true, true, true, true, true, true, true, true, true, true, true, true, true, true, true, true, true, true, true, true, true, true, false, false, false, false, false, false, false, false, false] rfl rfl (any_of HT_.out (by kernel_rfl)) (fun _ _ _ h => h) (Or.inl ⟨by rfl, ?_⟩) ?_ ?_
         rotate_left
         ·intro w'
          go_simp
          with_reducible rfl
         rotate_left
         ·simp only [Act.put, List.setIfInBounds_toArray, List.set_cons_zero, List.set_cons_succ, i64_w, i32_w]
          rfl
         refine pure_ (i := 32) (N := some 85) (v := ?_) (a' := ?_) #[true, true, true, true, true, true, true, true, true, true, true, true, true, true, true, true, true, true, true, true, true, true, true, true, true, true, true, true, true, true, true, true, true, false, false, false, false, false, false, false, false] rfl rfl (any_of HT_.out (by kernel_rfl)) (fun _ _ _ h => h) (Or.inl ⟨by rfl, ?_⟩) ?_ ?_
         rotate_left
         ·intro w'
          go_simp
          with_reducible rfl
         rotate_left
         ·simp only [Act.put, List.setIfInBounds_toArray, List.set_cons_zero, List.set_cons_succ, i64_w, i32_w]
          rfl
         refine pure_ (i := 33) (N := some 86) (v := ?_) (a' := ?_) #[true, true, true, true, true, true, true, true, true, true, true, true, true, true, true, true, true, true, true, true, true, true, true, true, true, true, true, true, true, true, true, true, true, true, false, false, false, false, false, false, false] rfl rfl (any_of HT_.out (by kernel_rfl)) (fun _ _ _ h => h) (Or.inl ⟨by rfl, ?_⟩) ?_ ?_
         rotate_left
         ·intro w'
          go_simp
          with_reducible rfl
         rotate_left
         ·simp only [Act.put, List.setIfInBounds_toArray, List.set_cons_zero, List.set_cons_succ, i64_w, i32_w]
          rfl
         refine pure_ (i := 35) (N := some 88) (v := ?_) (a' := ?_) #[true, true, true, true, true, true, true, true, true, true, true, true, true, true, true, true, true, true, true, true, true, true, true, true, true, true, true, true, true, true, true, true, true, true, false, true, false, false, false, false, false] rfl rfl (any_of HT_.out (by kernel_rfl)) (fun _ _ _ h => h) (Or.inl ⟨by rfl, ?_⟩) ?_ ?_
         rotate_left
         ·intro w'
          go_simp
          with_reducible rfl
         rotate_left
         ·simp only [Act.put, List.setIfInBounds_toArray, List.set_cons_zero, List.set_cons_succ, i64_w, i32_w]
          rfl
         refine pure_ (i := 36) (N := some 89) (v := ?_) (a' := ?_) #[true, true, true, true, true, true, true, true, true, true, true, true, true, true, true, true, true, true, true, true, true, true, true, true, true, true, true, true, true, true, true, true, true, true, false, true, true, false, false, false, false] rfl rfl (any_of HT_.out (by kernel_rfl)) (fun _ _ _ h => h) (Or.inl ⟨by rfl, ?_⟩) ?_ ?_
         rotate_left
         ·intro w'
          go_simp
          with_reducible rfl
         rotate_left
         ·simp only [Act.put, List.setIfInBounds_toArray, List.set_cons_zero, List.set_cons_succ, i64_w, i32_w]
          rfl
         refine one_ (i := 34) (N := some 87) #[true, true, true, true, true, true, true, true, true, true, true, true, true, true, true, true, true, true, true, true, true, true, true, true, true, true, true, true, true, true, true, true, true, true, true, true, true, false, false, false, false] rfl rfl (one_of HT_.out (by kernel_rfl)) (by decide) (fun K hK => ?_)
         refine goes_ Try.func16 (by kernel_rfl) rfl #[.slice Ao15 t159.length co15, .int .i64 a3] (by rfl) rfl rfl (by (try simp only [List.map_toArray, List.map_cons, List.map_nil]); first | done | rfl | (simp only [List.length_drop, List.length_take]; rfl)) ?_
         with_reducible refine (network_Oldest.calls _ _ t159 a3 t178 _ ?side1 ?side2 A34.out).mono ?_
         (case side1 => repeat (first | exact (Kd.S_reads' HO_13.out).2.2 | (with_reducible refine Kd.C_alloc ?_ _) | (with_reducible refine Kd.C_drewN ?_ _) | (with_reducible refine Kd.C_drew ?_)))
         (case side2 => exact (Kd.S_reads' HO_13.out).2.1)
         rintro e w45 ⟨rfl, hb⟩
         refine ⟨_, rfl, ?_⟩
         have n0_ := aM (Kd.S_below (by (with_reducible repeat (first | apply Kd.S_alloc | apply Kd.S_drewN | apply Kd.S_drew)); exact HO_13.out) hb)
         have n1_ := aM (Kd.R_below (by (with_reducible repeat (first | apply Kd.R_alloc | apply Kd.R_drewN | apply Kd.R_drew)); exact HO171.out) hb)
         have n2_ := aM (Kd.R_below (by (with_reducible repeat (first | apply Kd.R_alloc | apply Kd.R_drewN | apply Kd.R_drew)); exact HO174.out) hb)
         have n3_ := aM (blk_below (g := gb157) (o := .cells #[.int .i64 x158000_16, .int .i64 x158001_16] 24 (0, 0)) (by (with_reducible repeat (first | refine bN ?_ _ | refine bD ?_ | refine bA ?_ _)); exact BK157.out) hb)
         have n4_ := aM (below_step (by repeat (first | (with_reducible first | exact HB.out | apply wA | apply wN | apply wD | refine below_set ?_ GE157.out) | exact HB.out)) hb)
         clear HO_13
         clear HO171
         clear HO174
         clear BK157
         clear HB
         have HO_13 := n0_
         have HO171 := n1_
         have HO174 := n2_
         have BK157 := n3_
         have HB := n4_
         clear n0_ n1_ n2_ n3_ n4_
         (try clear hb)
         (try clear hb2)
         (try clear hk)
         (try clear hi)
         (try clear hge_)
         refine hK.out _ _ ⟨(blk_cell BK157.out 0).trans rfl, (blk_cell BK157.out 1).trans rfl⟩ (fun hHeld => ?_)
         clear hK K
         refine norm_ (a' := ?_) ?_ ?_
         rotate_left
         ·show Act.put _ (some 87) _ = _
          simp only [Act.put, List.setIfInBounds_toArray, List.set_cons_zero, List.set_cons_succ, i64_w, i32_w]
          rfl
         refine one_ (i := 37) (N := some 90) #[true, true, true, true, true, true, true, true, true, true, true, true, true, true, true, true, true, true, true, true, true, true, true, true, true, true, true, true, true, true, true, true, true, true, true, true, true, true, false, false, false] rfl rfl (one_of HT_.out (by kernel_rfl)) (by decide) (fun K hK => ?_)
         refine goes_ Try.func17 (by kernel_rfl) rfl #[.slice Ao15 t159.length co15, .int .i64 a3] (by rfl) rfl rfl (by (try simp only [List.map_toArray, List.map_cons, List.map_nil]); first | done | rfl | (simp only [List.length_drop, List.length_take]; rfl)) ?_
         with_reducible refine (rollbacknetref14_Oldest.calls kj16 _ _ t159 a3 t179 _ ?side1 ?side2 A35.out).mono ?_
         (case side1 => repeat (first | exact (Kd.S_reads' HO_13.out).2.2 | (with_reducible refine Kd.C_alloc ?_ _) | (with_reducible refine Kd.C_drewN ?_ _) | (with_reducible refine Kd.C_drew ?_)))
         (case side2 => exact (Kd.S_reads' HO_13.out).2.1)
         rintro e w46 ⟨rfl, hb⟩
         refine ⟨_, rfl, ?_⟩
         have n0_ := aM (Kd.S_below (by (with_reducible repeat (first | apply Kd.S_alloc | apply Kd.S_drewN | apply Kd.S_drew)); exact HO_13.out) hb)
         have n1_ := aM (Kd.R_below (by (with_reducible repeat (first | apply Kd.R_alloc | apply Kd.R_drewN | apply Kd.R_drew)); exact HO171.out) hb)
         have n2_ := aM (Kd.R_below (by (with_reducible repeat (first | apply Kd.R_alloc | apply Kd.R_drewN | apply Kd.R_drew)); exact HO174.out) hb)
         have n3_ := aM (blk_below (g := gb157) (o := .cells #[.int .i64 x158000_16, .int .i64 x158001_16] 24 (0, 0)) (by (with_reducible repeat (first | refine bN ?_ _ | refine bD ?_ | refine bA ?_ _)); exact BK157.out) hb)
         have n4_ := aM (below_step (by repeat (first | (with_reducible first | exact HB.out | apply wA | apply wN | apply wD | refine below_set ?_ GE157.out) | exact HB.out)) hb)
         clear HO_13
         clear HO171
         clear HO174
         clear BK157
         clear HB
         have HO_13 := n0_
         have HO171 := n1_
         have HO174 := n2_
         have BK157 := n3_
         have HB := n4_
         clear n0_ n1_ n2_ n3_ n4_
         (try clear hb)
         (try clear hb2)
         (try clear hk)
         (try clear hi)
         (try clear hge_)
         refine hK.out _ _ ⟨(blk_cell BK157.out 0).trans rfl, (blk_cell BK157.out 1).trans rfl⟩ (fun hHeld => ?_)
         clear hK K
         refine norm_ (a' := ?_) ?_ ?_
         rotate_left
         ·show Act.put _ (some 90) _ = _
          simp only [Act.put, List.setIfInBounds_toArray, List.set_cons_zero, List.set_cons_succ, i64_w, i32_w]
          rfl
         refine pure_ (i := 38) (N := some 91) (v := ?_) (a' := ?_) #[true, true, true, true, true, true, true, true, true, true, true, true, true, true, true, true, true, true, true, true, true, true, true, true, true, true, true, true, true, true, true, true, true, true, true, true, true, true, true, false, false] rfl rfl (any_of HT_.out (by kernel_rfl)) (fun _ _ _ h => h) (Or.inl ⟨by rfl, ?_⟩) ?_ ?_
         rotate_left
         ·intro w'
          go_simp
          with_reducible rfl
         rotate_left
         ·simp only [Act.put, List.setIfInBounds_toArray, List.set_cons_zero, List.set_cons_succ, i64_w, i32_w]
          rfl
         refine pure_ (i := 39) (N := some 92) (v := ?_) (a' := ?_) #[true, true, true, true, true, true, true, true, true, true, true, true, true, true, true, true, true, true, true, true, true, true, true, true, true, true, true, true, true, true, true, true, true, true, true, true, true, true, true, true, false] rfl rfl (any_of HT_.out (by kernel_rfl)) (fun _ _ _ h => h) (Or.inl ⟨by rfl, ?_⟩) ?_ ?_
         rotate_left
         ·intro w'
          go_simp
          with_reducible rfl
         rotate_left
         ·simp only [Act.put, List.setIfInBounds_toArray, List.set_cons_zero, List.set_cons_succ, i64_w, i32_w]
          rfl
         refine pure_ (i := 40) (N := some 12) (v := ?_) (a' := ?_) #[true, true, true, true, true, true, true, true, true, true, true, true, true, true, true, true, true, true, true, true, true, true, true, true, true, true, true, true, true, true, true, true, true, true, true, true, true, true, true, true, true] rfl rfl (any_of HT_.out (by kernel_rfl)) (fun _ _ _ h => h) (Or.inl ⟨by rfl, ?_⟩) ?_ ?_
         rotate_left
         ·intro w'
          go_simp
          with_reducible rfl
         rotate_left
         ·simp only [Act.put, List.setIfInBounds_toArray, List.set_cons_zero, List.set_cons_succ, i64_w, i32_w]
          rfl
         refine done_ (done_of HT_.out (by kernel_rfl)) ?_
         try go_wp2
         go_ret
         exact ⟨by first | rfl | (simp [errW_none, errW_some] <;> rfl) | (simp [*, errW_none, errW_some] <;> rfl), by repeat (first | (with_reducible first | exact HB.out | apply wA | apply wN | apply wD | refine below_set ?_ GE157.out) | exact HB.out)⟩
        ·rw [if_neg c33] at H
         have c33b0 : (t176 == t177) = false := beq_eq_false_iff_ne.mpr c33
         have c33b1 : (t176 != t177) = true := bne_iff_ne.mpr c33
         obtain rfl := Option.some.inj H
         try go_wp2
         have n0_ := aM (Kd.S_drew HO_13.out)
         have n1_ := aM (bD BK157.out)
         have n2_ := aM (wD HB.out)
         clear HO_13
         clear BK157
         clear HB
         have HO_13 := n0_
         have BK157 := n1_
         have HB := n2_
         clear n0_ n1_ n2_
         refine start_ (n := 41) (S := fun w' => w'.cell? ⟨gb157, 0, none⟩ = some (.int .i64 x158000_16) ∧ w'.cell? ⟨gb157, 1, none⟩ = some (.int .i64 x158001_16)) (ds := []) #[false, false, false, false, false, false, false, false, false, false, false, false, false, false, false, false, false, false, false, false, false, false, false, false, false, false, false, false, false, false, false, false, false, false, false, false, false, false, false, false, false] (by kernel_rfl) rfl rfl ⟨(blk_cell BK157.out 0).trans rfl, (blk_cell BK157.out 1).trans rfl⟩ (fun hHeld => ?_); refine with_tabW rollbacknetlaw14_NetworkAsks.tab7 rollbacknetlaw14_NetworkAsks.bits7 (fun HT_ HW_ => ?_)
         generalize wc.drew = w47 at HO_13 BK157 HB hHeld ⊢
         refine pure_ (i := 0) (N := some 53) (v := ?_) (a' := ?_) #[true, false, false, false, false, false, false, false, false, false, false, false, false, false, false, false, false, false, false, false, false, false, false, false, false, false, false, false, false, false, false, false, false, false, false, false, false, false, false, false, false] rfl rfl (any_of HT_.out (by kernel_rfl)) (fun _ _ _ h => h) (Or.inl ⟨by rfl, ?_⟩) ?_ ?_
         rotate_left
         ·intro w'
          go_simp
          with_reducible rfl
         rotate_left
         ·simp only [Act.put, List.setIfInBounds_toArray, List.set_cons_zero, List.set_cons_succ, i64_w, i32_w]
          rfl
         refine pure_ (i := 1) (N := some 54) (v := ?_) (a' := ?_) #[true, true, false, false, false, false, false, false, false, false, false, false, false, false, false, false, false, false, false, false, false, false, false, false, false, false, false, false, false, false, false, false, false, false, false, false, false, false, false, false, false] rfl rfl (any_of HT_.out (by kernel_rfl)) (fun _ _ _ h => h) (Or.inl ⟨by rfl, ?_⟩) ?_ ?_
         rotate_left
         ·intro w'
          go_simp
          with_reducible rfl
         rotate_left
         ·simp only [Act.put, List.setIfInBounds_toArray, List.set_cons_zero, List.set_cons_succ, i64_w, i32_w]
          rfl
         refine pure_ (i := 3) (N := some 56) (v := ?_) (a' := ?_) #[true, true, false, true, false, false, false, false, false, false, false, false, false, false, false, false, false, false, false, false, false, false, false, false, false, false, false, false, false, false, false, false, false, false, false, false, false, false, false, false, false] rfl rfl (any_of HT_.out (by kernel_rfl)) (fun _ _ _ h => h) (Or.inl ⟨by rfl, ?_⟩) ?_ ?_
         rotate_left
         ·intro w'
          go_simp
          with_reducible rfl
         rotate_left
         ·simp only [Act.put, List.setIfInBounds_toArray, List.set_cons_zero, List.set_cons_succ, i64_w, i32_w]
          rfl
         refine pure_ (i := 5) (N := some 58) (v := ?_) (a' := ?_) #[true, true, false, true, false, true, false, false, false, false, false, false, false, false, false, false, false, false, false, false, false, false, false, false, false, false, false, false, false, false, false, false, false, false, false, false, false, false, false, false, false] rfl rfl (any_of HT_.out (by kernel_rfl)) (fun _ _ _ h => h) (Or.inl ⟨by rfl, ?_⟩) ?_ ?_
         rotate_left
         ·intro w'
          go_simp
          with_reducible rfl
         rotate_left
         ·simp only [Act.put, List.setIfInBounds_toArray, List.set_cons_zero, List.set_cons_succ, i64_w, i32_w]
          rfl
         refine pure_ (i := 6) (N := some 59) (v := ?_) (a' := ?_) #[true, true, false, true, false, true, true, false, false, false, false, false, false, false, false, false, false, false, false, false, false, false, false, false, false, false, false, false, false, false, false, false, false, false, false, false, false, false, false, false, false] rfl rfl (any_of HT_.out (by kernel_rfl)) (fun _ _ _ h => h) (Or.inl ⟨by rfl, ?_⟩) ?_ ?_
         rotate_left
         ·intro w'
          go_simp
          with_reducible rfl
         rotate_left
         ·simp only [Act.put, List.setIfInBounds_toArray, List.set_cons_zero, List.set_cons_succ, i64_w, i32_w]
          rfl
         refine pure_ (i := 8) (N := some 61) (v := ?_) (a' := ?_) #[true, true, false, true, false, true, true, false, true, false, false, false, false, false, false, false, false, false, false, false, false, false, false, false, false, false, false, false, false, false, false, false, false, false, false, false, false, false, false, false, false] rfl rfl (any_of HT_.out (by kernel_rfl)) (fun _ _ _ h => h) (Or.inl ⟨by rfl, ?_⟩) ?_ ?_
         rotate_left
         ·intro w'
          go_simp
          with_reducible rfl
         rotate_left
         ·simp only [Act.put, List.setIfInBounds_toArray, List.set_cons_zero, List.set_cons_succ, i64_w, i32_w]
          rfl
         refine take_ (i := 2) (N := some 55) (v := ?_) (a' := ?_) #[true, true, true, true, false, true, true, false, true, false, false, false, false, false, false, false, false, false, false, false, false, false, false, false, false, false, false, false, false, false, false, false, false, false, false, false, false, false, false, false, false] rfl rfl (take_ofW HT_.out HW_.out (by kernel_rfl)) (fun _ _ _ h => h) (Or.inl ⟨by rfl, ?_⟩) hHeld ?_ ?_
         rotate_left
         ·rintro w' ⟨s0, s1⟩
          go_simp
          with_reducible rfl
         rotate_left
         ·simp only [Act.put, List.setIfInBounds_toArray, List.set_cons_zero, List.set_cons_succ, i64_w, i32_w]
          rfl
         refine take_ (i := 7) (N := some 60) (v := ?_) (a' := ?_) #[true, true, true, true, false, true, true, true, true, false, false, false, false, false, false, false, false, false, false, false, false, false, false, false, false, false, false, false, false, false, false, false, false, false, false, false, false, false, false, false, false] rfl rfl (take_ofW HT_.out HW_.out (by kernel_rfl)) (fun _ _ _ h => h) (Or.inl ⟨by rfl, ?_⟩) hHeld ?_ ?_
         rotate_left
         ·rintro w' ⟨s0, s1⟩
          go_simp
          with_reducible rfl
         rotate_left
         ·simp only [Act.put, List.setIfInBounds_toArray, List.set_cons_zero, List.set_cons_succ, i64_w, i32_w]
          rfl
         refine one_ (i := 4) (N := some 57) #[true, true, true, true, true, true, true, true, true, false, false, false, false, false, false, false, false, false, false, false, false, false, false, false, false, false, false, false, false, false, false, false, false, false, false, false, false, false, false, false, false] rfl rfl (one_of HT_.out (by kernel_rfl)) (by decide) (fun K hK => ?_)
         refine goes_ Try.func11 (by kernel_rfl) rfl #[.slice Ao15 t159.length co15, .int .i64 x1_16, .agg #[.int .i64 x158000_16, .int .i64 x158001_16], .int .i64 x5_16] (by rfl) rfl rfl (by (try simp only [List.map_toArray, List.map_cons, List.map_nil]); first | done | rfl | (simp only [List.length_drop, List.length_take]; rfl)) ?_
         with_reducible refine (network_Find.calls _ _ t159 x1_16 x158000_16 x158001_16 x5_16 t167 _ ?side1 ?side2 A24.out).mono ?_
         (case side1 => repeat (first | exact (Kd.S_reads' HO_13.out).2.2 | (with_reducible refine Kd.C_alloc ?_ _) | (with_reducible refine Kd.C_drewN ?_ _) | (with_reducible refine Kd.C_drew ?_)))
         (case side2 => exact (Kd.S_reads' HO_13.out).2.1)
         rintro e w48 ⟨rfl, hb⟩
         refine ⟨_, rfl, ?_⟩
         have n0_ := aM (Kd.S_below (by (with_reducible repeat (first | apply Kd.S_alloc | apply Kd.S_drewN | apply Kd.S_drew)); exact HO_13.out) hb)
         have n1_ := aM (blk_below (g := gb157) (o := .cells #[.int .i64 x158000_16, .int .i64 x158001_16] 24 (0, 0)) (by (with_reducible repeat (first | refine bN ?_ _ | refine bD ?_ | refine bA ?_ _)); exact BK157.out) hb)
         have n2_ := aM (below_step (by repeat (first | (with_reducible first | exact HB.out | apply wA | apply wN | apply wD | refine below_set ?_ GE157.out) | exact HB.out)) hb)
         clear HO_13
         clear BK157
         clear HB
         have HO_13 := n0_
         have BK157 := n1_
         have HB := n2_
         clear n0_ n1_ n2_
         (try clear hb)
         (try clear hb2)
         (try clear hk)
         (try clear hi)
         (try clear hge_)
         refine hK.out _ _ ⟨(blk_cell BK157.out 0).trans rfl, (blk_cell BK157.out 1).trans rfl⟩ (fun hHeld => ?_)
         clear hK K
         refine norm_ (a' := ?_) ?_ ?_
         rotate_left
         ·show Act.put _ (some 57) _ = _
          simp only [Act.put, List.setIfInBounds_toArray, List.set_cons_zero, List.set_cons_succ, i64_w, i32_w]
          rfl
         refine one_ (i := 9) (N := some 62) #[true, true, true, true, true, true, true, true, true, true, false, false, false, false, false, false, false, false, false, false, false, false, false, false, false, false, false, false, false, false, false, false, false, false, false, false, false, false, false, false, false] rfl rfl (one_of HT_.out (by kernel_rfl)) (by decide) (fun K hK => ?_)
         refine goes_ Try.func12 (by kernel_rfl) rfl #[.slice Ao15 t159.length co15, .int .i64 x1_16, .agg #[.int .i64 x158000_16, .int .i64 x158001_16], .int .i64 x5_16] (by rfl) rfl rfl (by (try simp only [List.map_toArray, List.map_cons, List.map_nil]); first | done | rfl | (simp only [List.length_drop, List.length_take]; rfl)) ?_
         with_reducible refine (rollbacknetref14_Find.calls kj16 _ _ t159 x1_16 x158000_16 x158001_16 x5_16 t168 _ ?side1 ?side2 A25.out).mono ?_
         (case side1 => repeat (first | exact (Kd.S_reads' HO_13.out).2.2 | (with_reducible refine Kd.C_alloc ?_ _) | (with_reducible refine Kd.C_drewN ?_ _) | (with_reducible refine Kd.C_drew ?_)))
         (case side2 => exact (Kd.S_reads' HO_13.out).2.1)
         rintro e w49 ⟨rfl, hb⟩
         refine ⟨_, rfl, ?_⟩
         have n0_ := aM (Kd.S_below (by (with_reducible repeat (first | apply Kd.S_alloc | apply Kd.S_drewN | apply Kd.S_drew)); exact HO_13.out) hb)
         have n1_ := aM (blk_below (g := gb157) (o := .cells #[.int .i64 x158000_16, .int .i64 x158001_16] 24 (0, 0)) (by (with_reducible repeat (first | refine bN ?_ _ | refine bD ?_ | refine bA ?_ _)); exact BK157.out) hb)
         have n2_ := aM (below_step (by repeat (first | (with_reducible first | exact HB.out | apply wA | apply wN | apply wD | refine below_set ?_ GE157.out) | exact HB.out)) hb)
         clear HO_13
         clear BK157
         clear HB
         have HO_13 := n0_
         have BK157 := n1_
         have HB := n2_
         clear n0_ n1_ n2_
         (try clear hb)
         (try clear hb2)
         (try clear hk)
         (try clear hi)
         (try clear hge_)
         refine hK.out _ _ ⟨(blk_cell BK157.out 0).trans rfl, (blk_cell BK157.out 1).trans rfl⟩ (fun hHeld => ?_)
         clear hK K
         refine norm_ (a' := ?_) ?_ ?_
         rotate_left
         ·show Act.put _ (some 62) _ = _
          simp only [Act.put, List.setIfInBounds_toArray, List.set_cons_zero, List.set_cons_succ, i64_w, i32_w]
          rfl
         refine pure_ (i := 10) (N := some 63) (v := ?_) (a' := ?_) #[true, true, true, true, true, true, true, true, true, true, true, false, false, false, false, false, false, false, false, false, false, false, false, false, false, false, false, false, false, false, false, false, false, false, false, false, false, false, false, false, false] rfl rfl (any_of HT_.out (by kernel_rfl)) (fun _ _ _ h => h) (Or.inl ⟨by rfl, ?_⟩) ?_ ?_
         rotate_left
         ·intro w'
          go_simp
          with_reducible rfl
         rotate_left
         ·simp only [Act.put, List.setIfInBounds_toArray, List.set_cons_zero, List.set_cons_succ, i64_w, i32_w]
          rfl
         refine pure_ (i := 11) (N := some 64) (v := ?_) (a' := ?_) #[true, true, true, true, true, true, true, true, true, true, true, true, false, false, false, false, false, false, false, false, false, false, false, false, false, false, false, false, false, false, false, false, false, false, false, false, false, false, false, false, false] rfl rfl (any_of HT_.out (by kernel_rfl)) (fun _ _ _ h => h) (Or.inl ⟨by rfl, ?_⟩) ?_ ?_
         rotate_left
         ·intro w'
          go_simp
          with_reducible rfl
         rotate_left
         ·simp only [Act.put, List.setIfInBounds_toArray, List.set_cons_zero, List.set_cons_succ, i64_w, i32_w]
          rfl
         refine pure_ (i := 12) (N := some 65) (v := ?_) (a' := ?_) #[true, true, true, true, true, true, true, true, true, true, true, true, true, false, false, false, false, false, false, false, false, false, false, false, false, false, false, false, false, false, false, false, false, false, false, false, false, false, false, false, false] rfl rfl (any_of HT_.out (by kernel_rfl)) (fun _ _ _ h => h) (Or.inl ⟨by rfl, ?_⟩) ?_ ?_
         rotate_left
         ·intro w'
          go_simp
          with_reducible rfl
         rotate_left
         ·simp only [Act.put, List.setIfInBounds_toArray, List.set_cons_zero, List.set_cons_succ, i64_w, i32_w]
          rfl
         refine pure_ (i := 13) (N := some 66) (v := ?_) (a' := ?_) #[true, true, true, true, true, true, true, true, true, true, true, true, true, true, false, false, false, false, false, false, false, false, false, false, false, false, false, false, false, false, false, false, false, false, false, false, false, false, false, false, false] rfl rfl (any_of HT_.out (by kernel_rfl)) (fun _ _ _ h => h) (Or.inl ⟨by rfl, ?_⟩) ?_ ?_
         rotate_left
         ·intro w'
          go_simp
          with_reducible rfl
         rotate_left
         ·simp only [Act.put, List.setIfInBounds_toArray, List.set_cons_zero, List.set_cons_succ, i64_w, i32_w]
          rfl
         refine pure_ (i := 14) (N := some 67) (v := ?_) (a' := ?_) #[true, true, true, true, true, true, true, true, true, true, true, true, true, true, true, false, false, false, false, false, false, false, false, false, false, false, false, false, false, false, false, false, false, false, false, false, false, false, false, false, false] rfl rfl (any_of HT_.out (by kernel_rfl)) (fun _ _ _ h => h) (Or.inl ⟨by rfl, ?_⟩) ?_ ?_
         rotate_left
         ·intro w'
          go_simp
          with_reducible rfl
         rotate_left
         ·simp only [Act.put, List.setIfInBounds_toArray, List.set_cons_zero, List.set_cons_succ, i64_w, i32_w]
          rfl
         refine pure_ (i := 16) (N := some 69) (v := ?_) (a' := ?_) #[true, true, true, true, true, true, true, true, true, true, true, true, true, true, true, false, true, false, false, false, false, false, false, false, false, false, false, false, false, false, false, false, false, false, false, false, false, false, false, false, false] rfl rfl (any_of HT_.out (by kernel_rfl)) (fun _ _ _ h => h) (Or.inl ⟨by rfl, ?_⟩) ?_ ?_
         rotate_left
         ·intro w'
          go_simp
          with_reducible rfl
         rotate_left
         ·simp only [Act.put, List.setIfInBounds_toArray, List.set_cons_zero, List.set_cons_succ, i64_w, i32_w]
          rfl
         refine pure_ (i := 17) (N := some 70) (v := ?_) (a' := ?_) #[true, true, true, true, true, true, true, true, true, true, true, true, true, true, true, false, true, true, false, false, false, false, false, false, false, false, false, false, false, false, false, false, false, false, false, false, false, false, false, false, false] rfl rfl (any_of HT_.out (by kernel_rfl)) (fun _ _ _ h => h) (Or.inl ⟨by rfl, ?_⟩) ?_ ?_
         rotate_left
         ·intro w'
          go_simp
          with_reducible rfl
         rotate_left
         ·simp only [Act.put, List.setIfInBounds_toArray, List.set_cons_zero, List.set_cons_succ, i64_w, i32_w]
          rfl
         refine pure_ (i := 18) (N := some 71) (v := ?_) (a' := ?_) #[true, true, true, true, true, true, true, true, true, true, true, true, true, true, true, false, true, true, true, false, false, false, false, false, false, false, false, false, false, false, false, false, false, false, false, false, false, false, false, false, false] rfl rfl (any_of HT_.out (by kernel_rfl)) (fun _ _ _ h => h) (Or.inl ⟨by rfl, ?_⟩) ?_ ?_
         rotate_left
         ·intro w'
          go_simp
          with_reducible rfl
         rotate_left
         ·simp only [Act.put, List.setIfInBounds_toArray, List.set_cons_zero, List.set_cons_succ, i64_w, i32_w]
          rfl
         refine one_ (i := 15) (N := some 68) #[true, true, true, true, true, true, true, true, true, true, true, true, true, true, true, true, true, true, true, false, false, false, false, false, false, false, false, false, false, false, false, false, false, false, false, false, false, false, false, false, false] rfl rfl (one_of HT_.out (by kernel_rfl)) (by decide) (fun K hK => ?_)
         refine goes_ Try.func14 (by kernel_rfl) rfl #[.slice Ao15 t159.length co15, .int .i64 x1_16, .int .i64 x2_16] (by rfl) rfl rfl (by (try simp only [List.map_toArray, List.map_cons, List.map_nil]); first | done | rfl | (simp only [List.length_drop, List.length_take]; rfl)) ?_
         with_reducible refine (network_Channel.calls _ _ t159 x1_16 x2_16 t169 _ ?side1 ?side2 A27.out).mono ?_
         (case side1 => repeat (first | exact (Kd.S_reads' HO_13.out).2.2 | (with_reducible refine Kd.C_alloc ?_ _) | (with_reducible refine Kd.C_drewN ?_ _) | (with_reducible refine Kd.C_drew ?_)))
         (case side2 => exact (Kd.S_reads' HO_13.out).2.1)
         rintro e w50 ⟨v170, rfl, ho0, hb⟩
         refine ⟨_, rfl, ?_⟩
         have n0_ := aM (Kd.S_elder' (by (with_reducible repeat (first | apply Kd.S_alloc | apply Kd.S_drewN | apply Kd.S_drew)); exact HO_13.out) (Kd.R_base ho0) hb)
         have n1_ := aM (Kd.R_lower ho0 (below_size (by repeat (first | (with_reducible first | exact HB.out | apply wA | apply wN | apply wD | refine below_set ?_ GE157.out) | exact HB.out))))
         have n2_ := aM (blk_below (g := gb157) (o := .cells #[.int .i64 x158000_16, .int .i64 x158001_16] 24 (0, 0)) (by (with_reducible repeat (first | refine bN ?_ _ | refine bD ?_ | refine bA ?_ _)); exact BK157.out) hb)
         have n3_ := aM (below_step (by repeat (first | (with_reducible first | exact HB.out | apply wA | apply wN | apply wD | refine below_set ?_ GE157.out) | exact HB.out)) hb)
         clear HO_13
         clear BK157
         clear HB
         have HO_13 := n0_
         have HO171 := n1_
         have BK157 := n2_
         have HB := n3_
         clear n0_ n1_ n2_ n3_
         (try clear hb)
         (try clear hb2)
         (try clear hk)
         (try clear hi)
         (try clear hge_)
         (try clear ho0)
         refine hK.out _ _ ⟨(blk_cell BK157.out 0).trans rfl, (blk_cell BK157.out 1).trans rfl⟩ (fun hHeld => ?_)
         clear hK K
         refine norm_ (a' := ?_) ?_ ?_
         rotate_left
         ·show Act.put _ (some 68) _ = _
          simp only [Act.put, List.setIfInBounds_toArray, List.set_cons_zero, List.set_cons_succ, i64_w, i32_w]
          rfl
         refine one_ (i := 19) (N := some 72) #[true, true, true, true, true, true, true, true, true, true, true, true, true, true, true, true, true, true, true, true, false, false, false, false, false, false, false, false, false, false, false, false, false, false, false, false, false, false, false, false, false] rfl rfl (one_of HT_.out (by kernel_rfl)) (by decide) (fun K hK => ?_)
         refine goes_ Try.func15 (by kernel_rfl) rfl #[.slice Ao15 t159.length co15, .int .i64 x1_16, .int .i64 x2_16] (by rfl) rfl rfl (by (try simp only [List.map_toArray, List.map_cons, List.map_nil]); first | done | rfl | (simp only [List.length_drop, List.length_take]; rfl)) ?_
         with_reducible refine (rollbacknetref14_Channel.calls kj16 _ _ t159 x1_16 x2_16 t172 _ ?side1 ?side2 A28.out).mono ?_
         (case side1 => repeat (first | exact (Kd.S_reads' HO_13.out).2.2 | (with_reducible refine Kd.C_alloc ?_ _) | (with_reducible refine Kd.C_drewN ?_ _) | (with_reducible refine Kd.C_drew ?_)))
         (case side2 => exact (Kd.S_reads' HO_13.out).2.1)
         rintro e w51 ⟨v173, rfl, ho0, hb⟩
         refine ⟨_, rfl, ?_⟩
         have n0_ := aM (Kd.S_elder' (by (with_reducible repeat (first | apply Kd.S_alloc | apply Kd.S_drewN | apply Kd.S_drew)); exact HO_13.out) (Kd.R_base ho0) hb)
         have n1_ := aM (Kd.R_elder' (by (with_reducible repeat (first | apply Kd.R_alloc | apply Kd.R_drewN | apply Kd.R_drew)); exact HO171.out) (Kd.R_base ho0) hb)
         have n2_ := aM (Kd.R_lower (Kd.R_new' ho0 (Kd.R_lt (by (with_reducible repeat (first | apply Kd.R_alloc | apply Kd.R_drewN | apply Kd.R_drew)); exact HO171.out))) (below_size (by repeat (first | (with_reducible first | exact HB.out | apply wA | apply wN | apply wD | refine below_set ?_ GE157.out) | exact HB.out))))
         have n3_ := aM (blk_below (g := gb157) (o := .cells #[.int .i64 x158000_16, .int .i64 x158001_16] 24 (0, 0)) (by (with_reducible repeat (first | refine bN ?_ _ | refine bD ?_ | refine bA ?_ _)); exact BK157.out) hb)
         have n4_ := aM (below_step (by repeat (first | (with_reducible first | exact HB.out | apply wA | apply wN | apply wD | refine below_set ?_ GE157.out) | exact HB.out)) hb)
         clear HO_13
         clear HO171
         clear BK157
         clear HB
         have HO_13 := n0_
         have HO171 := n1_
         have HO174 := n2_
         have BK157 := n3_
         have HB := n4_
         clear n0_ n1_ n2_ n3_ n4_
         (try clear hb)
         (try clear hb2)
         (try clear hk)
         (try clear hi)
         (try clear hge_)
         (try clear ho0)
         obtain ⟨Ao52, co52, eo52⟩ := Kd.R_slice HO171.out
         (first | subst eo52 | (injection eo52 with f1_ f2_ f3_; have f4_ := f1_.symm; have f5_ := f3_.symm; clear f1_ f2_ f3_; subst f4_; subst f5_))
         obtain ⟨Ao53, co53, eo53⟩ := Kd.R_slice HO174.out
         (first | subst eo53 | (injection eo53 with f1_ f2_ f3_; have f4_ := f1_.symm; have f5_ := f3_.symm; clear f1_ f2_ f3_; subst f4_; subst f5_))
         refine hK.out _ _ ⟨(blk_cell BK157.out 0).trans rfl, (blk_cell BK157.out 1).trans rfl⟩ (fun hHeld => ?_)
         clear hK K
         refine norm_ (a' := ?_) ?_ ?_
         rotate_left
         ·show Act.put _ (some 72) _ = _
          simp only [Act.put, List.setIfInBounds_toArray, List.set_cons_zero, List.set_cons_succ, i64_w, i32_w]
          rfl
         refine one_ (i := 20) (N := some 73) #[true, true, true, true, true, true, true, true, true, true, true, true, true, true, true, true, true, true, true, true, true, false, false, false, false, false, false, false, false, false, false, false, false, false, false, false, false, false, false, false, false] rfl rfl (one_of HT_.out (by kernel_rfl)) (by decide) (fun K hK => ?_)
         refine goes_ Try.func13 (by kernel_rfl) rfl #[.slice Ao52 t169.length co52, .slice Ao53 t172.length co53] (by rfl) rfl rfl (by (try simp only [List.map_toArray, List.map_cons, List.map_nil]); first | done | rfl | (simp only [List.length_drop, List.length_take]; rfl)) ?_
         with_reducible refine (rollbacknetref03_SameInts.calls kj16 _ _ t169 _ _ t172 true _ ?side1 ?side2 ?side3 ?side4 A29.out).mono ?_
         (case side1 => repeat (first | exact (Kd.R_reads' HO171.out).2.2 | (with_reducible refine Kd.C_alloc ?_ _) | (with_reducible refine Kd.C_drewN ?_ _) | (with_reducible refine Kd.C_drew ?_)))
         (case side2 => exact (Kd.R_reads' HO171.out).2.1)
         (case side3 => repeat (first | exact (Kd.R_reads' HO174.out).2.2 | (with_reducible refine Kd.C_alloc ?_ _) | (with_reducible refine Kd.C_drewN ?_ _) | (with_reducible refine Kd.C_drew ?_)))
         (case side4 => exact (Kd.R_reads' HO174.out).2.1)
         rintro e w' ⟨rfl, ⟨nd, rfl⟩⟩
         refine ⟨_, rfl, ?_⟩
         refine hK.out _ _ ⟨(blk_cell BK157.out 0).trans rfl, (blk_cell BK157.out 1).trans rfl⟩ (fun hHeld => ?_)
         clear hK K
         refine norm_ (a' := ?_) ?_ ?_
         rotate_left
         ·show Act.put _ (some 73) _ = _
          simp only [Act.put, List.setIfInBounds_toArray, List.set_cons_zero, List.set_cons_succ, i64_w, i32_w]
          rfl
         refine pure_ (i := 21) (N := some 74) (v := ?_) (a' := ?_) #[true, true, true, true, true, true, true, true, true, true, true, true, true, true, true, true, true, true, true, true, true, true, false, false, false, false, false, false, false, false, false, false, false, false, false, false, false, false, false, false, false] rfl rfl (any_of HT_.out (by kernel_rfl)) (fun _ _ _ h => h) (Or.inl ⟨by rfl, ?_⟩) ?_ ?_
         rotate_left
         ·intro w'
          go_simp
          with_reducible rfl
         rotate_left
         ·simp only [Act.put, List.setIfInBounds_toArray, List.set_cons_zero, List.set_cons_succ, i64_w, i32_w]
          rfl
         refine pure_ (i := 22) (N := some 75) (v := ?_) (a' := ?_) #[true, true, true, true, true, true, true, true, true, true, true, true, true, true, true, true, true, true, true, true, true, true, true, false, false, false, false, false, false, false, false, false, false, false, false, false, false, false, false, false, false] rfl rfl (any_of HT_.out (by kernel_rfl)) (fun _ _ _ h => h) (Or.inl ⟨by rfl, ?_⟩) ?_ ?_
         rotate_left
         ·intro w'
          go_simp
          with_reducible rfl
         rotate_left
         ·simp only [Act.put, List.setIfInBounds_toArray, List.set_cons_zero, List.set_cons_succ, i64_w, i32_w]
          rfl
         refine pure_ (i := 23) (N := some 76) (v := ?_) (a' := ?_) #[true, true, true, true, true, true, true, true, true, true, true, true, true, true, true, true, true, true, true, true, true, true, true, true, false, false, false, false, false, false, false, false, false, false, false, false, false, false, false, false, false] rfl rfl (any_of HT_.out (by kernel_rfl)) (fun _ _ _ h => h) (Or.inl ⟨by rfl, ?_⟩) ?_ ?_
         rotate_left
         ·intro w'
          go_simp
          with_reducible rfl
         rotate_left
         ·simp only [Act.put, List.setIfInBounds_toArray, List.set_cons_zero, List.set_cons_succ, i64_w, i32_w]
          rfl
         refine pure_ (i := 24) (N := some 77) (v := ?_) (a' := ?_) #[true, true, true, true, true, true, true, true, true, true, true, true, true, true, true, true, true, true, true, true, true, true, true, true, true, false, false, false, false, false, false, false, false, false, false, false, false, false, false, false, false] rfl rfl (any_of HT_.out (by kernel_rfl)) (fun _ _ _ h => h) (Or.inl ⟨by rfl, ?_⟩) ?_ ?_
         rotate_left
         ·intro w'
          go_simp
          with_reducible rfl
         rotate_left
         ·simp only [Act.put, List.setIfInBounds_toArray, List.set_cons_zero, List.set_cons_succ, i64_w, i32_w]
          rfl
         refine pure_ (i := 26) (N := some 79) (v := ?_) (a' := ?_) #[true, true, true, true, true, true, true, true, true, true, true, true, true, true, true, true, true, true, true, true, true, true, true, true, true, false, true, false, false, false, false, false, false, false, false, false, false, false, false, false, false] rfl rfl (any_of HT_.out (by kernel_rfl)) (fun _ _ _ h => h) (Or.inl ⟨by rfl, ?_⟩) ?_ ?_
         rotate_left
         ·intro w'
          go_simp
          with_reducible rfl
         rotate_left
         ·simp only [Act.put, List.setIfInBounds_toArray, List.set_cons_zero, List.set_cons_succ, i64_w, i32_w]
          rfl
         refine pure_ (i := 27) (N := some 80) (v := ?_) (a' := ?_) #[true, true, true, true, true, true, true, true, true, true, true, true, true, true, true, true, true, true, true, true, true, true, true, true, true, false, true, true, false, false, false, false, false, false, false, false, false, false, false, false, false] rfl rfl (any_of HT_.out (by kernel_rfl)) (fun _ _ _ h => h) (Or.inl ⟨by rfl, ?_⟩) ?_ ?_
         rotate_left
         ·intro w'
          go_simp
          with_reducible rfl
         rotate_left
         ·simp only [Act.put, List.setIfInBounds_toArray, List.set_cons_zero, List.set_cons_succ, i64_w, i32_w]
          rfl
         refine one_ (i := 25) (N := some 78) #[true, true, true, true, true, true, true, true, true, true, true, true, true, true, true, true, true, true, true, true, true, true, true, true, true, true, true, true, false, false, false, false, false, false, false, false, false, false, false, false, false] rfl rfl (one_of HT_.out (by kernel_rfl)) (by decide) (fun K hK => ?_)
         refine goes_ Try.func16 (by kernel_rfl) rfl #[.slice Ao15 t159.length co15, .int .i64 t162] (by rfl) rfl rfl (by (try simp only [List.map_toArray, List.map_cons, List.map_nil]); first | done | rfl | (simp only [List.length_drop, List.length_take]; rfl)) ?_
         with_reducible refine (network_Oldest.calls _ _ t159 t162 t176 _ ?side1 ?side2 A31.out).mono ?_
         (case side1 => repeat (first | exact (Kd.S_reads' HO_13.out).2.2 | (with_reducible refine Kd.C_alloc ?_ _) | (with_reducible refine Kd.C_drewN ?_ _) | (with_reducible refine Kd.C_drew ?_)))
         (case side2 => exact (Kd.S_reads' HO_13.out).2.1)
         rintro e w54 ⟨rfl, hb⟩
         refine ⟨_, rfl, ?_⟩
         have n0_ := aM (Kd.S_below (by (with_reducible repeat (first | apply Kd.S_alloc | apply Kd.S_drewN | apply Kd.S_drew)); exact HO_13.out) hb)
         have n1_ := aM (Kd.R_below (by (with_reducible repeat (first | apply Kd.R_alloc | apply Kd.R_drewN | apply Kd.R_drew)); exact HO171.out) hb)
         have n2_ := aM (Kd.R_below (by (with_reducible repeat (first | apply Kd.R_alloc | apply Kd.R_drewN | apply Kd.R_drew)); exact HO174.out) hb)
         have n3_ := aM (blk_below (g := gb157) (o := .cells #[.int .i64 x158000_16, .int .i64 x158001_16] 24 (0, 0)) (by (with_reducible repeat (first | refine bN ?_ _ | refine bD ?_ | refine bA ?_ _)); exact BK157.out) hb)
         have n4_ := aM (below_step (by repeat (first | (with_reducible first | exact HB.out | apply wA | apply wN | apply wD | refine below_set ?_ GE157.out) | exact HB.out)) hb)
         clear HO_13
         clear HO171
         clear HO174
         clear BK157
         clear HB
         have HO_13 := n0_
         have HO171 := n1_
         have HO174 := n2_
         have BK157 := n3_
         have HB := n4_
         clear n0_ n1_ n2_ n3_ n4_
         (try clear hb)
         (try clear hb2)
         (try clear hk)
         (try clear hi)
         (try clear hge_)
         refine hK.out _ _ ⟨(blk_cell BK157.out 0).trans rfl, (blk_cell BK157.out 1).trans rfl⟩ (fun hHeld => ?_)
         clear hK K
         refine norm_ (a' := ?_) ?_ ?_
         rotate_left
         ·show Act.put _ (some 78) _ = _
          simp only [Act.put, List.setIfInBounds_toArray, List.set_cons_zero, List.set_cons_succ, i64_w, i32_w]
          rfl
         refine one_ (i := 28) (N := some 81) #[true, true, true, true, true, true, true, true, true, true, true, true, true, true, true, true, true, true, true, true, true, true, true, true, true, true, true, true, true, false, false, false, false, false, false, false, false, false, false, false, false] rfl rfl (one_of HT_.out (by kernel_rfl)) (by decide) (fun K hK => ?_)
         refine goes_ Try.func17 (by kernel_rfl) rfl #[.slice Ao15 t159.length co15, .int .i64 t162] (by rfl) rfl rfl (by (try simp only [List.map_toArray, List.map_cons, List.map_nil]); first | done | rfl | (simp only [List.length_drop, List.length_take]; rfl)) ?_
         with_reducible refine (rollbacknetref14_Oldest.calls kj16 _ _ t159 t162 t177 _ ?side1 ?side2 A32.out).mono ?_
         (case side1 => repeat (first | exact (Kd.S_reads' HO_13.out).2.2 | (with_reducible refine Kd.C_alloc ?_ _) | (with_reducible refine Kd.C_drewN ?_ _) | (with_reducible refine Kd.C_drew ?_)))
         (case side2 => exact (Kd.S_reads' HO_13.out).2.1)
         rintro e w55 ⟨rfl, hb⟩
         refine ⟨_, rfl, ?_⟩
         have n0_ := aM (Kd.S_below (by (with_reducible repeat (first | apply Kd.S_alloc | apply Kd.S_drewN | apply Kd.S_drew)); exact HO_13.out) hb)
         have n1_ := aM (Kd.R_below (by (with_reducible repeat (first | apply Kd.R_alloc | apply Kd.R_drewN | apply Kd.R_drew)); exact HO171.out) hb)
         have n2_ := aM (Kd.R_below (by (with_reducible repeat (first | apply Kd.R_alloc | apply Kd.R_drewN | apply Kd.R_drew)); exact HO174.out) hb)
         have n3_ := aM (blk_below (g := gb157) (o := .cells #[.int .i64 x158000_16, .int .i64 x158001_16] 24 (0, 0)) (by (with_reducible repeat (first | refine bN ?_ _ | refine bD ?_ | refine bA ?_ _)); exact BK157.out) hb)
         have n4_ := aM (below_step (by repeat (first | (with_reducible first | exact HB.out | apply wA | apply wN | apply wD | refine below_set ?_ GE157.out) | exact HB.out)) hb)
         clear HO_13
         clear HO171
         clear HO174
         clear BK157
         clear HB
         have HO_13 := n0_
         have HO171 := n1_
         have HO174 := n2_
         have BK157 := n3_
         have HB := n4_
         clear n0_ n1_ n2_ n3_ n4_
         (try clear hb)
         (try clear hb2)
         (try clear hk)
         (try clear hi)
         (try clear hge_)
         refine hK.out _ _ ⟨(blk_cell BK157.out 0).trans rfl, (blk_cell BK157.out 1).trans rfl⟩ (fun hHeld => ?_)
         clear hK K
         refine norm_ (a' := ?_) ?_ ?_
         rotate_left
         ·show Act.put _ (some 81) _ = _
          simp only [Act.put, List.setIfInBounds_toArray, List.set_cons_zero, List.set_cons_succ, i64_w, i32_w]
          rfl
         refine pure_ (i := 29) (N := some 82) (v := ?_) (a' := ?_) #[true, true, true, true, true, true, true, true, true, true, true, true, true, true, true, true, true, true, true, true, true, true, true, true, true, true, true, true, true, true, false, false, false, false, false, false, false, false, false, false, false] rfl rfl (any_of HT_.out (by kernel_rfl)) (fun _ _ _ h => h) (Or.inl ⟨by rfl, ?_⟩) ?_ ?_
         rotate_left
         ·intro w'
          go_simp
          with_reducible rfl
         rotate_left
         ·simp only [Act.put, List.setIfInBounds_toArray, List.set_cons_zero, List.set_cons_succ, i64_w, i32_w]
          rfl
         refine pure_ (i := 30) (N := some 83) (v := ?_) (a' := ?_) #[true, true, true, true, true, true, true, true, true, true, true, true, true, true, true, true, true, true, true, true, true, true, true, true, true, true, true, true, true, true, true, false, false, false, false, false, false, false, false, false, false] rfl rfl (any_of HT_.out (by kernel_rfl)) (fun _ _ _ h => h) (Or.inl ⟨by rfl, ?_⟩) ?_ ?_
         rotate_left
         ·intro w'
          go_simp
          with_reducible rfl
         rotate_left
         ·simp only [Act.put, List.setIfInBounds_toArray, List.set_cons_zero, List.set_cons_succ, i64_w, i32_w]
          rfl
         refine pure_ (i := 31) (N := some 84) (v := ?_) (a' := ?_) #[true, true, true, true, true, true, true, true, true, true, true, true, true, true, true, true, true, true, true, true, true, true, true, true, true, true, true, true, true, true, true, true, false, false, false, false, false, false, false, false, false] rfl rfl (any_of HT_.out (by kernel_rfl)) (fun _ _ _ h => h) (Or.inl ⟨by rfl, ?_⟩) ?_ ?_
         rotate_left
         ·intro w'
          go_simp
          with_reducible rfl
         rotate_left
         ·simp only [Act.put, List.setIfInBounds_toArray, List.set_cons_zero, List.set_cons_succ, i64_w, i32_w]
          rfl
         refine pure_ (i := 32) (N := some 85) (v := undef) (a' := ?_) #[true, true, true, true, true, true, true, true, true, true, true, true, true, true, true, true, true, true, true, true, true, true, true, true, true, true, true, true, true, true, true, true, true, false, false, false, false, false, false, false, false] rfl rfl (any_of HT_.out (by kernel_rfl)) (fun _ _ _ h => h) (Or.inr ⟨by rfl, rfl⟩) ?_ ?_
         rotate_left
         ·simp only [Act.put, List.setIfInBounds_toArray, List.set_cons_zero, List.set_cons_succ, i64_w, i32_w]
          rfl
         refine pure_ (i := 33) (N := some 86) (v := undef) (a' := ?_) #[true, true, true, true, true, true, true, true, true, true, true, true, true, true, true, true, true, true, true, true, true, true, true, true, true, true, true, true, true, true, true, true, true, true, false, false, false, false, false, false, false] rfl rfl (any_of HT_.out (by kernel_rfl)) (fun _ _ _ h => h) (Or.inr ⟨by rfl, rfl⟩) ?_ ?_
         rotate_left
         ·simp only [Act.put, List.setIfInBounds_toArray, List.set_cons_zero, List.set_cons_succ, i64_w, i32_w]
          rfl
         refine pure_ (i := 34) (N := some 87) (v := undef) (a' := ?_) #[true, true, true, true, true, true, true, true, true, true, true, true, true, true, true, true, true, true, true, true, true, true, true, true, true, true, true, true, true, true, true, true, true, true, true, false, false, false, false, false, false] rfl rfl (any_of HT_.out (by kernel_rfl)) (fun _ _ _ h => h) (Or.inr ⟨by rfl, rfl⟩) ?_ ?_
         rotate_left
         ·simp only [Act.put, List.setIfInBounds_toArray, List.set_cons_zero, List.set_cons_succ, i64_w, i32_w]
          rfl
         refine pure_ (i := 35) (N := some 88) (v := undef) (a' := ?_) #[true, true, true, true, true, true, true, true, true, true, true, true, true, true, true, true, true, true, true, true, true, true, true, true, true, true, true, true, true, true, true, true, true, true, true, true, false, false, false, false, false] rfl rfl (any_of HT_.out (by kernel_rfl)) (fun _ _ _ h => h) (Or.inr ⟨by rfl, rfl⟩) ?_ ?_
         rotate_left
         ·simp only [Act.put, List.setIfInBounds_toArray, List.set_cons_zero, List.set_cons_succ, i64_w, i32_w]
          rfl
         refine pure_ (i := 36) (N := some 89) (v := undef) (a' := ?_) #[true, true, true, true, true, true, true, true, true, true, true, true, true, true, true, true, true, true, true, true, true, true, true, true, true, true, true, true, true, true, true, true, true, true, true, true, true, false, false, false, false] rfl rfl (any_of HT_.out (by kernel_rfl)) (fun _ _ _ h => h) (Or.inr ⟨by rfl, rfl⟩) ?_ ?_
         rotate_left
         ·simp only [Act.put, List.setIfInBounds_toArray, List.set_cons_zero, List.set_cons_succ, i64_w, i32_w]
          rfl
         refine pure_ (i := 37) (N := some 90) (v := undef) (a' := ?_) #[true, true, true, true, true, true, true, true, true, true, true, true, true, true, true, true, true, true, true, true, true, true, true, true, true, true, true, true, true, true, true, true, true, true, true, true, true, true, false, false, false] rfl rfl (any_of HT_.out (by kernel_rfl)) (fun _ _ _ h => h) (Or.inr ⟨by rfl, rfl⟩) ?_ ?_
         rotate_left
         ·simp only [Act.put, List.setIfInBounds_toArray, List.set_cons_zero, List.set_cons_succ, i64_w, i32_w]
          rfl
         refine pure_ (i := 38) (N := some 91) (v := undef) (a' := ?_) #[true, true, true, true, true, true, true, true, true, true, true, true, true, true, true, true, true, true, true, true, true, true, true, true, true, true, true, true, true, true, true, true, true, true, true, true, true, true, true, false, false] rfl rfl (any_of HT_.out (by kernel_rfl)) (fun _ _ _ h => h) (Or.inr ⟨by rfl, rfl⟩) ?_ ?_
         rotate_left
         ·simp only [Act.put, List.setIfInBounds_toArray, List.set_cons_zero, List.set_cons_succ, i64_w, i32_w]
          rfl
         refine pure_ (i := 39) (N := some 92) (v := ?_) (a' := ?_) #[true, true, true, true, true, true, true, true, true, true, true, true, true, true, true, true, true, true, true, true, true, true, true, true, true, true, true, true, true, true, true, true, true, true, true, true, true, true, true, true, false] rfl rfl (any_of HT_.out (by kernel_rfl)) (fun _ _ _ h => h) (Or.inl ⟨by rfl, ?_⟩) ?_ ?_
         rotate_left
         ·intro w'
          go_simp
          with_reducible rfl
         rotate_left
         ·simp only [Act.put, List.setIfInBounds_toArray, List.set_cons_zero, List.set_cons_succ, i64_w, i32_w]
          rfl
         refine pure_ (i := 40) (N := some 12) (v := ?_) (a' := ?_) #[true, true, true, true, true, true, true, true, true, true, true, true, true, true, true, true, true, true, true, true, true, true, true, true, true, true, true, true, true, true, true, true, true, true, true, true, true, true, true, true, true] rfl rfl (any_of HT_.out (by kernel_rfl)) (fun _ _ _ h => h) (Or.inl ⟨by rfl, ?_⟩) ?_ ?_
         rotate_left
         ·intro w'
          go_simp
          with_reducible rfl
         rotate_left
         ·simp only [Act.put, List.setIfInBounds_toArray, List.set_cons_zero, List.set_cons_succ, i64_w, i32_w]
          rfl
         refine done_ (done_of HT_.out (by kernel_rfl)) ?_
         try go_wp2
         go_ret
         exact ⟨by first | rfl | (simp [errW_none, errW_some] <;> rfl) | (simp [*, errW_none, errW_some] <;> rfl), by repeat (first | (with_reducible first | exact HB.out | apply wA | apply wN | apply wD | refine below_set ?_ GE157.out) | exact HB.out)⟩
       ·replace c30 := Bool.eq_false_iff.mpr c30
        subst c30
        have H1 : (some false) = some r := by rw [if_neg (show ¬ (false = true) by decide)] at H; exact H
        clear H
        have H := H1
        clear H1
        obtain rfl := Option.some.inj H
        try go_wp2
        have n0_ := aM (Kd.S_drew HO_13.out)
        have n1_ := aM (bD BK157.out)
        have n2_ := aM (wD HB.out)
        clear HO_13
        clear BK157
        clear HB
        have HO_13 := n0_
        have BK157 := n1_
        have HB := n2_
        clear n0_ n1_ n2_
        refine start_ (n := 41) (S := fun w' => w'.cell? ⟨gb157, 0, none⟩ = some (.int .i64 x158000_16) ∧ w'.cell? ⟨gb157, 1, none⟩ = some (.int .i64 x158001_16)) (ds := []) #[false, false, false, false, false, false, false, false, false, false, false, false, false, false, false, false, false, false, false, false, false, false, false, false, false, false, false, false, false, false, false, false, false, false, false, false, false, false, false, false, false] (by kernel_rfl) rfl rfl ⟨(blk_cell BK157.out 0).trans rfl, (blk_cell BK157.out 1).trans rfl⟩ (fun hHeld => ?_); refine with_tabW rollbacknetlaw14_NetworkAsks.tab7 rollbacknetlaw14_NetworkAsks.bits7 (fun HT_ HW_ => ?_)
        generalize wc.drew = w56 at HO_13 BK157 HB hHeld ⊢
        refine pure_ (i := 0) (N := some 53) (v := ?_) (a' := ?_) #[true, false, false, false, false, false, false, false, false, false, false, false, false, false, false, false, false, false, false, false, false, false, false, false, false, false, false, false, false, false, false, false, false, false, false, false, false, false, false, false, false] rfl rfl (any_of HT_.out (by kernel_rfl)) (fun _ _ _ h => h) (Or.inl ⟨by rfl, ?_⟩) ?_ ?_
        rotate_left
        ·intro w'
         go_simp
         with_reducible rfl
        rotate_left
        ·simp only [Act.put, List.setIfInBounds_toArray, List.set_cons_zero, List.set_cons_succ, i64_w, i32_w]
         rfl
        refine pure_ (i := 1) (N := some 54) (v := ?_) (a' := ?_) #[true, true, false, false, false, false, false, false, false, false, false, false, false, false, false, false, false, false, false, false, false, false, false, false, false, false, false, false, false, false, false, false, false, false, false, false, false, false, false, false, false] rfl rfl (any_of HT_.out (by kernel_rfl)) (fun _ _ _ h => h) (Or.inl ⟨by rfl, ?_⟩) ?_ ?_
        rotate_left
        ·intro w'
         go_simp
         with_reducible rfl
        rotate_left
        ·simp only [Act.put, List.setIfInBounds_toArray, List.set_cons_zero, List.set_cons_succ, i64_w, i32_w]
         rfl
        refine pure_ (i := 3) (N := some 56) (v := ?_) (a' := ?_) #[true, true, false, true, false, false, false, false, false, false, false, false, false, false, false, false, false, false, false, false, false, false, false, false, false, false, false, false, false, false, false, false, false, false, false, false, false, false, false, false, false] rfl rfl (any_of HT_.out (by kernel_rfl)) (fun _ _ _ h => h) (Or.inl ⟨by rfl, ?_⟩) ?_ ?_
        rotate_left
        ·intro w'
         go_simp
         with_reducible rfl
        rotate_left
        ·simp only [Act.put, List.setIfInBounds_toArray, List.set_cons_zero, List.set_cons_succ, i64_w, i32_w]
         rfl
        refine pure_ (i := 5) (N := some 58) (v := ?_) (a' := ?_) #[true, true, false, true, false, true, false, false, false, false, false, false, false, false, false, false, false, false, false, false, false, false, false, false, false, false, false, false, false, false, false, false, false, false, false, false, false, false, false, false, false] rfl rfl (any_of HT_.out (by kernel_rfl)) (fun _ _ _ h => h) (Or.inl ⟨by rfl, ?_⟩) ?_ ?_
        rotate_left
        ·intro w'
         go_simp
         with_reducible rfl
        rotate_left
        ·simp only [Act.put, List.setIfInBounds_toArray, List.set_cons_zero, List.set_cons_succ, i64_w, i32_w]
         rfl
        refine pure_ (i := 6) (N := some 59) (v := ?_) (a' := ?_) #[true, true, false, true, false, true, true, false, false, false, false, false, false, false, false, false, false, false, false, false, false, false, false, false, false, false, false, false, false, false, false, false, false, false, false, false, false, false, false, false, false] rfl rfl (any_of HT_.out (by kernel_rfl)) (fun _ _ _ h => h) (Or.inl ⟨by rfl, ?_⟩) ?_ ?_
        rotate_left
        ·intro w'
         go_simp
         with_reducible rfl
        rotate_left
        ·simp only [Act.put, List.setIfInBounds_toArray, List.set_cons_zero, List.set_cons_succ, i64_w, i32_w]
         rfl
        refine pure_ (i := 8) (N := some 61) (v := ?_) (a' := ?_) #[true, true, false, true, false, true, true, false, true, false, false, false, false, false, false, false, false, false, false, false, false, false, false, false, false, false, false, false, false, false, false, false, false, false, false, false, false, false, false, false, false] rfl rfl (any_of HT_.out (by kernel_rfl)) (fun _ _ _ h => h) (Or.inl ⟨by rfl, ?_⟩) ?_ ?_
        rotate_left
        ·intro w'
         go_simp
         with_reducible rfl
        rotate_left
        ·simp only [Act.put, List.setIfInBounds_toArray, List.set_cons_zero, List.set_cons_succ, i64_w, i32_w]
         rfl
        refine take_ (i := 2) (N := some 55) (v := ?_) (a' := ?_) #[true, true, true, true, false, true, true, false, true, false, false, false, false, false, false, false, false, false, false, false, false, false, false, false, false, false, false, false, false, false, false, false, false, false, false, false, false, false, false, false, false] rfl rfl (take_ofW HT_.out HW_.out (by kernel_rfl)) (fun _ _ _ h => h) (Or.inl ⟨by rfl, ?_⟩) hHeld ?_ ?_
        rotate_left
        ·rintro w' ⟨s0, s1⟩
         go_simp
         with_reducible rfl
        rotate_left
        ·simp only [Act.put, List.setIfInBounds_toArray, List.set_cons_zero, List.set_cons_succ, i64_w, i32_w]
         rfl
        refine take_ (i := 7) (N := some 60) (v := ?_) (a' := ?_) #[true, true, true, true, false, true, true, true, true, false, false, false, false, false, false, false, false, false, false, false, false, false, false, false, false, false, false, false, false, false, false, false, false, false, false, false, false, false, false, false, false] rfl rfl (take_ofW HT_.out HW_.out (by kernel_rfl)) (fun _ _ _ h => h) (Or.inl ⟨by rfl, ?_⟩) hHeld ?_ ?_
        rotate_left
        ·rintro w' ⟨s0, s1⟩
         go_simp
         with_reducible rfl
        rotate_left
        ·simp only [Act.put, List.setIfInBounds_toArray, List.set_cons_zero, List.set_cons_succ, i64_w, i32_w]
         rfl
        refine one_ (i := 4) (N := some 57) #[true, true, true, true, true, true, true, true, true, false, false, false, false, false, false, false, false, false, false, false, false, false, false, false, false, false, false, false, false, false, false, false, false, false, false, false, false, false, false, false, false] rfl rfl (one_of HT_.out (by kernel_rfl)) (by decide) (fun K hK => ?_)
        refine goes_ Try.func11 (by kernel_rfl) rfl #[.slice Ao15 t159.length co15, .int .i64 x1_16, .agg #[.int .i64 x158000_16, .int .i64 x158001_16], .int .i64 x5_16] (by rfl) rfl rfl (by (try simp only [List.map_toArray, List.map_cons, List.map_nil]); first | done | rfl | (simp only [List.length_drop, List.length_take]; rfl)) ?_
        with_reducible refine (network_Find.calls _ _ t159 x1_16 x158000_16 x158001_16 x5_16 t167 _ ?side1 ?side2 A24.out).mono ?_
        (case side1 => repeat (first | exact (Kd.S_reads' HO_13.out).2.2 | (with_reducible refine Kd.C_alloc ?_ _) | (with_reducible refine Kd.C_drewN ?_ _) | (with_reducible refine Kd.C_drew ?_)))
        (case side2 => exact (Kd.S_reads' HO_13.out).2.1)
        rintro e w57 ⟨rfl, hb⟩
        refine ⟨_, rfl, ?_⟩
        have n0_ := aM (Kd.S_below (by (with_reducible repeat (first | apply Kd.S_alloc | apply Kd.S_drewN | apply Kd.S_drew)); exact HO_13.out) hb)
        have n1_ := aM (blk_below (g := gb157) (o := .cells #[.int .i64 x158000_16, .int .i64 x158001_16] 24 (0, 0)) (by (with_reducible repeat (first | refine bN ?_ _ | refine bD ?_ | refine bA ?_ _)); exact BK157.out) hb)
        have n2_ := aM (below_step (by repeat (first | (with_reducible first | exact HB.out | apply wA | apply wN | apply wD | refine below_set ?_ GE157.out) | exact HB.out)) hb)
        clear HO_13
        clear BK157
        clear HB
        have HO_13 := n0_
        have BK157 := n1_
        have HB := n2_
        clear n0_ n1_ n2_
        (try clear hb)
        (try clear hb2)
        (try clear hk)
        (try clear hi)
        (try clear hge_)
        refine hK.out _ _ ⟨(blk_cell BK157.out 0).trans rfl, (blk_cell BK157.out 1).trans rfl⟩ (fun hHeld => ?_)
        clear hK K
        refine norm_ (a' := ?_) ?_ ?_
        rotate_left
        ·show Act.put _ (some 57) _ = _
         simp only [Act.put, List.setIfInBounds_toArray, List.set_cons_zero, List.set_cons_succ, i64_w, i32_w]
         rfl
        refine one_ (i := 9) (N := some 62) #[true, true, true, true, true, true, true, true, true, true, false, false, false, false, false, false, false, false, false, false, false, false, false, false, false, false, false, false, false, false, false, false, false, false, false, false, false, false, false, false, false] rfl rfl (one_of HT_.out (by kernel_rfl)) (by decide) (fun K hK => ?_)
        refine goes_ Try.func12 (by kernel_rfl) rfl #[.slice Ao15 t159.length co15, .int .i64 x1_16, .agg #[.int .i64 x158000_16, .int .i64 x158001_16], .int .i64 x5_16] (by rfl) rfl rfl (by (try simp only [List.map_toArray, List.map_cons, List.map_nil]); first | done | rfl | (simp only [List.length_drop, List.length_take]; rfl)) ?_
        with_reducible refine (rollbacknetref14_Find.calls kj16 _ _ t159 x1_16 x158000_16 x158001_16 x5_16 t168 _ ?side1 ?side2 A25.out).mono ?_
        (case side1 => repeat (first | exact (Kd.S_reads' HO_13.out).2.2 | (with_reducible refine Kd.C_alloc ?_ _) | (with_reducible refine Kd.C_drewN ?_ _) | (with_reducible refine Kd.C_drew ?_)))
        (case side2 => exact (Kd.S_reads' HO_13.out).2.1)
        rintro e w58 ⟨rfl, hb⟩
        refine ⟨_, rfl, ?_⟩
        have n0_ := aM (Kd.S_below (by (with_reducible repeat (first | apply Kd.S_alloc | apply Kd.S_drewN | apply Kd.S_drew)); exact HO_13.out) hb)
        have n1_ := aM (blk_below (g := gb157) (o := .cells #[.int .i64 x158000_16, .int .i64 x158001_16] 24 (0, 0)) (by (with_reducible repeat (first | refine bN ?_ _ | refine bD ?_ | refine bA ?_ _)); exact BK157.out) hb)
        have n2_ := aM (below_step (by repeat (first | (with_reducible first | exact HB.out | apply wA | apply wN | apply wD | refine below_set ?_ GE157.out) | exact HB.out)) hb)
        clear HO_13
        clear BK157
        clear HB
        have HO_13 := n0_
        have BK157 := n1_
        have HB := n2_
        clear n0_ n1_ n2_
        (try clear hb)
        (try clear hb2)
        (try clear hk)
        (try clear hi)
        (try clear hge_)
        refine hK.out _ _ ⟨(blk_cell BK157.out 0).trans rfl, (blk_cell BK157.out 1).trans rfl⟩ (fun hHeld => ?_)
        clear hK K
        refine norm_ (a' := ?_) ?_ ?_
        rotate_left
        ·show Act.put _ (some 62) _ = _
         simp only [Act.put, List.setIfInBounds_toArray, List.set_cons_zero, List.set_cons_succ, i64_w, i32_w]
         rfl
        refine pure_ (i := 10) (N := some 63) (v := ?_) (a' := ?_) #[true, true, true, true, true, true, true, true, true, true, true, false, false, false, false, false, false, false, false, false, false, false, false, false, false, false, false, false, false, false, false, false, false, false, false, false, false, false, false, false, false] rfl rfl (any_of HT_.out (by kernel_rfl)) (fun _ _ _ h => h) (Or.inl ⟨by rfl, ?_⟩) ?_ ?_
        rotate_left
        ·intro w'
         go_simp
         with_reducible rfl
        rotate_left
        ·simp only [Act.put, List.setIfInBounds_toArray, List.set_cons_zero, List.set_cons_succ, i64_w, i32_w]
         rfl
        refine pure_ (i := 11) (N := some 64) (v := ?_) (a' := ?_) #[true, true, true, true, true, true, true, true, true, true, true, true, false, false, false, false, false, false, false, false, false, false, false, false, false, false, false, false, false, false, false, false, false, false, false, false, false, false, false, false, false] rfl rfl (any_of HT_.out (by kernel_rfl)) (fun _ _ _ h => h) (Or.inl ⟨by rfl, ?_⟩) ?_ ?_
        rotate_left
        ·intro w'
         go_simp
         with_reducible rfl
        rotate_left
        ·simp only [Act.put, List.setIfInBounds_toArray, List.set_cons_zero, List.set_cons_succ, i64_w, i32_w]
         rfl
        refine pure_ (i := 12) (N := some 65) (v := ?_) (a' := ?_) #[true, true, true, true, true, true, true, true, true, true, true, true, true, false, false, false, false, false, false, false, false, false, false, false, false, false, false, false, false, false, false, false, false, false, false, false, false, false, false, false, false] rfl rfl (any_of HT_.out (by kernel_rfl)) (fun _ _ _ h => h) (Or.inl ⟨by rfl, ?_⟩) ?_ ?_
        rotate_left
        ·intro w'
         go_simp
         with_reducible rfl
        rotate_left
        ·simp only [Act.put, List.setIfInBounds_toArray, List.set_cons_zero, List.set_cons_succ, i64_w, i32_w]
         rfl
        refine pure_ (i := 13) (N := some 66) (v := ?_) (a' := ?_) #[true, true, true, true, true, true, true, true, true, true, true, true, true, true, false, false, false, false, false, false, false, false, false, false, false, false, false, false, false, false, false, false, false, false, false, false, false, false, false, false, false] rfl rfl (any_of HT_.out (by kernel_rfl)) (fun _ _ _ h => h) (Or.inl ⟨by rfl, ?_⟩) ?_ ?_
        rotate_left
        ·intro w'
         go_simp
         with_reducible rfl
        rotate_left
        ·simp only [Act.put, List.setIfInBounds_toArray, List.set_cons_zero, List.set_cons_succ, i64_w, i32_w]
         rfl
        refine pure_ (i := 14) (N := some 67) (v := ?_) (a' := ?_) #[true, true, true, true, true, true, true, true, true, true, true, true, true, true, true, false, false, false, false, false, false, false, false, false, false, false, false, false, false, false, false, false, false, false, false, false, false, false, false, false, false] rfl rfl (any_of HT_.out (by kernel_rfl)) (fun _ _ _ h => h) (Or.inl ⟨by rfl, ?_⟩) ?_ ?_
        rotate_left
        ·intro w'
         go_simp
         with_reducible rfl
        rotate_left
        ·simp only [Act.put, List.setIfInBounds_toArray, List.set_cons_zero, List.set_cons_succ, i64_w, i32_w]
         rfl
        refine pure_ (i := 16) (N := some 69) (v := ?_) (a' := ?_) #[true, true, true, true, true, true, true, true, true, true, true, true, true, true, true, false, true, false, false, false, false, false, false, false, false, false, false, false, false, false, false, false, false, false, false, false, false, false, false, false, false] rfl rfl (any_of HT_.out (by kernel_rfl)) (fun _ _ _ h => h) (Or.inl ⟨by rfl, ?_⟩) ?_ ?_
        rotate_left
        ·intro w'
         go_simp
         with_reducible rfl
        rotate_left
        ·simp only [Act.put, List.setIfInBounds_toArray, List.set_cons_zero, List.set_cons_succ, i64_w, i32_w]
         rfl
        refine pure_ (i := 17) (N := some 70) (v := ?_) (a' := ?_) #[true, true, true, true, true, true, true, true, true, true, true, true, true, true, true, false, true, true, false, false, false, false, false, false, false, false, false, false, false, false, false, false, false, false, false, false, false, false, false, false, false] rfl rfl (any_of HT_.out (by kernel_rfl)) (fun _ _ _ h => h) (Or.inl ⟨by rfl, ?_⟩) ?_ ?_
        rotate_left
        ·intro w'
         go_simp
         with_reducible rfl
        rotate_left
        ·simp only [Act.put, List.setIfInBounds_toArray, List.set_cons_zero, List.set_cons_succ, i64_w, i32_w]
         rfl
        refine pure_ (i := 18) (N := some 71) (v := ?_) (a' := ?_) #[true, true, true, true, true, true, true, true, true, true, true, true, true, true, true, false, true, true, true, false, false, false, false, false, false, false, false, false, false, false, false, false, false, false, false, false, false, false, false, false, false] rfl rfl (any_of HT_.out (by kernel_rfl)) (fun _ _ _ h => h) (Or.inl ⟨by rfl, ?_⟩) ?_ ?_
        rotate_left
        ·intro w'
         go_simp
         with_reducible rfl
        rotate_left
        ·simp only [Act.put, List.setIfInBounds_toArray, List.set_cons_zero, List.set_cons_succ, i64_w, i32_w]
         rfl
        refine one_ (i := 15) (N := some 68) #[true, true, true, true, true, true, true, true, true, true, true, true, true, true, true, true, true, true, true, false, false, false, false, false, false, false, false, false, false, false, false, false, false, false, false, false, false, false, false, false, false] rfl rfl (one_of HT_.out (by kernel_rfl)) (by decide) (fun K hK => ?_)
        refine goes_ Try.func14 (by kernel_rfl) rfl #[.slice Ao15 t159.length co15, .int .i64 x1_16, .int .i64 x2_16] (by rfl) rfl rfl (by (try simp only [List.map_toArray, List.map_cons, List.map_nil]); first | done | rfl | (simp only [List.length_drop, List.length_take]; rfl)) ?_
        with_reducible refine (network_Channel.calls _ _ t159 x1_16 x2_16 t169 _ ?side1 ?side2 A27.out).mono ?_
        (case side1 => repeat (first | exact (Kd.S_reads' HO_13.out).2.2 | (with_reducible refine Kd.C_alloc ?_ _) | (with_reducible refine Kd.C_drewN ?_ _) | (with_reducible refine Kd.C_drew ?_)))
        (case side2 => exact (Kd.S_reads' HO_13.out).2.1)
        rintro e w59 ⟨v170, rfl, ho0, hb⟩
        refine ⟨_, rfl, ?_⟩
        have n0_ := aM (Kd.S_elder' (by (with_reducible repeat (first | apply Kd.S_alloc | apply Kd.S_drewN | apply Kd.S_drew)); exact HO_13.out) (Kd.R_base ho0) hb)
        have n1_ := aM (Kd.R_lower ho0 (below_size (by repeat (first | (with_reducible first | exact HB.out | apply wA | apply wN | apply wD | refine below_set ?_ GE157.out) | exact HB.out))))
        have n2_ := aM (blk_below (g := gb157) (o := .cells #[.int .i64 x158000_16, .int .i64 x158001_16] 24 (0, 0)) (by (with_reducible repeat (first | refine bN ?_ _ | refine bD ?_ | refine bA ?_ _)); exact BK157.out) hb)
        have n3_ := aM (below_step (by repeat (first | (with_reducible first | exact HB.out | apply wA | apply wN | apply wD | refine below_set ?_ GE157.out) | exact HB.out)) hb)
        clear HO_13
        clear BK157
        clear HB
        have HO_13 := n0_
        have HO171 := n1_
        have BK157 := n2_
        have HB := n3_
        clear n0_ n1_ n2_ n3_
        (try clear hb)
        (try clear hb2)
        (try clear hk)
        (try clear hi)
        (try clear hge_)
        (try clear ho0)
        refine hK.out _ _ ⟨(blk_cell BK157.out 0).trans rfl, (blk_cell BK157.out 1).trans rfl⟩ (fun hHeld => ?_)
        clear hK K
        refine norm_ (a' := ?_) ?_ ?_
        rotate_left
        ·show Act.put _ (some 68) _ = _
         simp only [Act.put, List.setIfInBounds_toArray, List.set_cons_zero, List.set_cons_succ, i64_w, i32_w]
         rfl
        refine one_ (i := 19) (N := some 72) #[true, true, true, true, true, true, true, true, true, true, true, true, true, true, true, true, true, true, true, true, false, false, false, false, false, false, false, false, false, false, false, false, false, false, false, false, false, false, false, false, false] rfl rfl (one_of HT_.out (by kernel_rfl)) (by decide) (fun K hK => ?_)
        refine goes_ Try.func15 (by kernel_rfl) rfl #[.slice Ao15 t159.length co15, .int .i64 x1_16, .int .i64 x2_16] (by rfl) rfl rfl (by (try simp only [List.map_toArray, List.map_cons, List.map_nil]); first | done | rfl | (simp only [List.length_drop, List.length_take]; rfl)) ?_
        with_reducible refine (rollbacknetref14_Channel.calls kj16 _ _ t159 x1_16 x2_16 t172 _ ?side1 ?side2 A28.out).mono ?_
        (case side1 => repeat (first | exact (Kd.S_reads' HO_13.out).2.2 | (with_reducible refine Kd.C_alloc ?_ _) | (with_reducible refine Kd.C_drewN ?_ _) | (with_reducible refine Kd.C_drew ?_)))
        (case side2 => exact (Kd.S_reads' HO_13.out).2.1)
        rintro e w60 ⟨v173, rfl, ho0, hb⟩
        refine ⟨_, rfl, ?_⟩
        have n0_ := aM (Kd.S_elder' (by (with_reducible repeat (first | apply Kd.S_alloc | apply Kd.S_drewN | apply Kd.S_drew)); exact HO_13.out) (Kd.R_base ho0) hb)
        have n1_ := aM (Kd.R_elder' (by (with_reducible repeat (first | apply Kd.R_alloc | apply Kd.R_drewN | apply Kd.R_drew)); exact HO171.out) (Kd.R_base ho0) hb)
        have n2_ := aM (Kd.R_lower (Kd.R_new' ho0 (Kd.R_lt (by (with_reducible repeat (first | apply Kd.R_alloc | apply Kd.R_drewN | apply Kd.R_drew)); exact HO171.out))) (below_size (by repeat (first | (with_reducible first | exact HB.out | apply wA | apply wN | apply wD | refine below_set ?_ GE157.out) | exact HB.out))))
        have n3_ := aM (blk_below (g := gb157) (o := .cells #[.int .i64 x158000_16, .int .i64 x158001_16] 24 (0, 0)) (by (with_reducible repeat (first | refine bN ?_ _ | refine bD ?_ | refine bA ?_ _)); exact BK157.out) hb)
        have n4_ := aM (below_step (by repeat (first | (with_reducible first | exact HB.out | apply wA | apply wN | apply wD | refine below_set ?_ GE157.out) | exact HB.out)) hb)
        clear HO_13
        clear HO171
        clear BK157
        clear HB
        have HO_13 := n0_
        have HO171 := n1_
        have HO174 := n2_
        have BK157 := n3_
        have HB := n4_
        clear n0_ n1_ n2_ n3_ n4_
        (try clear hb)
        (try clear hb2)
        (try clear hk)
        (try clear hi)
        (try clear hge_)
        (try clear ho0)
        obtain ⟨Ao61, co61, eo61⟩ := Kd.R_slice HO171.out
        (first | subst eo61 | (injection eo61 with f1_ f2_ f3_; have f4_ := f1_.symm; have f5_ := f3_.symm; clear f1_ f2_ f3_; subst f4_; subst f5_))
        obtain ⟨Ao62, co62, eo62⟩ := Kd.R_slice HO174.out
        (first | subst eo62 | (injection eo62 with f1_ f2_ f3_; have f4_ := f1_.symm; have f5_ := f3_.symm; clear f1_ f2_ f3_; subst f4_; subst f5_))
        refine hK.out _ _ ⟨(blk_cell BK157.out 0).trans rfl, (blk_cell BK157.out 1).trans rfl⟩ (fun hHeld => ?_)
        clear hK K
        refine norm_ (a' := ?_) ?_ ?_
        rotate_left
        ·show Act.put _ (some 72) _ = _
         simp only [Act.put, List.setIfInBounds_toArray, List.set_cons_zero, List.set_cons_succ, i64_w, i32_w]
         rfl
        refine one_ (i := 20) (N := some 73) #[true, true, true, true, true, true, true, true, true, true, true, true, true, true, true, true, true, true, true, true, true, false, false, false, false, false, false, false, false, false, false, false, false, false, false, false, false, false, false, false, false] rfl rfl (one_of HT_.out (by kernel_rfl)) (by decide) (fun K hK => ?_)
        refine goes_ Try.func13 (by kernel_rfl) rfl #[.slice Ao61 t169.length co61, .slice Ao62 t172.length co62] (by rfl) rfl rfl (by (try simp only [List.map_toArray, List.map_cons, List.map_nil]); first | done | rfl | (simp only [List.length_drop, List.length_take]; rfl)) ?_
        with_reducible refine (rollbacknetref03_SameInts.calls kj16 _ _ t169 _ _ t172 false _ ?side1 ?side2 ?side3 ?side4 A29.out).mono ?_
        (case side1 => repeat (first | exact (Kd.R_reads' HO171.out).2.2 | (with_reducible refine Kd.C_alloc ?_ _) | (with_reducible refine Kd.C_drewN ?_ _) | (with_reducible refine Kd.C_drew ?_)))
        (case side2 => exact (Kd.R_reads' HO171.out).2.1)
        (case side3 => repeat (first | exact (Kd.R_reads' HO174.out).2.2 | (with_reducible refine Kd.C_alloc ?_ _) | (with_reducible refine Kd.C_drewN ?_ _) | (with_reducible refine Kd.C_drew ?_)))
        (case side4 => exact (Kd.R_reads' HO174.out).2.1)
        rintro e w' ⟨rfl, ⟨nd, rfl⟩⟩
        refine ⟨_, rfl, ?_⟩
        refine hK.out _ _ ⟨(blk_cell BK157.out 0).trans rfl, (blk_cell BK157.out 1).trans rfl⟩ (fun hHeld => ?_)
        clear hK K
        refine norm_ (a' := ?_) ?_ ?_
        rotate_left
        ·show Act.put _ (some 73) _ = _
         simp only [Act.put, List.setIfInBounds_toArray, List.set_cons_zero, List.set_cons_succ, i64_w, i32_w]
         rfl
        refine pure_ (i := 21) (N := some 74) (v := ?_) (a' := ?_) #[true, true, true, true, true, true, true, true, true, true, true, true, true, true, true, true, true, true, true, true, true, true, false, false, false, false, false, false, false, false, false, false, false, false, false, false, false, false, false, false, false] rfl rfl (any_of HT_.out (by kernel_rfl)) (fun _ _ _ h => h) (Or.inl ⟨by rfl, ?_⟩) ?_ ?_
        rotate_left
        ·intro w'
         go_simp
         with_reducible rfl
        rotate_left
        ·simp only [Act.put, List.setIfInBounds_toArray, List.set_cons_zero, List.set_cons_succ, i64_w, i32_w]
         rfl
        refine pure_ (i := 22) (N := some 75) (v := ?_) (a' := ?_) #[true, true, true, true, true, true, true, true, true, true, true, true, true, true, true, true, true, true, true, true, true, true, true, false, false, false, false, false, false, false, false, false, false, false, false, false, false, false, false, false, false] rfl rfl (any_of HT_.out (by kernel_rfl)) (fun _ _ _ h => h) (Or.inl ⟨by rfl, ?_⟩) ?_ ?_
        rotate_left
        ·intro w'
         go_simp
         with_reducible rfl
        rotate_left
        ·simp only [Act.put, List.setIfInBounds_toArray, List.set_cons_zero, List.set_cons_succ, i64_w, i32_w]
         rfl
        refine pure_ (i := 23) (N := some 76) (v := undef) (a' := ?_) #[true, true, true, true, true, true, true, true, true, true, true, true, true, true, true, true, true, true, true, true, true, true, true, true, false, false, false, false, false, false, false, false, false, false, false, false, false, false, false, false, false] rfl rfl (any_of HT_.out (by kernel_rfl)) (fun _ _ _ h => h) (Or.inr ⟨by rfl, rfl⟩) ?_ ?_
        rotate_left
        ·simp only [Act.put, List.setIfInBounds_toArray, List.set_cons_zero, List.set_cons_succ, i64_w, i32_w]
         rfl
        refine pure_ (i := 24) (N := some 77) (v := undef) (a' := ?_) #[true, true, true, true, true, true, true, true, true, true, true, true, true, true, true, true, true, true, true, true, true, true, true, true, true, false, false, false, false, false, false, false, false, false, false, false, false, false, false, false, false] rfl rfl (any_of HT_.out (by kernel_rfl)) (fun _ _ _ h => h) (Or.inr ⟨by rfl, rfl⟩) ?_ ?_
        rotate_left
        ·simp only [Act.put, List.setIfInBounds_toArray, List.set_cons_zero, List.set_cons_succ, i64_w, i32_w]
         rfl
        refine pure_ (i := 25) (N := some 78) (v := undef) (a' := ?_) #[true, true, true, true, true, true, true, true, true, true, true, true, true, true, true, true, true, true, true, true, true, true, true, true, true, true, false, false, false, false, false, false, false, false, false, false, false, false, false, false, false] rfl rfl (any_of HT_.out (by kernel_rfl)) (fun _ _ _ h => h) (Or.inr ⟨by rfl, rfl⟩) ?_ ?_
        rotate_left
        ·simp only [Act.put, List.setIfInBounds_toArray, List.set_cons_zero, List.set_cons_succ, i64_w, i32_w]
         rfl
        refine pure_ (i := 26) (N := some 79) (v := undef) (a' := ?_) #[true, true, true, true, true, true, true, true, true, true, true, true, true, true, true, true, true, true, true, true, true, true, true, true, true, true, true, false, false, false, false, false, false, false, false, false, false, false, false, false, false] rfl rfl (any_of HT_.out (by kernel_rfl)) (fun _ _ _ h => h) (Or.inr ⟨by rfl, rfl⟩) ?_ ?_
        rotate_left
        ·simp only [Act.put, List.setIfInBounds_toArray, List.set_cons_zero, List.set_cons_succ, i64_w, i32_w]
         rfl
        refine pure_ (i := 27) (N := some 80) (v := undef) (a' := ?_) #[true, true, true, true, true, true, true, true, true, true, true, true, true, true, true, true, true, true, true, true, true, true, true, true, true, true, true, true, false, false, false, false, false, false, false, false, false, false, false, false, false] rfl rfl (any_of HT_.out (by kernel_rfl)) (fun _ _ _ h => h) (Or.inr ⟨by rfl, rfl⟩) ?_ ?_
        rotate_left
        ·simp only [Act.put, List.setIfInBounds_toArray, List.set_cons_zero, List.set_cons_succ, i64_w, i32_w]
         rfl
        refine pure_ (i := 28) (N := some 81) (v := undef) (a' := ?_) #[true, true, true, true, true, true, true, true, true, true, true, true, true, true, true, true, true, true, true, true, true, true, true, true, true, true, true, true, true, false, false, false, false, false, false, false, false, false, false, false, false] rfl rfl (any_of HT_.out (by kernel_rfl)) (fun _ _ _ h => h) (Or.inr ⟨by rfl, rfl⟩) ?_ ?_
        rotate_left
        ·simp only [Act.put, List.setIfInBounds_toArray, List.set_cons_zero, List.set_cons_succ, i64_w, i32_w]
         rfl
        refine pure_ (i := 29) (N := some 82) (v := undef) (a' := ?_) #[true, true, true, true, true, true, true, true, true, true, true, true, true, true, true, true, true, true, true, true, true, true, true, true, true, true, true, true, true, true, false, false, false, false, false, false, false, false, false, false, false] rfl rfl (any_of HT_.out (by kernel_rfl)) (fun _ _ _ h => h) (Or.inr ⟨by rfl, rfl⟩) ?_ ?_
        rotate_left
        ·simp only [Act.put, List.setIfInBounds_toArray, List.set_cons_zero, List.set_cons_succ, i64_w, i32_w]
         rfl
        refine pure_ (i := 30) (N := some 83) (v := ?_) (a' := ?_) #[true, true, true, true, true, true, true, true, true, true, true, true, true, true, true, true, true, true, true, true, true, true, true, true, true, true, true, true, true, true, true, false, false, false, false, false, false, false, false, false, false] rfl rfl (any_of HT_.out (by kernel_rfl)) (fun _ _ _ h => h) (Or.inl ⟨by rfl, ?_⟩) ?_ ?_
        rotate_left
        ·intro w'
         go_simp
         with_reducible rfl
        rotate_left
        ·simp only [Act.put, List.setIfInBounds_toArray, List.set_cons_zero, List.set_cons_succ, i64_w, i32_w]
         rfl
        refine pure_ (i := 31) (N := some 84) (v := ?_) (a' := ?_) #[true, true, true, true, true, true, true, true, true, true, true, true, true, true, true, true, true, true, true, true, true, true, true, true, true, true, true, true, true, true, true, true, false, false, false, false, false, false, false, false, false] rfl rfl (any_of HT_.out (by kernel_rfl)) (fun _ _ _ h => h) (Or.inl ⟨by rfl, ?_⟩) ?_ ?_
        rotate_left
        ·intro w'
         go_simp
         with_reducible rfl
        rotate_left
        ·simp only [Act.put, List.setIfInBounds_toArray, List.set_cons_zero, List.set_cons_succ, i64_w, i32_w]
         rfl
        refine pure_ (i := 32) (N := some 85) (v := undef) (a' := ?_) #[true, true, true, true, true, true, true, true, true, true, true, true, true, true, true, true, true, true, true, true, true, true, true, true, true, true, true, true, true, true, true, true, true, false, false, false, false, false, false, false, false] rfl rfl (any_of HT_.out (by kernel_rfl)) (fun _ _ _ h => h) (Or.inr ⟨by rfl, rfl⟩) ?_ ?_
        rotate_left
        ·simp only [Act.put, List.setIfInBounds_toArray, List.set_cons_zero, List.set_cons_succ, i64_w, i32_w]
         rfl
        refine pure_ (i := 33) (N := some 86) (v := undef) (a' := ?_) #[true, true, true, true, true, true, true, true, true, true, true, true, true, true, true, true, true, true, true, true, true, true, true, true, true, true, true, true, true, true, true, true, true, true, false, false, false, false, false, false, false] rfl rfl (any_of HT_.out (by kernel_rfl)) (fun _ _ _ h => h) (Or.inr ⟨by rfl, rfl⟩) ?_ ?_
        rotate_left
        ·simp only [Act.put, List.setIfInBounds_toArray, List.set_cons_zero, List.set_cons_succ, i64_w, i32_w]
         rfl
        refine pure_ (i := 34) (N := some 87) (v := undef) (a' := ?_) #[true, true, true, true, true, true, true, true, true, true, true, true, true, true, true, true, true, true, true, true, true, true, true, true, true, true, true, true, true, true, true, true, true, true, true, false, false, false, false, false, false] rfl rfl (any_of HT_.out (by kernel_rfl)) (fun _ _ _ h => h) (Or.inr ⟨by rfl, rfl⟩) ?_ ?_
        rotate_left
        ·simp only [Act.put, List.setIfInBounds_toArray, List.set_cons_zero, List.set_cons_succ, i64_w, i32_w]
         rfl
        refine pure_ (i := 35) (N := some 88) (v := undef) (a' := ?_) #[true, true, true, true, true, true, true, true, true, true, true, true, true, true, true, true, true, true, true, true, true, true, true, true, true, true, true, true, true, true, true, true, true, true, true, true, false, false, false, false, false] rfl rfl (any_of HT_.out (by kernel_rfl)) (fun _ _ _ h => h) (Or.inr ⟨by rfl, rfl⟩) ?_ ?_
        rotate_left
        ·simp only [Act.put, List.setIfInBounds_toArray, List.set_cons_zero, List.set_cons_succ, i64_w, i32_w]
         rfl
        refine pure_ (i := 36) (N := some 89) (v := undef) (a' := ?_) #[true, true, true, true, true, true, true, true, true, true, true, true, true, true, true, true, true, true, true, true, true, true, true, true, true, true, true, true, true, true, true, true, true, true, true, true, true, false, false, false, false] rfl rfl (any_of HT_.out (by kernel_rfl)) (fun _ _ _ h => h) (Or.inr ⟨by rfl, rfl⟩) ?_ ?_
        rotate_left
        ·simp only [Act.put, List.setIfInBounds_toArray, List.set_cons_zero, List.set_cons_succ, i64_w, i32_w]
         rfl
        refine pure_ (i := 37) (N := some 90) (v := undef) (a' := ?_) #[true, true, true, true, true, true, true, true, true, true, true, true, true, true, true, true, true, true, true, true, true, true, true, true, true, true, true, true, true, true, true, true, true, true, true, true, true, true, false, false, false] rfl rfl (any_of HT_.out (by kernel_rfl)) (fun _ _ _ h => h) (Or.inr ⟨by rfl, rfl⟩) ?_ ?_
        rotate_left
        ·simp only [Act.put, List.setIfInBounds_toArray, List.set_cons_zero, List.set_cons_succ, i64_w, i32_w]
         rfl
        refine pure_ (i := 38) (N := some 91) (v := undef) (a' := ?_) #[true, true, true, true, true, true, true, true, true, true, true, true, true, true, true, true, true, true, true, true, true, true, true, true, true, true, true, true, true, true, true, true, true, true, true, true, true, true, true, false, false] rfl rfl (any_of HT_.out (by kernel_rfl)) (fun _ _ _ h => h) (Or.inr ⟨by rfl, rfl⟩) ?_ ?_
        rotate_left
        ·simp only [Act.put, List.setIfInBounds_toArray, List.set_cons_zero, List.set_cons_succ, i64_w, i32_w]
         rfl
        refine pure_ (i := 39) (N := some 92) (v := ?_) (a' := ?_) #[true, true, true, true, true, true, true, true, true, true, true, true, true, true, true, true, true, true, true, true, true, true, true, true, true, true, true, true, true, true, true, true, true, true, true, true, true, true, true, true, false] rfl rfl (any_of HT_.out (by kernel_rfl)) (fun _ _ _ h => h) (Or.inl ⟨by rfl, ?_⟩) ?_ ?_
        rotate_left
        ·intro w'
         go_simp
         with_reducible rfl
        rotate_left
        ·simp only [Act.put, List.setIfInBounds_toArray, List.set_cons_zero, List.set_cons_succ, i64_w, i32_w]
         rfl
        refine pure_ (i := 40) (N := some 12) (v := ?_) (a' := ?_) #[true, true, true, true, true, true, true, true, true, true, true, true, true, true, true, true, true, true, true, true, true, true, true, true, true, true, true, true, true, true, true, true, true, true, true, true, true, true, true, true, true] rfl rfl (any_of HT_.out (by kernel_rfl)) (fun _ _ _ h => h) (Or.inl ⟨by rfl, ?_⟩) ?_ ?_
        rotate_left
        ·intro w'
         go_simp
         with_reducible rfl
        rotate_left
        ·simp only [Act.put, List.setIfInBounds_toArray, List.set_cons_zero, List.set_cons_succ, i64_w, i32_w]
         rfl
        refine done_ (done_of HT_.out (by kernel_rfl)) ?_
        try go_wp2
        go_ret
        exact ⟨by first | rfl | (simp [errW_none, errW_some] <;> rfl) | (simp [*, errW_none, errW_some] <;> rfl), by repeat (first | (with_reducible first | exact HB.out | apply wA | apply wN | apply wD | refine below_set ?_ GE157.out) | exact HB.out)⟩
      ·rw [if_neg c26] at H
       have c26b0 : (t167 == t168) = false := beq_eq_false_iff_ne.mpr c26
       have c26b1 : (t167 != t168) = true := bne_iff_ne.mpr c26
       obtain rfl := Option.some.inj H
       try go_wp2
       have n0_ := aM (Kd.S_drew HO_13.out)
       have n1_ := aM (bD BK157.out)
       have n2_ := aM (wD HB.out)
       clear HO_13
       clear BK157
       clear HB
       have HO_13 := n0_
       have BK157 := n1_
       have HB := n2_
       clear n0_ n1_ n2_
       refine start_ (n := 41) (S := fun w' => w'.cell? ⟨gb157, 0, none⟩ = some (.int .i64 x158000_16) ∧ w'.cell? ⟨gb157, 1, none⟩ = some (.int .i64 x158001_16)) (ds := []) #[false, false, false, false, false, false, false, false, false, false, false, false, false, false, false, false, false, false, false, false, false, false, false, false, false, false, false, false, false, false, false, false, false, false, false, false, false, false, false, false, false] (by kernel_rfl) rfl rfl ⟨(blk_cell BK157.out 0).trans rfl, (blk_cell BK157.out 1).trans rfl⟩ (fun hHeld => ?_); refine with_tabW rollbacknetlaw14_NetworkAsks.tab7 rollbacknetlaw14_NetworkAsks.bits7 (fun HT_ HW_ => ?_)
       generalize wc.drew = w63 at HO_13 BK157 HB hHeld ⊢
       refine pure_ (i := 0) (N := some 53) (v := ?_) (a' := ?_) #[true, false, false, false, false, false, false, false, false, false, false, false, false, false, false, false, false, false, false, false, false, false, false, false, false, false, false, false, false, false, false, false, false, false, false, false, false, false, false, false, false] rfl rfl (any_of HT_.out (by kernel_rfl)) (fun _ _ _ h => h) (Or.inl ⟨by rfl, ?_⟩) ?_ ?_
       rotate_left
       ·intro w'
        go_simp
        with_reducible rfl
       rotate_left
       ·simp only [Act.put, List.setIfInBounds_toArray, List.set_cons_zero, List.set_cons_succ, i64_w, i32_w]
        rfl
       refine pure_ (i := 1) (N := some 54) (v := ?_) (a' := ?_) #[true, true, false, false, false, false, false, false, false, false, false, false, false, false, false, false, false, false, false, false, false, false, false, false, false, false, false, false, false, false, false, false, false, false, false, false, false, false, false, false, false] rfl rfl (any_of HT_.out (by kernel_rfl)) (fun _ _ _ h => h) (Or.inl ⟨by rfl, ?_⟩) ?_ ?_
       rotate_left
       ·intro w'
        go_simp
        with_reducible rfl
       rotate_left
       ·simp only [Act.put, List.setIfInBounds_toArray, List.set_cons_zero, List.set_cons_succ, i64_w, i32_w]
        rfl
       refine pure_ (i := 3) (N := some 56) (v := ?_) (a' := ?_) #[true, true, false, true, false, false, false, false, false, false, false, false, false, false, false, false, false, false, false, false, false, false, false, false, false, false, false, false, false, false, false, false, false, false, false, false, false, false, false, false, false] rfl rfl (any_of HT_.out (by kernel_rfl)) (fun _ _ _ h => h) (Or.inl ⟨by rfl, ?_⟩) ?_ ?_
       rotate_left
       ·intro w'
        go_simp
        with_reducible rfl
       rotate_left
       ·simp only [Act.put, List.setIfInBounds_toArray, List.set_cons_zero, List.set_cons_succ, i64_w, i32_w]
        rfl
       refine pure_ (i := 5) (N := some 58) (v := ?_) (a' := ?_) #[true, true, false, true, false, true, false, false, false, false, false, false, false, false, false, false, false, false, false, false, false, false, false, false, false, false, false, false, false, false, false, false, false, false, false, false, false, false, false, false, false] rfl rfl (any_of HT_.out (by kernel_rfl)) (fun _ _ _ h => h) (Or.inl ⟨by rfl, ?_⟩) ?_ ?_
       rotate_left
       ·intro w'
        go_simp
        with_reducible rfl
       rotate_left
       ·simp only [Act.put, List.setIfInBounds_toArray, List.set_cons_zero, List.set_cons_succ, i64_w, i32_w]
        rfl
       refine pure_ (i := 6) (N := some 59) (v := ?_) (a' := ?_) #[true, true, false, true, false, true, true, false, false, false, false, false, false, false, false, false, false, false, false, false, false, false, false, false, false, false, false, false, false, false, false, false, false, false, false, false, false, false, false, false, false] rfl rfl (any_of HT_.out (by kernel_rfl)) (fun _ _ _ h => h) (Or.inl ⟨by rfl, ?_⟩) ?_ ?_
       rotate_left
       ·intro w'
        go_simp
        with_reducible rfl
       rotate_left
       ·simp only [Act.put, List.setIfInBounds_toArray, List.set_cons_zero, List.set_cons_succ, i64_w, i32_w]
        rfl
       refine pure_ (i := 8) (N := some 61) (v := ?_) (a' := ?_) #[true, true, false, true, false, true, true, false, true, false, false, false, false, false, false, false, false, false, false, false, false, false, false, false, false, false, false, false, false, false, false, false, false, false, false, false, false, false, false, false, false] rfl rfl (any_of HT_.out (by kernel_rfl)) (fun _ _ _ h => h) (Or.inl ⟨by rfl, ?_⟩) ?_ ?_
       rotate_left
       ·intro w'
        go_simp
        with_reducible rfl
       rotate_left
       ·simp only [Act.put, List.setIfInBounds_toArray, List.set_cons_zero, List.set_cons_succ, i64_w, i32_w]
        rfl
       refine take_ (i := 2) (N := some 55) (v := ?_) (a' := ?_) #[true, true, true, true, false, true, true, false, true, false, false, false, false, false, false, false, false, false, false, false, false, false, false, false, false, false, false, false, false, false, false, false, false, false, false, false, false, false, false, false, false] rfl rfl (take_ofW HT_.out HW_.out (by kernel_rfl)) (fun _ _ _ h => h) (Or.inl ⟨by rfl, ?_⟩) hHeld ?_ ?_
       rotate_left
       ·rintro w' ⟨s0, s1⟩
        go_simp
        with_reducible rfl
       rotate_left
       ·simp only [Act.put, List.setIfInBounds_toArray, List.set_cons_zero, List.set_cons_succ, i64_w, i32_w]
        rfl
       refine take_ (i := 7) (N := some 60) (v := ?_) (a' := ?_) #[true, true, true, true, false, true, true, true, true, false, false, false, false, false, false, false, false, false, false, false, false, false, false, false, false, false, false, false, false, false, false, false, false, false, false, false, false, false, false, false, false] rfl rfl (take_ofW HT_.out HW_.out (by kernel_rfl)) (fun _ _ _ h => h) (Or.inl ⟨by rfl, ?_⟩) hHeld ?_ ?_
       rotate_left
       ·rintro w' ⟨s0, s1⟩
        go_simp
        with_reducible rfl
       rotate_left
       ·simp only [Act.put, List.setIfInBounds_toArray, List.set_cons_zero, List.set_cons_succ, i64_w, i32_w]
        rfl
       refine one_ (i := 4) (N := some 57) #[true, true, true, true, true, true, true, true, true, false, false, false, false, false, false, false, false, false, false, false, false, false, false, false, false, false, false, false, false, false, false, false, false, false, false, false, false, false, false, false, false] rfl rfl (one_of HT_.out (by kernel_rfl)) (by decide) (fun K hK => ?_)
       refine goes_ Try.func11 (by kernel_rfl) rfl #[.slice Ao15 t159.length co15, .int .i64 x1_16, .agg #[.int .i64 x158000_16, .int .i64 x158001_16], .int .i64 x5_16] (by rfl) rfl rfl (by (try simp only [List.map_toArray, List.map_cons, List.map_nil]); first | done | rfl | (simp only [List.length_drop, List.length_take]; rfl)) ?_
       with_reducible refine (network_Find.calls _ _ t159 x1_16 x158000_16 x158001_16 x5_16 t167 _ ?side1 ?side2 A24.out).mono ?_
       (case side1 => repeat (first | exact (Kd.S_reads' HO_13.out).2.2 | (with_reducible refine Kd.C_alloc ?_ _) | (with_reducible refine Kd.C_drewN ?_ _) | (with_reducible refine Kd.C_drew ?_)))
       (case side2 => exact (Kd.S_reads' HO_13.out).2.1)
       rintro e w64 ⟨rfl, hb⟩
       refine ⟨_, rfl, ?_⟩
       have n0_ := aM (Kd.S_below (by (with_reducible repeat (first | apply Kd.S_alloc | apply Kd.S_drewN | apply Kd.S_drew)); exact HO_13.out) hb)
       have n1_ := aM (blk_below (g := gb157) (o := .cells #[.int .i64 x158000_16, .int .i64 x158001_16] 24 (0, 0)) (by (with_reducible repeat (first | refine bN ?_ _ | refine bD ?_ | refine bA ?_ _)); exact BK157.out) hb)
       have n2_ := aM (below_step (by repeat (first | (with_reducible first | exact HB.out | apply wA | apply wN | apply wD | refine below_set ?_ GE157.out) | exact HB.out)) hb)
       clear HO_13
       clear BK157
       clear HB
       have HO_13 := n0_
       have BK157 := n1_
       have HB := n2_
       clear n0_ n1_ n2_
       (try clear hb)
       (try clear hb2)
       (try clear hk)
       (try clear hi)
       (try clear hge_)
       refine hK.out _ _ ⟨(blk_cell BK157.out 0).trans rfl, (blk_cell BK157.out 1).trans rfl⟩ (fun hHeld => ?_)
       clear hK K
       refine norm_ (a' := ?_) ?_ ?_
       rotate_left
       ·show Act.put _ (some 57) _ = _
        simp only [Act.put, List.setIfInBounds_toArray, List.set_cons_zero, List.set_cons_succ, i64_w, i32_w]
        rfl
       refine one_ (i := 9) (N := some 62) #[true, true, true, true, true, true, true, true, true, true, false, false, false, false, false, false, false, false, false, false, false, false, false, false, false, false, false, false, false, false, false, false, false, false, false, false, false, false, false, false, false] rfl rfl (one_of HT_.out (by kernel_rfl)) (by decide) (fun K hK => ?_)
       refine goes_ Try.func12 (by kernel_rfl) rfl #[.slice Ao15 t159.length co15, .int .i64 x1_16, .agg #[.int .i64 x158000_16, .int .i64 x158001_16], .int .i64 x5_16] (by rfl) rfl rfl (by (try simp only [List.map_toArray, List.map_cons, List.map_nil]); first | done | rfl | (simp only [List.length_drop, List.length_take]; rfl)) ?_
       with_reducible refine (rollbacknetref14_Find.calls kj16 _ _ t159 x1_16 x158000_16 x158001_16 x5_16 t168 _ ?side1 ?side2 A25.out).mono ?_
       (case side1 => repeat (first | exact (Kd.S_reads' HO_13.out).2.2 | (with_reducible refine Kd.C_alloc ?_ _) | (with_reducible refine Kd.C_drewN ?_ _) | (with_reducible refine Kd.C_drew ?_)))
       (case side2 => exact (Kd.S_reads' HO_13.out).2.1)
       rintro e w65 ⟨rfl, hb⟩
       refine ⟨_, rfl, ?_⟩
       have n0_ := aM (Kd.S_below (by (with_reducible repeat (first | apply Kd.S_alloc | apply Kd.S_drewN | apply Kd.S_drew)); exact HO_13.out) hb)
       have n1_ := aM (blk_below (g := gb157) (o := .cells #[.int .i64 x158000_16, .int .i64 x158001_16] 24 (0, 0)) (by (with_reducible repeat (first | refine bN ?_ _ | refine bD ?_ | refine bA ?_ _)); exact BK157.out) hb)
       have n2_ := aM (below_step (by repeat (first | (with_reducible first | exact HB.out | apply wA | apply wN | apply wD | refine below_set ?_ GE157.out) | exact HB.out)) hb)
       clear HO_13
       clear BK157
       clear HB
       have HO_13 := n0_
       have BK157 := n1_
       have HB := n2_
       clear n0_ n1_ n2_
       (try clear hb)
       (try clear hb2)
       (try clear hk)
       (try clear hi)
       (try clear hge_)
       refine hK.out _ _ ⟨(blk_cell BK157.out 0).trans rfl, (blk_cell BK157.out 1).trans rfl⟩ (fun hHeld => ?_)
       clear hK K
       refine norm_ (a' := ?_) ?_ ?_
       rotate_left
       ·show Act.put _ (some 62) _ = _
        simp only [Act.put, List.setIfInBounds_toArray, List.set_cons_zero, List.set_cons_succ, i64_w, i32_w]
        rfl
       refine pure_ (i := 10) (N := some 63) (v := ?_) (a' := ?_) #[true, true, true, true, true, true, true, true, true, true, true, false, false, false, false, false, false, false, false, false, false, false, false, false, false, false, false, false, false, false, false, false, false, false, false, false, false, false, false, false, false] rfl rfl (any_of HT_.out (by kernel_rfl)) (fun _ _ _ h => h) (Or.inl ⟨by rfl, ?_⟩) ?_ ?_
       rotate_left
       ·intro w'
        go_simp
        with_reducible rfl
       rotate_left
       ·simp only [Act.put, List.setIfInBounds_toArray, List.set_cons_zero, List.set_cons_succ, i64_w, i32_w]
        rfl
       refine pure_ (i := 11) (N := some 64) (v := ?_) (a' := ?_) #[true, true, true, true, true, true, true, true, true, true, true, true, false, false, false, false, false, false, false, false, false, false, false, false, false, false, false, false, false, false, false, false, false, false, false, false, false, false, false, false, false] rfl rfl (any_of HT_.out (by kernel_rfl)) (fun _ _ _ h => h) (Or.inl ⟨by rfl, ?_⟩) ?_ ?_
       rotate_left
       ·intro w'
        go_simp
        with_reducible rfl
       rotate_left
       ·simp only [Act.put, List.setIfInBounds_toArray, List.set_cons_zero, List.set_cons_succ, i64_w, i32_w]
        rfl
       refine pure_ (i := 12) (N := some 65) (v := undef) (a' := ?_) #[true, true, true, true, true, true, true, true, true, true, true, true, true, false, false, false, false, false, false, false, false, false, false, false, false, false, false, false, false, false, false, false, false, false, false, false, false, false, false, false, false] rfl rfl (any_of HT_.out (by kernel_rfl)) (fun _ _ _ h => h) (Or.inr ⟨by rfl, rfl⟩) ?_ ?_
       rotate_left
       ·simp only [Act.put, List.setIfInBounds_toArray, List.set_cons_zero, List.set_cons_succ, i64_w, i32_w]
        rfl
       refine pure_ (i := 13) (N := some 66) (v := undef) (a' := ?_) #[true, true, true, true, true, true, true, true, true, true, true, true, true, true, false, false, false, false, false, false, false, false, false, false, false, false, false, false, false, false, false, false, false, false, false, false, false, false, false, false, false] rfl rfl (any_of HT_.out (by kernel_rfl)) (fun _ _ _ h => h) (Or.inr ⟨by rfl, rfl⟩) ?_ ?_
       rotate_left
       ·simp only [Act.put, List.setIfInBounds_toArray, List.set_cons_zero, List.set_cons_succ, i64_w, i32_w]
        rfl
       refine pure_ (i := 14) (N := some 67) (v := undef) (a' := ?_) #[true, true, true, true, true, true, true, true, true, true, true, true, true, true, true, false, false, false, false, false, false, false, false, false, false, false, false, false, false, false, false, false, false, false, false, false, false, false, false, false, false] rfl rfl (any_of HT_.out (by kernel_rfl)) (fun _ _ _ h => h) (Or.inr ⟨by rfl, rfl⟩) ?_ ?_
       rotate_left
       ·simp only [Act.put, List.setIfInBounds_toArray, List.set_cons_zero, List.set_cons_succ, i64_w, i32_w]
        rfl
       refine pure_ (i := 15) (N := some 68) (v := undef) (a' := ?_) #[true, true, true, true, true, true, true, true, true, true, true, true, true, true, true, true, false, false, false, false, false, false, false, false, false, false, false, false, false, false, false, false, false, false, false, false, false, false, false, false, false] rfl rfl (any_of HT_.out (by kernel_rfl)) (fun _ _ _ h => h) (Or.inr ⟨by rfl, rfl⟩) ?_ ?_
       rotate_left
       ·simp only [Act.put, List.setIfInBounds_toArray, List.set_cons_zero, List.set_cons_succ, i64_w, i32_w]
        rfl
       refine pure_ (i := 16) (N := some 69) (v := undef) (a' := ?_) #[true, true, true, true, true, true, true, true, true, true, true, true, true, true, true, true, true, false, false, false, false, false, false, false, false, false, false, false, false, false, false, false, false, false, false, false, false, false, false, false, false] rfl rfl (any_of HT_.out (by kernel_rfl)) (fun _ _ _ h => h) (Or.inr ⟨by rfl, rfl⟩) ?_ ?_
       rotate_left
       ·simp only [Act.put, List.setIfInBounds_toArray, List.set_cons_zero, List.set_cons_succ, i64_w, i32_w]
        rfl
       refine pure_ (i := 17) (N := some 70) (v := undef) (a' := ?_) #[true, true, true, true, true, true, true, true, true, true, true, true, true, true, true, true, true, true, false, false, false, false, false, false, false, false, false, false, false, false, false, false, false, false, false, false, false, false, false, false, false] rfl rfl (any_of HT_.out (by kernel_rfl)) (fun _ _ _ h => h) (Or.inr ⟨by rfl, rfl⟩) ?_ ?_
       rotate_left
       ·simp only [Act.put, List.setIfInBounds_toArray, List.set_cons_zero, List.set_cons_succ, i64_w, i32_w]
        rfl
       refine pure_ (i := 18) (N := some 71) (v := undef) (a' := ?_) #[true, true, true, true, true, true, true, true, true, true, true, true, true, true, true, true, true, true, true, false, false, false, false, false, false, false, false, false, false, false, false, false, false, false, false, false, false, false, false, false, false] rfl rfl (any_of HT_.out (by kernel_rfl)) (fun _ _ _ h => h) (Or.inr ⟨by rfl, rfl⟩) ?_ ?_
       rotate_left
       ·simp only [Act.put, List.setIfInBounds_toArray, List.set_cons_zero, List.set_cons_succ, i64_w, i32_w]
        rfl
       refine pure_ (i := 19) (N := some 72) (v := undef) (a' := ?_) #[true, true, true, true, true, true, true, true, true, true, true, true, true, true, true, true, true, true, true, true, false, false, false, false, false, false, false, false, false, false, false, false, false, false, false, false, false, false, false, false, false] rfl rfl (any_of HT_.out (by kernel_rfl)) (fun _ _ _ h => h) (Or.inr ⟨by rfl, rfl⟩) ?_ ?_
       rotate_left
       ·simp only [Act.put, List.setIfInBounds_toArray, List.set_cons_zero, List.set_cons_succ, i64_w, i32_w]
        rfl
       refine pure_ (i := 20) (N := some 73) (v := undef) (a' := ?_) #[true, true, true, true, true, true, true, true, true, true, true, true, true, true, true, true, true, true, true, true, true, false, false, false, false, false, false, false, false, false, false, false, false, false, false, false, false, false, false, false, false] rfl rfl (any_of HT_.out (by kernel_rfl)) (fun _ _ _ h => h) (Or.inr ⟨by rfl, rfl⟩) ?_ ?_
       rotate_left
       ·simp only [Act.put, List.setIfInBounds_toArray, List.set_cons_zero, List.set_cons_succ, i64_w, i32_w]
        rfl
       refine pure_ (i := 21) (N := some 74) (v := ?_) (a' := ?_) #[true, true, true, true, true, true, true, true, true, true, true, true, true, true, true, true, true, true, true, true, true, true, false, false, false, false, false, false, false, false, false, false, false, false, false, false, false, false, false, false, false] rfl rfl (any_of HT_.out (by kernel_rfl)) (fun _ _ _ h => h) (Or.inl ⟨by rfl, ?_⟩) ?_ ?_
       rotate_left
       ·intro w'
        go_simp
        with_reducible rfl
       rotate_left
       ·simp only [Act.put, List.setIfInBounds_toArray, List.set_cons_zero, List.set_cons_succ, i64_w, i32_w]
        rfl
       refine pure_ (i := 22) (N := some 75) (v := ?_) (a' := ?_) #[true, true, true, true, true, true, true, true, true, true, true, true, true, true, true, true, true, true, true, true, true, true, true, false, false, false, false, false, false, false, false, false, false, false, false, false, false, false, false, false, false] rfl rfl (any_of HT_.out (by kernel_rfl)) (fun _ _ _ h => h) (Or.inl ⟨by rfl, ?_⟩) ?_ ?_
       rotate_left
       ·intro w'
        go_simp
        with_reducible rfl
       rotate_left
       ·simp only [Act.put, List.setIfInBounds_toArray, List.set_cons_zero, List.set_cons_succ, i64_w, i32_w]
        rfl
       refine pure_ (i := 23) (N := some 76) (v := undef) (a' := ?_) #[true, true, true, true, true, true, true, true, true, true, true, true, true, true, true, true, true, true, true, true, true, true, true, true, false, false, false, false, false, false, false, false, false, false, false, false, false, false, false, false, false] rfl rfl (any_of HT_.out (by kernel_rfl)) (fun _ _ _ h => h) (Or.inr ⟨by rfl, rfl⟩) ?_ ?_
       rotate_left
       ·simp only [Act.put, List.setIfInBounds_toArray, List.set_cons_zero, List.set_cons_succ, i64_w, i32_w]
        rfl
       refine pure_ (i := 24) (N := some 77) (v := undef) (a' := ?_) #[true, true, true, true, true, true, true, true, true, true, true, true, true, true, true, true, true, true, true, true, true, true, true, true, true, false, false, false, false, false, false, false, false, false, false, false, false, false, false, false, false] rfl rfl (any_of HT_.out (by kernel_rfl)) (fun _ _ _ h => h) (Or.inr ⟨by rfl, rfl⟩) ?_ ?_
       rotate_left
       ·simp only [Act.put, List.setIfInBounds_toArray, List.set_cons_zero, List.set_cons_succ, i64_w, i32_w]
        rfl
       refine pure_ (i := 25) (N := some 78) (v := undef) (a' := ?_) #[true, true, true, true, true, true, true, true, true, true, true, true, true, true, true, true, true, true, true, true, true, true, true, true, true, true, false, false, false, false, false, false, false, false, false, false, false, false, false, false, false] rfl rfl (any_of HT_.out (by kernel_rfl)) (fun _ _ _ h => h) (Or.inr ⟨by rfl, rfl⟩) ?_ ?_
       rotate_left
       ·simp only [Act.put, List.setIfInBounds_toArray, List.set_cons_zero, List.set_cons_succ, i64_w, i32_w]
        rfl
       refine pure_ (i := 26) (N := some 79) (v := undef) (a' := ?_) #[true, true, true, true, true, true, true, true, true, true, true, true, true, true, true, true, true, true, true, true, true, true, true, true, true, true, true, false, false, false, false, false, false, false, false, false, false, false, false, false, false] rfl rfl (any_of HT_.out (by kernel_rfl)) (fun _ _ _ h => h) (Or.inr ⟨by rfl, rfl⟩) ?_ ?_
       rotate_left
       ·simp only [Act.put, List.setIfInBounds_toArray, List.set_cons_zero, List.set_cons_succ, i64_w, i32_w]
        rfl
       refine pure_ (i := 27) (N := some 80) (v := undef) (a' := ?_) #[true, true, true, true, true, true, true, true, true, true, true, true, true, true, true, true, true, true, true, true, true, true, true, true, true, true, true, true, false, false, false, false, false, false, false, false, false, false, false, false, false] rfl rfl (any_of HT_.out (by kernel_rfl)) (fun _ _ _ h => h) (Or.inr ⟨by rfl, rfl⟩) ?_ ?_
       rotate_left
       ·simp only [Act.put, List.setIfInBounds_toArray, List.set_cons_zero, List.set_cons_succ, i64_w, i32_w]
        rfl
       refine pure_ (i := 28) (N := some 81) (v := undef) (a' := ?_) #[true, true, true, true, true, true, true, true, true, true, true, true, true, true, true, true, true, true, true, true, true, true, true, true, true, true, true, true, true, false, false, false, false, false, false, false, false, false, false, false, false] rfl rfl (any_of HT_.out (by kernel_rfl)) (fun _ _ _ h => h) (Or.inr ⟨by rfl, rfl⟩) ?_ ?_
       rotate_left
       ·simp only [Act.put, List.setIfInBounds_toArray, List.set_cons_zero, List.set_cons_succ, i64_w, i32_w]
        rfl
       refine pure_ (i := 29) (N := some 82) (v := undef) (a' := ?_) #[true, true, true, true, true, true, true, true, true, true, true, true, true, true, true, true, true, true, true, true, true, true, true, true, true, true, true, true, true, true, false, false, false, false, false, false, false, false, false, false, false] rfl rfl (any_of HT_.out (by kernel_rfl)) (fun _ _ _ h => h) (Or.inr ⟨by rfl, rfl⟩) ?_ ?_
       rotate_left
       ·simp only [Act.put, List.setIfInBounds_toArray, List.set_cons_zero, List.set_cons_succ, i64_w, i32_w]
        rfl
       refine pure_ (i := 30) (N := some 83) (v := ?_) (a' := ?_) #[true, true, true, true, true, true, true, true, true, true, true, true, true, true, true, true, true, true, true, true, true, true, true, true, true, true, true, true, true, true, true, false, false, false, false, false, false, false, false, false, false] rfl rfl (any_of HT_.out (by kernel_rfl)) (fun _ _ _ h => h) (Or.inl ⟨by rfl, ?_⟩) ?_ ?_
       rotate_left
       ·intro w'
        go_simp
        with_reducible rfl
       rotate_left
       ·simp only [Act.put, List.setIfInBounds_toArray, List.set_cons_zero, List.set_cons_succ, i64_w, i32_w]
        rfl
       refine pure_ (i := 31) (N := some 84) (v := ?_) (a' := ?_) #[true, true, true, true, true, true, true, true, true, true, true, true, true, true, true, true, true, true, true, true, true, true, true, true, true, true, true, true, true, true, true, true, false, false, false, false, false, false, false, false, false] rfl rfl (any_of HT_.out (by kernel_rfl)) (fun _ _ _ h => h) (Or.inl ⟨by rfl, ?_⟩) ?_ ?_
       rotate_left
       ·intro w'
        go_simp
        with_reducible rfl
       rotate_left
       ·simp only [Act.put, List.setIfInBounds_toArray, List.set_cons_zero, List.set_cons_succ, i64_w, i32_w]
        rfl
       refine pure_ (i := 32) (N := some 85) (v := undef) (a' := ?_) #[true, true, true, true, true, true, true, true, true, true, true, true, true, true, true, true, true, true, true, true, true, true, true, true, true, true, true, true, true, true, true, true, true, false, false, false, false, false, false, false, false] rfl rfl (any_of HT_.out (by kernel_rfl)) (fun _ _ _ h => h) (Or.inr ⟨by rfl, rfl⟩) ?_ ?_
       rotate_left
       ·simp only [Act.put, List.setIfInBounds_toArray, List.set_cons_zero, List.set_cons_succ, i64_w, i32_w]
        rfl
       refine pure_ (i := 33) (N := some 86) (v := undef) (a' := ?_) #[true, true, true, true, true, true, true, true, true, true, true, true, true, true, true, true, true, true, true, true, true, true, true, true, true, true, true, true, true, true, true, true, true, true, false, false, false, false, false, false, false] rfl rfl (any_of HT_.out (by kernel_rfl)) (fun _ _ _ h => h) (Or.inr ⟨by rfl, rfl⟩) ?_ ?_
       rotate_left
       ·simp only [Act.put, List.setIfInBounds_toArray, List.set_cons_zero, List.set_cons_succ, i64_w, i32_w]
        rfl
       refine pure_ (i := 34) (N := some 87) (v := undef) (a' := ?_) #[true, true, true, true, true, true, true, true, true, true, true, true, true, true, true, true, true, true, true, true, true, true, true, true, true, true, true, true, true, true, true, true, true, true, true, false, false, false, false, false, false] rfl rfl (any_of HT_.out (by kernel_rfl)) (fun _ _ _ h => h) (Or.inr ⟨by rfl, rfl⟩) ?_ ?_
       rotate_left
       ·simp only [Act.put, List.setIfInBounds_toArray, List.set_cons_zero, List.set_cons_succ, i64_w, i32_w]
        rfl
       refine pure_ (i := 35) (N := some 88) (v := undef) (a' := ?_) #[true, true, true, true, true, true, true, true, true, true, true, true, true, true, true, true, true, true, true, true, true, true, true, true, true, true, true, true, true, true, true, true, true, true, true, true, false, false, false, false, false] rfl rfl (any_of HT_.out (by kernel_rfl)) (fun _ _ _ h => h) (Or.inr ⟨by rfl, rfl⟩) ?_ ?_
       rotate_left
       ·simp only [Act.put, List.setIfInBounds_toArray, List.set_cons_zero, List.set_cons_succ, i64_w, i32_w]
        rfl
       refine pure_ (i := 36) (N := some 89) (v := undef) (a' := ?_) #[true, true, true, true, true, true, true, true, true, true, true, true, true, true, true, true, true, true, true, true, true, true, true, true, true, true, true, true, true, true, true, true, true, true, true, true, true, false, false, false, false] rfl rfl (any_of HT_.out (by kernel_rfl)) (fun _ _ _ h => h) (Or.inr ⟨by rfl, rfl⟩) ?_ ?_
       rotate_left
       ·simp only [Act.put, List.setIfInBounds_toArray, List.set_cons_zero, List.set_cons_succ, i64_w, i32_w]
        rfl
       refine pure_ (i := 37) (N := some 90) (v := undef) (a' := ?_) #[true, true, true, true, true, true, true, true, true, true, true, true, true, true, true, true, true, true, true, true, true, true, true, true, true, true, true, true, true, true, true, true, true, true, true, true, true, true, false, false, false] rfl rfl (any_of HT_.out (by kernel_rfl)) (fun _ _ _ h => h) (Or.inr ⟨by rfl, rfl⟩) ?_ ?_
       rotate_left
       ·simp only [Act.put, List.setIfInBounds_toArray, List.set_cons_zero, List.set_cons_succ, i64_w, i32_w]
        rfl
       refine pure_ (i := 38) (N := some 91) (v := undef) (a' := ?_) #[true, true, true, true, true, true, true, true, true, true, true, true, true, true, true, true, true, true, true, true, true, true, true, true, true, true, true, true, true, true, true, true, true, true, true, true, true, true, true, false, false] rfl rfl (any_of HT_.out (by kernel_rfl)) (fun _ _ _ h => h) (Or.inr ⟨by rfl, rfl⟩) ?_ ?_
       rotate_left
       ·simp only [Act.put, List.setIfInBounds_toArray, List.set_cons_zero, List.set_cons_succ, i64_w, i32_w]
        rfl
       refine pure_ (i := 39) (N := some 92) (v := ?_) (a' := ?_) #[true, true, true, true, true, true, true, true, true, true, true, true, true, true, true, true, true, true, true, true, true, true, true, true, true, true, true, true, true, true, true, true, true, true, true, true, true, true, true, true, false] rfl rfl (any_of HT_.out (by kernel_rfl)) (fun _ _ _ h => h) (Or.inl ⟨by rfl, ?_⟩) ?_ ?_
       rotate_left
       ·intro w'
        go_simp
        with_reducible rfl
       rotate_left
       ·simp only [Act.put, List.setIfInBounds_toArray, List.set_cons_zero, List.set_cons_succ, i64_w, i32_w]
        rfl
       refine pure_ (i := 40) (N := some 12) (v := ?_) (a' := ?_) #[true, true, true, true, true, true, true, true, true, true, true, true, true, true, true, true, true, true, true, true, true, true, true, true, true, true, true, true, true, true, true, true, true, true, true, true, true, true, true, true, true] rfl rfl (any_of HT_.out (by kernel_rfl)) (fun _ _ _ h => h) (Or.inl ⟨by rfl, ?_⟩) ?_ ?_
       rotate_left
       ·intro w'
        go_simp
        with_reducible rfl
       rotate_left
       ·simp only [Act.put, List.setIfInBounds_toArray, List.set_cons_zero, List.set_cons_succ, i64_w, i32_w]
        rfl
       refine done_ (done_of HT_.out (by kernel_rfl)) ?_
       try go_wp2
       go_ret
       exact ⟨by first | rfl | (simp [errW_none, errW_some] <;> rfl) | (simp [*, errW_none, errW_some] <;> rfl), by repeat (first | (with_reducible first | exact HB.out | apply wA | apply wN | apply wD | refine below_set ?_ GE157.out) | exact HB.out)⟩
 ·replace c8 := Bool.eq_false_iff.mpr c8
  subst c8
  have H1 : (some false) = some r := by rw [if_neg (show ¬ (false = true) by decide)] at H; exact H
  clear H
  have H := H1
  clear H1
  obtain rfl := Option.some.inj H
  go_enter Try.func3, Try.ntmps3
  go_wp2_with (first | ((with_reducible refine gate_dst (N := 10) rfl ?_); refine box_event ?hg (N := 10) ?hd (cs := #[.int .i64 a4_0, .int .i64 a4_1]) (t := 24) ?hr ?_; (case hd => rfl); (case hg => rfl); (case hr => first | (go_simp; done) | (go_simp; rfl)); intro gb157 hg w66 hbox hb; have n0_ := aM (below_step (by repeat (first | (with_reducible first | exact HB.out | apply wA | apply wN | apply wD) | exact HB.out)) hb); have n1_ := aM (hbox); have n2_ := aM ((by rw [hg]; exact (below_size (by repeat (first | (with_reducible first | exact HB.out | apply wA | apply wN | apply wD) | exact HB.out))) : w.heap.size ≤ gb157)); have n3_ := aM ((by rw [hg]; exact (below_size (by repeat (first | (with_reducible first | exact HB.out | apply wA | apply wN | apply wD) | exact HB.out))) : w.heap.size ≤ gb157)); clear HB; have HB := n0_; have BK157 := n1_; have GW157 := n2_; have GE157 := n3_; clear n0_ n1_ n2_ n3_; clear hb hbox hg) | ((with_reducible refine gate_callee (f := 8) rfl ?_); refine goesL_ (some 15) rfl rfl Try.func8 (by kernel_rfl) rfl #[] rfl (by (try simp only [List.map_toArray, List.map_cons, List.map_nil]); first | done | rfl | (simp only [List.length_drop, List.length_take]; rfl)) ?_; (with_reducible refine (rollbacknetlaw14_awake.calls  false _ A7.out).mono ?_); rintro e w67 ⟨rfl, hb⟩; refine ⟨_, rfl, ?_⟩; have n0_ := aM (blk_below (g := gb157) (o := .cells #[.int .i64 a4_0, .int .i64 a4_1] 24 (0, 0)) (by (with_reducible repeat (first | refine bN ?_ _ | refine bD ?_ | refine bA ?_ _)); exact BK157.out) hb); have n1_ := aM (below_step (by repeat (first | (with_reducible first | exact HB.out | apply wA | apply wN | apply wD | refine below_set ?_ GE157.out) | exact HB.out)) hb); clear BK157; clear HB; have BK157 := n0_; have HB := n1_; clear n0_ n1_; (try clear hb); (try clear hb2); (try clear hk); (try clear hi); (try clear hge_)))
  go_ret
  exact ⟨by first | rfl | (simp [errW_none, errW_some] <;> rfl) | (simp [*, errW_none, errW_some] <;> rfl), by repeat (first | (with_reducible first | exact HB.out | apply wA | apply wN | apply wD | refine below_set ?_ GE157.out) | exact HB.out)⟩

end Go.Proofs.Ytiflebfnhjlfdaa.PNk
