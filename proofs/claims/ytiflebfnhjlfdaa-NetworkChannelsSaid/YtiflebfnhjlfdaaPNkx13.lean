-- Laid by wip/tools/xprint.py, a program of this session over the kit's print: functions as Lean functions, each with its contract.
import Derived.Test.YtiflebfnhjlfdaaPNkx0
import Derived.Test.YtiflebfnhjlfdaaPNkx3
import Derived.Test.YtiflebfnhjlfdaaPNkx4
import Derived.Test.YtiflebfnhjlfdaaPNkx5
import Derived.Test.YtiflebfnhjlfdaaPNkx7
namespace Go.Proofs.Ytiflebfnhjlfdaa.PNk
open Go.RowKit Go.Proofs.YtiflebfnhjlfdaaW.PrintWords Go.Proofs.YtiflebfnhjlfdaaW.PrintLast Go.Proofs.YtiflebfnhjlfdaaW.PrintMore
attribute [local go_sem] max2_int min2_int max_two min_two max_three min_three max_four min_four   -- for this text's walks alone
set_option linter.unusedVariables false
set_option linter.unusedSimpArgs false

/-! ### rollbacknetlaw14_NetworkChannels: function 4 -/
def rollbacknetlaw14_NetworkChannels.t48 (b : Nat) : Array Bool := ((List.range 48).map fun i => b.testBit i).toArray
def rollbacknetlaw14_NetworkChannels.v48 (b i0 i : Nat) : Array Bool := rollbacknetlaw14_NetworkChannels.t48 (b + 2 ^ i - 2 ^ i0)
theorem rollbacknetlaw14_NetworkChannels.v_48 (b i : Nat) : rollbacknetlaw14_NetworkChannels.v48 b i i = rollbacknetlaw14_NetworkChannels.t48 b := by unfold rollbacknetlaw14_NetworkChannels.v48; rw [Nat.add_sub_cancel]
section
variable {P : Program} {ops : Array Oper} {Q : Exit → Act → World → Prop} {md : Region.Mode} {S : World → Prop} {ds : List Nat}
theorem rollbacknetlaw14_NetworkChannels.in48 {b : Nat} (i : Nat) {fuel : Nat} {a : Act} {w : World} (h : wpAnyLast P md ops Q S ds fuel (rollbacknetlaw14_NetworkChannels.v48 b i i) a w) : wpAnyLast P md ops Q S ds fuel (rollbacknetlaw14_NetworkChannels.t48 b) a w := by rw [rollbacknetlaw14_NetworkChannels.v_48] at h; exact h
theorem rollbacknetlaw14_NetworkChannels.p48 {d b i0 i : Nat} {oi : Oper} {v : Value} {fuel : Nat} {a : Act} {w : World} (hi : ops[i]? = some oi) (hN : oi.dst = some (i + d)) (hc : anyB md ops (rollbacknetlaw14_NetworkChannels.v48 b i0 i) (rollbacknetlaw14_NetworkChannels.v48 b i0 (i + 1)) i = true)
  (hQ : ∀ c a w, Q (.panic c) (a.put oi.dst v) w → Q (.panic c) a w) (hy : Yields P ops oi v a) {a' : Act} (ha : a.put (some (i + d)) v = a')
  (h : wpAnyLast P md ops Q S ds fuel (rollbacknetlaw14_NetworkChannels.v48 b i0 (i + 1)) a' w) : wpAnyLast P md ops Q S ds (fuel + 1) (rollbacknetlaw14_NetworkChannels.v48 b i0 i) a w := pure_ (rollbacknetlaw14_NetworkChannels.v48 b i0 (i + 1)) hi hN hc hQ hy ha h
end
mutual
def rollbacknetlaw14_NetworkChannels.l0 : Nat → List (S32) → List Int → Int → Option (Bool)
 | 0, _, _, _ => none
 | k + 1, x3, x4, x5 => if x5 < 3 then (rollbacknetlaw14_NetworkChannels.l1 k x3 x4 x5 0) else (rollbacknetlaw14_NetworkChannels.l3 k x4 (x4.length : Int) 0)
def rollbacknetlaw14_NetworkChannels.l1 : Nat → List (S32) → List Int → Int → Int → Option (Bool)
 | 0, _, _, _, _ => none
 | k + 1, x3, x4, x5, x6 => if x6 < 3 then ((network_Channel.f x3 x5 x6).bind fun t187 => (rollbacknetlaw14_NetworkChannels.l2 k x3 x4 x5 x6 t187 t187 (t187.length : Int) 0)) else (rollbacknetlaw14_NetworkChannels.l0 k x3 x4 (wrap64 (x5 + 1)))
def rollbacknetlaw14_NetworkChannels.l2 : Nat → List (S32) → List Int → Int → Int → List Int → List Int → Int → Int → Option (Bool)
 | 0, _, _, _, _, _, _, _, _ => none
 | k + 1, x3, x4, x5, x6, x7, x31, x32, x33 => if x33 < x32 then (if 0 ≤ x33 then (if x33 < (x31.length : Int) then (if (rd x31 x33) < 0 then (some false) else (if (rd x31 x33) ≥ (x3.length : Int) then (some false) else (if x33 > 0 then (if 0 ≤ (wrap64 (x33 - 1)) then (if (wrap64 (x33 - 1)) < (x7.length : Int) then (if (rd x7 (wrap64 (x33 - 1))) ≥ (rd x31 x33) then (some false) else (if 0 ≤ (rd x31 x33) then (if (rd x31 x33) < (x3.length : Int) then (if ((rd_T32 x3 (rd x31 x33)).f0) = x5 then (if ((rd_T32 x3 (rd x31 x33)).f1) = x6 then ((network_Oldest.f x3 (rd x31 x33)).bind fun t194 => (if 0 < (x7.length : Int) then (if t194 = (rd x7 0) then (if (rd x31 x33) < (x4.length : Int) then (rollbacknetlaw14_NetworkChannels.l2 k x3 (x4.set ((rd x31 x33) : Int).toNat (wrap64 ((rd x4 (rd x31 x33)) + 1))) x5 x6 x7 x31 x32 (wrap64 (x33 + 1))) else (none)) else (some false)) else (none))) else (some false)) else (some false)) else (none)) else (none))) else (none)) else (none)) else (if 0 ≤ (rd x31 x33) then (if (rd x31 x33) < (x3.length : Int) then (if ((rd_T32 x3 (rd x31 x33)).f0) = x5 then (if ((rd_T32 x3 (rd x31 x33)).f1) = x6 then ((network_Oldest.f x3 (rd x31 x33)).bind fun t200 => (if 0 < (x7.length : Int) then (if t200 = (rd x7 0) then (if (rd x31 x33) < (x4.length : Int) then (rollbacknetlaw14_NetworkChannels.l2 k x3 (x4.set ((rd x31 x33) : Int).toNat (wrap64 ((rd x4 (rd x31 x33)) + 1))) x5 x6 x7 x31 x32 (wrap64 (x33 + 1))) else (none)) else (some false)) else (none))) else (some false)) else (some false)) else (none)) else (none))))) else (none)) else (none)) else (rollbacknetlaw14_NetworkChannels.l1 k x3 x4 x5 (wrap64 (x6 + 1)))
def rollbacknetlaw14_NetworkChannels.l3 : Nat → List Int → Int → Int → Option (Bool)
 | 0, _, _, _ => none
 | k + 1, x93, x94, x95 => if x95 < x94 then (if 0 ≤ x95 then (if x95 < (x93.length : Int) then (if (rd x93 x95) = 1 then (rollbacknetlaw14_NetworkChannels.l3 k x93 x94 (wrap64 (x95 + 1))) else (some false)) else (none)) else (none)) else (some true)
end
def rollbacknetlaw14_NetworkChannels.f (k : Nat) (l0 : List Int) : Option (Bool) := (rollbacknetlaw14_awake.f).bind fun t180 => (if t180 = true then ((rollbacknetlaw14_messages.f k l0 20).bind fun t181 => (if 0 ≤ (t181.length : Int) then (if ((t181.length : Int) : Int).toNat ≤ 35184372088832 then (rollbacknetlaw14_NetworkChannels.l0 k t181 (List.replicate ((t181.length : Int) : Int).toNat 0) 0) else (none)) else (none))) else (some false))
theorem rollbacknetlaw14_NetworkChannels.mono_l : ∀ k, (∀ y0 y1 y2, LeO (rollbacknetlaw14_NetworkChannels.l0 k y0 y1 y2) (rollbacknetlaw14_NetworkChannels.l0 (k + 1) y0 y1 y2)) ∧ (∀ y0 y1 y2 y3, LeO (rollbacknetlaw14_NetworkChannels.l1 k y0 y1 y2 y3) (rollbacknetlaw14_NetworkChannels.l1 (k + 1) y0 y1 y2 y3)) ∧ (∀ y0 y1 y2 y3 y4 y5 y6 y7, LeO (rollbacknetlaw14_NetworkChannels.l2 k y0 y1 y2 y3 y4 y5 y6 y7) (rollbacknetlaw14_NetworkChannels.l2 (k + 1) y0 y1 y2 y3 y4 y5 y6 y7)) ∧ (∀ y0 y1 y2, LeO (rollbacknetlaw14_NetworkChannels.l3 k y0 y1 y2) (rollbacknetlaw14_NetworkChannels.l3 (k + 1) y0 y1 y2))
 | 0 => ⟨fun _ _ _ r h => by simp [rollbacknetlaw14_NetworkChannels.l0] at h, fun _ _ _ _ r h => by simp [rollbacknetlaw14_NetworkChannels.l1] at h, fun _ _ _ _ _ _ _ _ r h => by simp [rollbacknetlaw14_NetworkChannels.l2] at h, fun _ _ _ r h => by simp [rollbacknetlaw14_NetworkChannels.l3] at h⟩
 | k + 1 => by
  obtain ⟨ih0, ih1, ih2, ih3⟩ := rollbacknetlaw14_NetworkChannels.mono_l k
  refine ⟨?_, ?_, ?_, ?_⟩
  ·intro y0 y1 y2
   unfold rollbacknetlaw14_NetworkChannels.l0
   repeat' first
   | (with_reducible exact ih0 _ _ _)
   | (with_reducible exact ih1 _ _ _ _)
   | (with_reducible exact ih2 _ _ _ _ _ _ _ _)
   | (with_reducible exact ih3 _ _ _)
   | (with_reducible exact rollbacknetlaw14_messages.mono _ _ _)
   | (with_reducible exact LeO.refl _)
   | (with_reducible exact LeO.none _)
   | (with_reducible refine LeO.ite ?_ ?_)
   | (with_reducible refine LeO.bind ?_ (fun _ => ?_))
   | exact ih0 _ _ _
   | exact ih1 _ _ _ _
   | exact ih2 _ _ _ _ _ _ _ _
   | exact ih3 _ _ _
   | exact rollbacknetlaw14_messages.mono _ _ _
   | exact LeO.none _
   | refine LeO.ite ?_ ?_
   | refine LeO.bind ?_ (fun _ => ?_)
  ·intro y0 y1 y2 y3
   unfold rollbacknetlaw14_NetworkChannels.l1
   repeat' first
   | (with_reducible exact ih0 _ _ _)
   | (with_reducible exact ih1 _ _ _ _)
   | (with_reducible exact ih2 _ _ _ _ _ _ _ _)
   | (with_reducible exact ih3 _ _ _)
   | (with_reducible exact rollbacknetlaw14_messages.mono _ _ _)
   | (with_reducible exact LeO.refl _)
   | (with_reducible exact LeO.none _)
   | (with_reducible refine LeO.ite ?_ ?_)
   | (with_reducible refine LeO.bind ?_ (fun _ => ?_))
   | exact ih0 _ _ _
   | exact ih1 _ _ _ _
   | exact ih2 _ _ _ _ _ _ _ _
   | exact ih3 _ _ _
   | exact rollbacknetlaw14_messages.mono _ _ _
   | exact LeO.none _
   | refine LeO.ite ?_ ?_
   | refine LeO.bind ?_ (fun _ => ?_)
  ·intro y0 y1 y2 y3 y4 y5 y6 y7
   unfold rollbacknetlaw14_NetworkChannels.l2
   repeat' first
   | (with_reducible exact ih0 _ _ _)
   | (with_reducible exact ih1 _ _ _ _)
   | (with_reducible exact ih2 _ _ _ _ _ _ _ _)
   | (with_reducible exact ih3 _ _ _)
   | (with_reducible exact rollbacknetlaw14_messages.mono _ _ _)
   | (with_reducible exact LeO.refl _)
   | (with_reducible exact LeO.none _)
   | (with_reducible refine LeO.ite ?_ ?_)
   | (with_reducible refine LeO.bind ?_ (fun _ => ?_))
   | exact ih0 _ _ _
   | exact ih1 _ _ _ _
   | exact ih2 _ _ _ _ _ _ _ _
   | exact ih3 _ _ _
   | exact rollbacknetlaw14_messages.mono _ _ _
   | exact LeO.none _
   | refine LeO.ite ?_ ?_
   | refine LeO.bind ?_ (fun _ => ?_)
  ·intro y0 y1 y2
   unfold rollbacknetlaw14_NetworkChannels.l3
   repeat' first
   | (with_reducible exact ih0 _ _ _)
   | (with_reducible exact ih1 _ _ _ _)
   | (with_reducible exact ih2 _ _ _ _ _ _ _ _)
   | (with_reducible exact ih3 _ _ _)
   | (with_reducible exact rollbacknetlaw14_messages.mono _ _ _)
   | (with_reducible exact LeO.refl _)
   | (with_reducible exact LeO.none _)
   | (with_reducible refine LeO.ite ?_ ?_)
   | (with_reducible refine LeO.bind ?_ (fun _ => ?_))
   | exact ih0 _ _ _
   | exact ih1 _ _ _ _
   | exact ih2 _ _ _ _ _ _ _ _
   | exact ih3 _ _ _
   | exact rollbacknetlaw14_messages.mono _ _ _
   | exact LeO.none _
   | refine LeO.ite ?_ ?_
   | refine LeO.bind ?_ (fun _ => ?_)
theorem rollbacknetlaw14_NetworkChannels.mono : ∀ a0 k, LeO (rollbacknetlaw14_NetworkChannels.f k a0) (rollbacknetlaw14_NetworkChannels.f (k + 1) a0) := by
 intro a0 k
 obtain ⟨ih0, ih1, ih2, ih3⟩ := rollbacknetlaw14_NetworkChannels.mono_l k
 unfold rollbacknetlaw14_NetworkChannels.f
 repeat' first
   | (with_reducible exact ih0 _ _ _)
   | (with_reducible exact ih1 _ _ _ _)
   | (with_reducible exact ih2 _ _ _ _ _ _ _ _)
   | (with_reducible exact ih3 _ _ _)
   | (with_reducible exact rollbacknetlaw14_messages.mono _ _ _)
   | (with_reducible exact LeO.refl _)
   | (with_reducible exact LeO.none _)
   | (with_reducible refine LeO.ite ?_ ?_)
   | (with_reducible refine LeO.bind ?_ (fun _ => ?_))
   | exact ih0 _ _ _
   | exact ih1 _ _ _ _
   | exact ih2 _ _ _ _ _ _ _ _
   | exact ih3 _ _ _
   | exact rollbacknetlaw14_messages.mono _ _ _
   | exact LeO.none _
   | refine LeO.ite ?_ ?_
   | refine LeO.bind ?_ (fun _ => ?_)
def rollbacknetlaw14_NetworkChannels.T15 : Bool × List (List Nat × List Nat) := (true, [([], []), ([0], [0]), ([1], [1]), ([2], [2]), ([2], [2]), ([4, 2], [2, 4]), ([3, 5, 2], [2, 3, 5]), ([2, 6], [2, 6]), ([7, 2], [7]), ([8], [8]), ([9, 8], [8, 9]), ([10, 8, 8], [8, 10]), ([11], [11]), ([11], [11]), ([13, 11], [11, 13]), ([12, 14, 11], [11, 12, 14]), ([15, 11], [11, 15]), ([11], [11]), ([16, 17, 11], [11, 16, 17]), ([11, 18, 8], [8, 11, 18]), ([8, 19], [8, 19]), ([20, 11], [20]), ([21], [21]), ([21], [21]), ([22, 23, 21], [21, 22, 23]), ([24, 21], [21, 24]), ([25, 21], [21, 25]), ([21], [21]), ([26, 27, 21], [21, 26, 27]), ([21, 28], [21, 28]), ([29, 21], [29]), ([30], [30]), ([30], [30]), ([31, 32, 30], [30, 31, 32]), ([33, 30], [30, 33]), ([34, 30], [30, 34]), ([30], [30]), ([35, 36, 30], [30, 35, 36]), ([30, 37], [30, 37]), ([38, 30], [38]), ([39], [39]), ([39], [39]), ([40, 41, 39, 39], [39, 40, 41]), ([39], [39]), ([43, 39], [39, 43]), ([44, 39], [39, 44]), ([42, 45, 39], [39, 42, 45]), ([39, 46], [39, 46])])
def rollbacknetlaw14_NetworkChannels.B15 : List Nat := [0, 1, 3, 7, 7, 23, 63, 127, 255, 511, 1023, 2047, 4095, 4095, 12287, 32767, 65535, 4095, 262143, 524287, 1048575, 2097151, 4194303, 4194303, 16777215, 33554431, 67108863, 4194303, 268435455, 536870911, 1073741823, 2147483647, 2147483647, 8589934591, 17179869183, 34359738367, 2147483647, 137438953471, 274877906943, 549755813887, 1099511627775, 1099511627775, 4398046511103, 1099511627775, 9895604649983, 27487790694399, 70368744177663, 140737488355327]
theorem rollbacknetlaw14_NetworkChannels.tab15 : rtab .any (opsOf Try.f4 15) = rollbacknetlaw14_NetworkChannels.T15 := by kernel_rfl
theorem rollbacknetlaw14_NetworkChannels.bits15 : waitsOk rollbacknetlaw14_NetworkChannels.T15.2 rollbacknetlaw14_NetworkChannels.B15 = true := by kernel_rfl
set_option maxHeartbeats 8000000 in
set_option maxRecDepth 100000 in
theorem rollbacknetlaw14_NetworkChannels.calls (k : Nat) (A0 : Option Addr) (c0 : Nat) (l0 : List Int) (r : Bool) (w : World) (hr0 : Kd.C (Kd.int .u8) w A0 l0.length l0) (hc0 : l0.length ≤ c0) (h : rollbacknetlaw14_NetworkChannels.f k l0 = some r) :
  Calls Try.prog 4 #[.slice A0 l0.length c0] w fun e w' => e = .returned (.bool r) ∧ Below w.heap.size w w' := by
 have HR0 := aM hr0
 have HC0 := aM hc0
 clear hr0 hc0
 have HB := aM (Below.refl w.heap.size w)
 have H : ((rollbacknetlaw14_awake.f).bind fun t180 => (if t180 = true then ((rollbacknetlaw14_messages.f k l0 20).bind fun t181 => (if 0 ≤ (t181.length : Int) then (if ((t181.length : Int) : Int).toNat ≤ 35184372088832 then (rollbacknetlaw14_NetworkChannels.l0 k t181 (List.replicate ((t181.length : Int) : Int).toNat 0) 0) else (none)) else (none))) else (some false))) = some r := h
 clear h
 replace H := Option.bind_eq_some_iff.mp H
 obtain ⟨t180, A20, H⟩ := H
 replace H : (if t180 = true then ((rollbacknetlaw14_messages.f k l0 20).bind fun t181 => (if 0 ≤ (t181.length : Int) then (if ((t181.length : Int) : Int).toNat ≤ 35184372088832 then (rollbacknetlaw14_NetworkChannels.l0 k t181 (List.replicate ((t181.length : Int) : Int).toNat 0) 0) else (none)) else (none))) else (some false)) = some r := H
 have A2 := aM A20
 clear A20
 by_cases c3 : t180 = true
 ·subst c3
  have H1 : ((rollbacknetlaw14_messages.f k l0 20).bind fun t181 => (if 0 ≤ (t181.length : Int) then (if ((t181.length : Int) : Int).toNat ≤ 35184372088832 then (rollbacknetlaw14_NetworkChannels.l0 k t181 (List.replicate ((t181.length : Int) : Int).toNat 0) 0) else (none)) else (none))) = some r := by rw [if_pos rfl] at H; exact H
  clear H
  have H := H1
  clear H1
  have HC4 := aM H
  clear H
  go_enter Try.func4, Try.ntmps4
  go_upto_region 3 with (first | ((with_reducible refine gate_callee (f := 8) rfl ?_); refine goesL_ (some 12) rfl rfl Try.func8 (by kernel_rfl) rfl #[] rfl (by (try simp only [List.map_toArray, List.map_cons, List.map_nil]); first | done | rfl | (simp only [List.length_drop, List.length_take]; rfl)) ?_; (with_reducible refine (rollbacknetlaw14_awake.calls  true _ A2.out).mono ?_); rintro e w5 ⟨rfl, hb⟩; refine ⟨_, rfl, ?_⟩; have n0_ := aM (below_step (by repeat (first | (with_reducible first | exact HB.out | apply wA | apply wN | apply wD) | exact HB.out)) hb); clear HB; have HB := n0_; clear n0_; (try clear hb); (try clear hb2); (try clear hk); (try clear hi); (try clear hge_)))
  (try simp only [Act.put, List.setIfInBounds_toArray, List.set_cons_zero, List.set_cons_succ])
  have H := HC4.out
  clear HC4
  replace H := Option.bind_eq_some_iff.mp H
  obtain ⟨t181, A60, H⟩ := H
  replace H : (if 0 ≤ (t181.length : Int) then (if ((t181.length : Int) : Int).toNat ≤ 35184372088832 then (rollbacknetlaw14_NetworkChannels.l0 k t181 (List.replicate ((t181.length : Int) : Int).toNat 0) 0) else (none)) else (none)) = some r := H
  have A6 := aM A60
  clear A60
  have HC7 := aM H
  clear H
  go_upto_region 4 with (first | ((with_reducible refine gate_callee (f := 9) rfl ?_); refine goesL_ (some 15) rfl rfl Try.func9 (by kernel_rfl) rfl #[.slice A0 l0.length c0, .int .i64 20] rfl (by (try simp only [List.map_toArray, List.map_cons, List.map_nil]); first | done | rfl | (simp only [List.length_drop, List.length_take]; rfl)) ?_; (with_reducible refine (rollbacknetlaw14_messages.calls k _ _ l0 20 t181 _ ?side1 ?side2 A6.out).mono ?_); (case side1 => repeat (first | exact (Kd.C_below HR0.out HB.out) | (with_reducible refine Kd.C_alloc ?_ _) | (with_reducible refine Kd.C_drewN ?_ _) | (with_reducible refine Kd.C_drew ?_))); (case side2 => exact HC0.out); rintro e w8 ⟨v182, rfl, ho0, hb⟩; refine ⟨_, rfl, ?_⟩; have n0_ := aM (Kd.S_lower ho0 (below_size (by repeat (first | (with_reducible first | exact HB.out | apply wA | apply wN | apply wD) | exact HB.out)))); have n1_ := aM (below_step (by repeat (first | (with_reducible first | exact HB.out | apply wA | apply wN | apply wD) | exact HB.out)) hb); clear HB; have HO183 := n0_; have HB := n1_; clear n0_ n1_; (try clear hb); (try clear hb2); (try clear hk); (try clear hi); (try clear hge_); (try clear ho0)))
  (try simp only [Act.put, List.setIfInBounds_toArray, List.set_cons_zero, List.set_cons_succ])
  have H := HC7.out
  clear HC7
  by_cases c9 : 0 ≤ (t181.length : Int)
  ·rw [if_pos c9] at H
   have c9b0 := eq_true c9
   have c9b1 : decide (0 ≤ (t181.length : Int)) = true := decide_eq_true c9
   clear c9
   by_cases c10 : ((t181.length : Int) : Int).toNat ≤ 35184372088832
   ·rw [if_pos c10] at H
    have c10b0 := eq_true c10
    have c10b1 : decide (((t181.length : Int) : Int).toNat ≤ 35184372088832) = true := decide_eq_true c10
    clear c10
    obtain ⟨y184, hy184⟩ : ∃ y_ : List Int, y_ = (List.replicate ((t181.length : Int) : Int).toNat 0) := ⟨_, rfl⟩
    replace H : (rollbacknetlaw14_NetworkChannels.l0 k t181 y184 0) = some r := by first | (rw [hy184]; with_reducible exact H) | (have H2_ := (Option.bind_some _ _).symm.trans H; rw [hy184]; with_reducible exact H2_) | (have H2_ := (Option.bind_some _ _).symm.trans H; with_reducible exact H2_) | with_reducible exact H | (rw [hy184]; exact H) | exact H
    have Ny184 := aM hy184
    clear hy184
    have H' := aM H
    clear H
    obtain ⟨Ao11, co11, eo11⟩ := Kd.S_slice HO183.out
    subst eo11
    go_wp2_with (first | ((with_reducible refine gate_dst (N := 18) rfl ?_); (try (refine gate_guard (by rfl) ?_; dsimp only)); refine Kd.R_make (Kd.int .i64) _ 3 rfl (N := 18) rfl 29 _ _ rfl (t181.length : Int) rfl rfl Try.underlying29 (.int .i64 0) 8 info3 rfl (by decide) (by omega) 0 (ok := fun _ => True) (okp := fun _ => True) rfl (fun _ hk => hk) trivial (of_decide_eq_true (by first | (with_reducible assumption) | assumption)) (Nat.le_trans (Nat.mul_le_mul_right _ (of_decide_eq_true (by first | (with_reducible assumption) | assumption) : (t181.length : Int).toNat ≤ 35184372088832)) (by omega)) (Below.refl _ _) (Nat.le_refl _) ?_; intro v185 w12 ho13 hb hg_ hnew_; clear hg_ hnew_; (first | rw [← Ny184.out] at ho13 | (simp only [Int.reduceToNat] at ho13; rw [← Ny184.out] at ho13)); have n0_ := aM (Kd.S_elder' (by (with_reducible repeat (first | apply Kd.S_alloc | apply Kd.S_drewN | apply Kd.S_drew)); exact HO183.out) (Kd.R_base ho13) hb); have n1_ := aM (Kd.R_lower ho13 (below_size (by repeat (first | (with_reducible first | exact HB.out | apply wA | apply wN | apply wD) | exact HB.out)))); have n2_ := aM (below_step (by repeat (first | (with_reducible first | exact HB.out | apply wA | apply wN | apply wD) | exact HB.out)) hb); clear HO183; clear HB; have HO183 := n0_; have HO186 := n1_; have HB := n2_; clear n0_ n1_ n2_; clear hb ho13))
    go_loopg [5] k (fun kq v5 w' => ∃ (x4_1 : List Int) (x5_1 : Int), v5 = .int .i64 x5_1 ∧ Aside0 (rollbacknetlaw14_NetworkChannels.l0 kq t181 x4_1 x5_1 = some r) ∧ Aside0 (kq ≤ k) ∧ Aside0 (Kd.S k32 32 w' w.heap.size (fun k_ => some k_ ≠ (v185 : Value).ownBlock) (.slice Ao11 t181.length co11) t181) ∧ Aside0 (Kd.R (Kd.int .i64) 3 w' w.heap.size (fun _ => True) v185 x4_1) ∧ Aside0 (Below w.heap.size w w'))
    case atStart => exact ⟨(y184), (0), (by first | rfl | (simp; done) | (simp [*]; done)), H', ⟨Nat.le_refl _⟩, ⟨by (with_reducible repeat (first | apply Kd.S_alloc | apply Kd.S_drewN | apply Kd.S_drew)); exact Kd.S_mono HO183.out (fun _ hk => hk.2)⟩, ⟨by (with_reducible repeat (first | apply Kd.R_alloc | apply Kd.R_drewN | apply Kd.R_drew)); exact HO186.out⟩, ⟨by repeat (first | (with_reducible first | exact HB.out | apply wA | apply wN | apply wD) | exact HB.out)⟩⟩
    case round =>
     clear H'
     try clear c1
     try clear p2
     try clear c3
     try clear c4
     try clear c8
     try clear c9
     try clear c9b0
     try clear c9b1
     try clear c10
     try clear c10b0
     try clear c10b1
     obtain ⟨x4_1, x5_1, rfl, HA, HK1, HO_3, HO_4, HB⟩ := hrel
     cases gk with
     | zero => exact absurd HA.out (by simp [rollbacknetlaw14_NetworkChannels.l0])
     | succ k1 =>
      have H := HA.out
      clear HA
      simp only [rollbacknetlaw14_NetworkChannels.l0] at H
      by_cases c14 : x5_1 < 3
      ·rw [if_pos c14] at H
       have c14b0 : decide (x5_1 < 3) = true := decide_eq_true c14
       clear c14
       have H' := aM H
       clear H
       go_wp2
       go_loopg [6] k1 (fun kq v6 w' => ∃ (x4_2 : List Int) (x6_2 : Int), v6 = .int .i64 x6_2 ∧ Aside0 (rollbacknetlaw14_NetworkChannels.l1 kq t181 x4_2 x5_1 x6_2 = some r) ∧ Aside0 (kq ≤ k1) ∧ Aside0 (Kd.S k32 32 w' w.heap.size (fun k_ => some k_ ≠ (v185 : Value).ownBlock) (.slice Ao11 t181.length co11) t181) ∧ Aside0 (Kd.R (Kd.int .i64) 3 w' w.heap.size (fun _ => True) v185 x4_2) ∧ Aside0 (Below w.heap.size w w'))
       case atStart => exact ⟨(x4_1), (0), (by first | rfl | (simp; done) | (simp [*]; done)), H', ⟨Nat.le_refl _⟩, ⟨by (with_reducible repeat (first | apply Kd.S_alloc | apply Kd.S_drewN | apply Kd.S_drew)); exact HO_3.out⟩, ⟨by (with_reducible repeat (first | apply Kd.R_alloc | apply Kd.R_drewN | apply Kd.R_drew)); exact HO_4.out⟩, ⟨by repeat (first | (with_reducible first | exact HB.out | apply wA | apply wN | apply wD) | exact HB.out)⟩⟩
       case round =>
        clear H'
        try clear c1
        try clear p2
        try clear c3
        try clear c4
        try clear c8
        try clear c9
        try clear c9b0
        try clear c9b1
        try clear c10
        try clear c10b0
        try clear c10b1
        try clear c14
        try clear c14b0
        try clear p2
        obtain ⟨x4_2, x6_2, rfl, HA, HK2, HO_3, HO_4, HB⟩ := hrel
        cases gk with
        | zero => exact absurd HA.out (by simp [rollbacknetlaw14_NetworkChannels.l1])
        | succ k2 =>
         have H := HA.out
         clear HA
         simp only [rollbacknetlaw14_NetworkChannels.l1] at H
         by_cases c15 : x6_2 < 3
         ·rw [if_pos c15] at H
          have c15b0 : decide (x6_2 < 3) = true := decide_eq_true c15
          clear c15
          replace H := Option.bind_eq_some_iff.mp H
          obtain ⟨t187, A160, H⟩ := H
          replace H : (rollbacknetlaw14_NetworkChannels.l2 k2 t181 x4_2 x5_1 x6_2 t187 t187 (t187.length : Int) 0) = some r := H
          have A16 := aM A160
          clear A160
          have HC17 := aM H
          clear H
          go_upto_region 12 with (first | ((with_reducible refine gate_callee (f := 14) rfl ?_); refine goesL_ (some 30) rfl rfl Try.func14 (by kernel_rfl) rfl #[.slice Ao11 t181.length co11, .int .i64 x5_1, .int .i64 x6_2] rfl (by (try simp only [List.map_toArray, List.map_cons, List.map_nil]); first | done | rfl | (simp only [List.length_drop, List.length_take]; rfl)) ?_; (with_reducible refine (network_Channel.calls _ _ t181 x5_1 x6_2 t187 _ ?side1 ?side2 A16.out).mono ?_); (case side1 => repeat (first | exact (Kd.S_reads' HO_3.out).2.2 | (with_reducible refine Kd.C_alloc ?_ _) | (with_reducible refine Kd.C_drewN ?_ _) | (with_reducible refine Kd.C_drew ?_))); (case side2 => exact (Kd.S_reads' HO_3.out).2.1); rintro e w18 ⟨v188, rfl, ho0, hb⟩; refine ⟨_, rfl, ?_⟩; have n0_ := aM (Kd.S_elder' (by (with_reducible repeat (first | apply Kd.S_alloc | apply Kd.S_drewN | apply Kd.S_drew)); exact HO_3.out) (Kd.R_base ho0) hb); have n1_ := aM (Kd.R_elder' (by (with_reducible repeat (first | apply Kd.R_alloc | apply Kd.R_drewN | apply Kd.R_drew)); exact HO_4.out) (Kd.R_base ho0) hb); have n2_ := aM (Kd.R_lower (Kd.R_new' ho0 (Kd.R_lt (by (with_reducible repeat (first | apply Kd.R_alloc | apply Kd.R_drewN | apply Kd.R_drew)); exact HO_4.out))) (below_size (by repeat (first | (with_reducible first | exact HB.out | apply wA | apply wN | apply wD) | exact HB.out)))); have n3_ := aM (below_step (by repeat (first | (with_reducible first | exact HB.out | apply wA | apply wN | apply wD) | exact HB.out)) hb); clear HO_3; clear HO_4; clear HB; have HO_3 := n0_; have HO_4 := n1_; have HO189 := n2_; have HB := n3_; clear n0_ n1_ n2_ n3_; (try clear hb); (try clear hb2); (try clear hk); (try clear hi); (try clear hge_); (try clear ho0)))
          (try simp only [Act.put, List.setIfInBounds_toArray, List.set_cons_zero, List.set_cons_succ])
          have H := HC17.out
          clear HC17
          have H' := aM H
          clear H
          obtain ⟨Ao19, co19, eo19⟩ := Kd.R_slice HO189.out
          subst eo19
          go_wp2
          go_loopg [33] k2 (fun kq v33 w' => ∃ (x4_3 : List Int) (x33_3 : Int), v33 = .int .i64 x33_3 ∧ Aside0 (rollbacknetlaw14_NetworkChannels.l2 kq t181 x4_3 x5_1 x6_2 t187 t187 (t187.length : Int) x33_3 = some r) ∧ Aside0 (kq ≤ k2) ∧ Aside0 (Kd.S k32 32 w' w.heap.size (fun k_ => some k_ ≠ (v185 : Value).ownBlock ∧ some k_ ≠ ((.slice Ao19 t187.length co19) : Value).ownBlock ∧ some k_ ≠ ((.slice Ao19 t187.length co19) : Value).ownBlock) (.slice Ao11 t181.length co11) t181) ∧ Aside0 (Kd.R (Kd.int .i64) 3 w' w.heap.size (fun k_ => some k_ ≠ ((.slice Ao19 t187.length co19) : Value).ownBlock ∧ some k_ ≠ ((.slice Ao19 t187.length co19) : Value).ownBlock) v185 x4_3) ∧ Aside0 (Kd.R (Kd.int .i64) 3 w' w.heap.size (fun k_ => some k_ ≠ (v185 : Value).ownBlock) (.slice Ao19 t187.length co19) t187) ∧ Aside0 (Kd.R (Kd.int .i64) 3 w' w.heap.size (fun k_ => some k_ ≠ (v185 : Value).ownBlock) (.slice Ao19 t187.length co19) t187) ∧ Aside0 (Below w.heap.size w w'))
          case atStart => exact ⟨(x4_2), (0), (by first | rfl | (simp; done) | (simp [*]; done)), H', ⟨Nat.le_refl _⟩, ⟨by (with_reducible repeat (first | apply Kd.S_alloc | apply Kd.S_drewN | apply Kd.S_drew)); exact Kd.S_mono HO_3.out (fun _ hk => ⟨hk.1, ⟨hk.2, hk.2⟩⟩)⟩, ⟨by (with_reducible repeat (first | apply Kd.R_alloc | apply Kd.R_drewN | apply Kd.R_drew)); exact Kd.R_mono HO_4.out (fun _ hk => ⟨hk.2, hk.2⟩)⟩, ⟨by (with_reducible repeat (first | apply Kd.R_alloc | apply Kd.R_drewN | apply Kd.R_drew)); exact Kd.R_mono HO189.out (fun _ hk => hk.2)⟩, ⟨by (with_reducible repeat (first | apply Kd.R_alloc | apply Kd.R_drewN | apply Kd.R_drew)); exact Kd.R_mono HO189.out (fun _ hk => hk.2)⟩, ⟨by repeat (first | (with_reducible first | exact HB.out | apply wA | apply wN | apply wD) | exact HB.out)⟩⟩
          case round =>
           clear H'
           try clear c1
           try clear p2
           try clear c3
           try clear c4
           try clear c8
           try clear c9
           try clear c9b0
           try clear c9b1
           try clear c10
           try clear c10b0
           try clear c10b1
           try clear c14
           try clear c14b0
           try clear c15
           try clear c15b0
           try clear p2
           obtain ⟨x4_3, x33_3, rfl, HA, HK3, HO_3, HO_4, HO_7, HO_31, HB⟩ := hrel
           cases gk with
           | zero => exact absurd HA.out (by simp [rollbacknetlaw14_NetworkChannels.l2])
           | succ k3 =>
            have H := HA.out
            clear HA
            simp only [rollbacknetlaw14_NetworkChannels.l2] at H
            by_cases c20 : x33_3 < (t187.length : Int)
            ·rw [if_pos c20] at H
             have c20b0 : decide (x33_3 < (t187.length : Int)) = true := decide_eq_true c20
             clear c20
             by_cases c21 : 0 ≤ x33_3
             ·rw [if_pos c21] at H
              have c21b0 : decide (0 ≤ x33_3) = true := decide_eq_true c21
              clear c21
              by_cases c22 : x33_3 < (t187.length : Int)
              ·rw [if_pos c22] at H
               have c22b0 : decide (x33_3 < (t187.length : Int)) = true := decide_eq_true c22
               clear c22
               by_cases c23 : (rd t187 x33_3) < 0
               ·rw [if_pos c23] at H
                have c23b0 : decide ((rd t187 x33_3) < 0) = true := decide_eq_true c23
                clear c23
                obtain rfl := Option.some.inj H
                have p190 : 0 ≤ (x33_3 : Int) := of_decide_eq_true (by first | (with_reducible assumption) | assumption)
                have q190 : x33_3 < (t187.length : Int) := of_decide_eq_true (by first | (with_reducible assumption) | assumption)
                obtain ⟨ad190, e190, hx190_0⟩ := Kd.at_int (Kd.R_reads' HO_31.out).2.2 x33_3 p190 q190
                cases e190
                replace p190 := eq_true p190
                replace q190 := eq_true q190
                try go_wp2
                have n0_ := aM (Kd.S_drew HO_3.out)
                have n1_ := aM (Kd.R_drew HO_4.out)
                have n2_ := aM (Kd.R_drew HO_7.out)
                have n3_ := aM (Kd.R_drew HO_31.out)
                have n4_ := aM (wD HB.out)
                clear HO_3
                clear HO_4
                clear HO_7
                clear HO_31
                clear HB
                have HO_3 := n0_
                have HO_4 := n1_
                have HO_7 := n2_
                have HO_31 := n3_
                have HB := n4_
                clear n0_ n1_ n2_ n3_ n4_
                refine start_ (n := 48) (S := fun w' => True) (ds := []) (rollbacknetlaw14_NetworkChannels.t48 0) (by kernel_rfl) rfl rfl trivial (fun hHeld => ?_); refine with_tabW rollbacknetlaw14_NetworkChannels.tab15 rollbacknetlaw14_NetworkChannels.bits15 (fun HT_ HW_ => ?_)
                generalize wr.drew = w24 at HO_3 HO_4 HO_7 HO_31 HB hHeld ⊢
                refine rollbacknetlaw14_NetworkChannels.in48 0 ?_; iterate 48 (first | (refine rollbacknetlaw14_NetworkChannels.p48 (d := 38) rfl rfl (any_of HT_.out (by kernel_rfl)) (fun _ _ _ h => h) (v := undef) (Or.inr ⟨by rfl, rfl⟩) (a' := ?_) ?_ ?_; rotate_left; (simp only [Act.put, List.setIfInBounds_toArray, List.set_cons_zero, List.set_cons_succ, i64_w, i32_w, Nat.reduceAdd]; rfl)) | (refine rollbacknetlaw14_NetworkChannels.p48 (d := 38) rfl rfl (any_of HT_.out (by kernel_rfl)) (fun _ _ _ h => h) (v := ?_) (Or.inl ⟨by rfl, ?_⟩) (a' := ?_) ?_ ?_; rotate_left; (intro w'; go_simp; with_reducible rfl); rotate_left; (simp only [Act.put, List.setIfInBounds_toArray, List.set_cons_zero, List.set_cons_succ, i64_w, i32_w, Nat.reduceAdd]; rfl)))
                refine done_ (done_of HT_.out (by kernel_rfl)) ?_
                try go_wp2
                go_ret
                exact ⟨by first | rfl | (simp [errW_none, errW_some] <;> rfl) | (simp [*, errW_none, errW_some] <;> rfl), by repeat (first | (with_reducible first | exact HB.out | apply wA | apply wN | apply wD) | exact HB.out)⟩
               ·rw [if_neg c23] at H
                have c23b0 : decide ((rd t187 x33_3) < 0) = false := decide_eq_false c23
                clear c23
                by_cases c25 : (rd t187 x33_3) ≥ (t181.length : Int)
                ·rw [if_pos c25] at H
                 have c25b0 : decide ((t181.length : Int) ≤ (rd t187 x33_3)) = true := decide_eq_true c25
                 clear c25
                 obtain rfl := Option.some.inj H
                 have p190 : 0 ≤ (x33_3 : Int) := of_decide_eq_true (by first | (with_reducible assumption) | assumption)
                 have q190 : x33_3 < (t187.length : Int) := of_decide_eq_true (by first | (with_reducible assumption) | assumption)
                 obtain ⟨ad190, e190, hx190_0⟩ := Kd.at_int (Kd.R_reads' HO_31.out).2.2 x33_3 p190 q190
                 cases e190
                 replace p190 := eq_true p190
                 replace q190 := eq_true q190
                 try go_wp2
                 have n0_ := aM (Kd.S_drew HO_3.out)
                 have n1_ := aM (Kd.R_drew HO_4.out)
                 have n2_ := aM (Kd.R_drew HO_7.out)
                 have n3_ := aM (Kd.R_drew HO_31.out)
                 have n4_ := aM (wD HB.out)
                 clear HO_3
                 clear HO_4
                 clear HO_7
                 clear HO_31
                 clear HB
                 have HO_3 := n0_
                 have HO_4 := n1_
                 have HO_7 := n2_
                 have HO_31 := n3_
                 have HB := n4_
                 clear n0_ n1_ n2_ n3_ n4_
                 refine start_ (n := 48) (S := fun w' => True) (ds := []) (rollbacknetlaw14_NetworkChannels.t48 0) (by kernel_rfl) rfl rfl trivial (fun hHeld => ?_); refine with_tabW rollbacknetlaw14_NetworkChannels.tab15 rollbacknetlaw14_NetworkChannels.bits15 (fun HT_ HW_ => ?_)
                 generalize wr.drew = w26 at HO_3 HO_4 HO_7 HO_31 HB hHeld ⊢
                 refine rollbacknetlaw14_NetworkChannels.in48 0 ?_; iterate 48 (first | (refine rollbacknetlaw14_NetworkChannels.p48 (d := 38) rfl rfl (any_of HT_.out (by kernel_rfl)) (fun _ _ _ h => h) (v := undef) (Or.inr ⟨by rfl, rfl⟩) (a' := ?_) ?_ ?_; rotate_left; (simp only [Act.put, List.setIfInBounds_toArray, List.set_cons_zero, List.set_cons_succ, i64_w, i32_w, Nat.reduceAdd]; rfl)) | (refine rollbacknetlaw14_NetworkChannels.p48 (d := 38) rfl rfl (any_of HT_.out (by kernel_rfl)) (fun _ _ _ h => h) (v := ?_) (Or.inl ⟨by rfl, ?_⟩) (a' := ?_) ?_ ?_; rotate_left; (intro w'; go_simp; with_reducible rfl); rotate_left; (simp only [Act.put, List.setIfInBounds_toArray, List.set_cons_zero, List.set_cons_succ, i64_w, i32_w, Nat.reduceAdd]; rfl)))
                 refine done_ (done_of HT_.out (by kernel_rfl)) ?_
                 try go_wp2
                 go_ret
                 exact ⟨by first | rfl | (simp [errW_none, errW_some] <;> rfl) | (simp [*, errW_none, errW_some] <;> rfl), by repeat (first | (with_reducible first | exact HB.out | apply wA | apply wN | apply wD) | exact HB.out)⟩
                ·rw [if_neg c25] at H
                 have c25b0 : decide ((t181.length : Int) ≤ (rd t187 x33_3)) = false := decide_eq_false c25
                 clear c25
                 by_cases c27 : x33_3 > 0
                 ·rw [if_pos c27] at H
                  have c27b0 : decide (0 < x33_3) = true := decide_eq_true c27
                  clear c27
                  obtain ⟨ji28, hji28⟩ : ∃ j_ : Int, (wrap64 (x33_3 - 1)) = j_ := ⟨_, rfl⟩
                  replace H : (if 0 ≤ (ji28) then (if (ji28) < (t187.length : Int) then (if (rd t187 (ji28)) ≥ (rd t187 x33_3) then (some false) else (if 0 ≤ (rd t187 x33_3) then (if (rd t187 x33_3) < (t181.length : Int) then (if ((rd_T32 t181 (rd t187 x33_3)).f0) = x5_1 then (if ((rd_T32 t181 (rd t187 x33_3)).f1) = x6_2 then ((network_Oldest.f t181 (rd t187 x33_3)).bind fun t194 => (if 0 < (t187.length : Int) then (if t194 = (rd t187 0) then (if (rd t187 x33_3) < (x4_3.length : Int) then (rollbacknetlaw14_NetworkChannels.l2 k3 t181 (x4_3.set ((rd t187 x33_3) : Int).toNat (wrap64 ((rd x4_3 (rd t187 x33_3)) + 1))) x5_1 x6_2 t187 t187 (t187.length : Int) (wrap64 (x33_3 + 1))) else (none)) else (some false)) else (none))) else (some false)) else (some false)) else (none)) else (none))) else (none)) else (none)) = some r := by first | (rw [hji28] at H; exact H) | (simp only [hji28] at H ⊢; exact H)
                  have hji28w : (IntKind.i64.wrap (x33_3 - 1)) = ji28 := (i64_w _).trans hji28
                  by_cases c29 : 0 ≤ (ji28)
                  ·rw [if_pos c29] at H
                   have c29b0 : decide (0 ≤ (ji28)) = true := decide_eq_true c29
                   clear c29
                   by_cases c30 : (ji28) < (t187.length : Int)
                   ·rw [if_pos c30] at H
                    have c30b0 : decide ((ji28) < (t187.length : Int)) = true := decide_eq_true c30
                    clear c30
                    by_cases c31 : (rd t187 (ji28)) ≥ (rd t187 x33_3)
                    ·rw [if_pos c31] at H
                     have c31b0 : decide ((rd t187 x33_3) ≤ (rd t187 (ji28))) = true := decide_eq_true c31
                     clear c31
                     obtain rfl := Option.some.inj H
                     have p190 : 0 ≤ (x33_3 : Int) := of_decide_eq_true (by first | (with_reducible assumption) | assumption)
                     have q190 : x33_3 < (t187.length : Int) := of_decide_eq_true (by first | (with_reducible assumption) | assumption)
                     obtain ⟨ad190, e190, hx190_0⟩ := Kd.at_int (Kd.R_reads' HO_31.out).2.2 x33_3 p190 q190
                     cases e190
                     replace p190 := eq_true p190
                     replace q190 := eq_true q190
                     try go_wp2
                     have n0_ := aM (Kd.S_drew HO_3.out)
                     have n1_ := aM (Kd.R_drew HO_4.out)
                     have n2_ := aM (Kd.R_drew HO_7.out)
                     have n3_ := aM (Kd.R_drew HO_31.out)
                     have n4_ := aM (wD HB.out)
                     clear HO_3
                     clear HO_4
                     clear HO_7
                     clear HO_31
                     clear HB
                     have HO_3 := n0_
                     have HO_4 := n1_
                     have HO_7 := n2_
                     have HO_31 := n3_
                     have HB := n4_
                     clear n0_ n1_ n2_ n3_ n4_
                     have p191 : 0 ≤ ((ji28) : Int) := of_decide_eq_true (by first | (with_reducible assumption) | assumption)
                     have q191 : (ji28) < (t187.length : Int) := of_decide_eq_true (by first | (with_reducible assumption) | assumption)
                     obtain ⟨ad191, e191, hx191_0⟩ := Kd.at_int (Kd.R_reads' HO_7.out).2.2 (ji28) p191 q191
                     obtain rfl : ad190 = ad191 := (by injection e191)
                     replace p191 := eq_true p191
                     replace q191 := eq_true q191
                     refine start_ (n := 48) (S := fun w' => w'.cell? (ad190.add ((ji28)).toNat) = some (.int .i64 (rd t187 (ji28)))) (ds := []) (rollbacknetlaw14_NetworkChannels.t48 0) (by kernel_rfl) rfl rfl (hx191_0) (fun hHeld => ?_); refine with_tabW rollbacknetlaw14_NetworkChannels.tab15 rollbacknetlaw14_NetworkChannels.bits15 (fun HT_ HW_ => ?_)
                     generalize wr.drew = w32 at HO_3 HO_4 HO_7 HO_31 HB hx191_0 hHeld ⊢
                     refine rollbacknetlaw14_NetworkChannels.in48 0 ?_; iterate 16 (first | (refine rollbacknetlaw14_NetworkChannels.p48 (d := 38) rfl rfl (any_of HT_.out (by kernel_rfl)) (fun _ _ _ h => h) (v := undef) (Or.inr ⟨by rfl, rfl⟩) (a' := ?_) ?_ ?_; rotate_left; (simp only [Act.put, List.setIfInBounds_toArray, List.set_cons_zero, List.set_cons_succ, i64_w, i32_w, Nat.reduceAdd]; rfl)) | (refine rollbacknetlaw14_NetworkChannels.p48 (d := 38) rfl rfl (any_of HT_.out (by kernel_rfl)) (fun _ _ _ h => h) (v := ?_) (Or.inl ⟨by rfl, ?_⟩) (a' := ?_) ?_ ?_; rotate_left; (intro w'; go_simp; with_reducible rfl); rotate_left; (simp only [Act.put, List.setIfInBounds_toArray, List.set_cons_zero, List.set_cons_succ, i64_w, i32_w, Nat.reduceAdd]; rfl)))
                     refine pure_ (i := 17) (N := some 55) (v := ?_) (a' := ?_) (rollbacknetlaw14_NetworkChannels.t48 196607) rfl rfl (any_of HT_.out (by kernel_rfl)) (fun _ _ _ h => h) (Or.inl ⟨by rfl, ?_⟩) ?_ ?_; rotate_left; (intro w'; go_simp; with_reducible rfl); rotate_left; (simp only [Act.put, List.setIfInBounds_toArray, List.set_cons_zero, List.set_cons_succ, i64_w, i32_w]; rfl)
                     refine take_ (i := 16) (N := some 54) (v := ?_) (a' := ?_) (rollbacknetlaw14_NetworkChannels.t48 262143) rfl rfl (take_ofW HT_.out HW_.out (by kernel_rfl)) (fun _ _ _ h => h) (Or.inl ⟨by rfl, ?_⟩) hHeld ?_ ?_; rotate_left; (intro w' s0; go_simp; with_reducible rfl); rotate_left; (simp only [Act.put, List.setIfInBounds_toArray, List.set_cons_zero, List.set_cons_succ, i64_w, i32_w]; rfl)
                     refine rollbacknetlaw14_NetworkChannels.in48 18 ?_; iterate 30 (first | (refine rollbacknetlaw14_NetworkChannels.p48 (d := 38) rfl rfl (any_of HT_.out (by kernel_rfl)) (fun _ _ _ h => h) (v := undef) (Or.inr ⟨by rfl, rfl⟩) (a' := ?_) ?_ ?_; rotate_left; (simp only [Act.put, List.setIfInBounds_toArray, List.set_cons_zero, List.set_cons_succ, i64_w, i32_w, Nat.reduceAdd]; rfl)) | (refine rollbacknetlaw14_NetworkChannels.p48 (d := 38) rfl rfl (any_of HT_.out (by kernel_rfl)) (fun _ _ _ h => h) (v := ?_) (Or.inl ⟨by rfl, ?_⟩) (a' := ?_) ?_ ?_; rotate_left; (intro w'; go_simp; with_reducible rfl); rotate_left; (simp only [Act.put, List.setIfInBounds_toArray, List.set_cons_zero, List.set_cons_succ, i64_w, i32_w, Nat.reduceAdd]; rfl)))
                     refine done_ (done_of HT_.out (by kernel_rfl)) ?_
                     try go_wp2
                     go_ret
                     exact ⟨by first | rfl | (simp [errW_none, errW_some] <;> rfl) | (simp only [← hji28]; first | rfl | (simp [errW_none, errW_some] <;> rfl)) | (simp [*, errW_none, errW_some] <;> rfl), by repeat (first | (with_reducible first | exact HB.out | apply wA | apply wN | apply wD) | exact HB.out)⟩
                    ·rw [if_neg c31] at H
                     have c31b0 : decide ((rd t187 x33_3) ≤ (rd t187 (ji28))) = false := decide_eq_false c31
                     clear c31
                     by_cases c33 : 0 ≤ (rd t187 x33_3)
                     ·rw [if_pos c33] at H
                      have c33b0 : decide (0 ≤ (rd t187 x33_3)) = true := decide_eq_true c33
                      clear c33
                      by_cases c34 : (rd t187 x33_3) < (t181.length : Int)
                      ·rw [if_pos c34] at H
                       have c34b0 : decide ((rd t187 x33_3) < (t181.length : Int)) = true := decide_eq_true c34
                       clear c34
                       by_cases c35 : ((rd_T32 t181 (rd t187 x33_3)).f0) = x5_1
                       ·rw [if_pos c35] at H
                        have c35b0 : (((rd_T32 t181 (rd t187 x33_3)).f0) == x5_1) = true := beq_iff_eq.mpr c35
                        have c35b1 : (((rd_T32 t181 (rd t187 x33_3)).f0) != x5_1) = false := bne_eq_false_iff_eq.mpr c35
                        clear c35
                        by_cases c36 : ((rd_T32 t181 (rd t187 x33_3)).f1) = x6_2
                        ·rw [if_pos c36] at H
                         have c36b0 : (((rd_T32 t181 (rd t187 x33_3)).f1) == x6_2) = true := beq_iff_eq.mpr c36
                         have c36b1 : (((rd_T32 t181 (rd t187 x33_3)).f1) != x6_2) = false := bne_eq_false_iff_eq.mpr c36
                         clear c36
                         replace H := Option.bind_eq_some_iff.mp H
                         obtain ⟨t194, A370, H⟩ := H
                         replace H : (if 0 < (t187.length : Int) then (if t194 = (rd t187 0) then (if (rd t187 x33_3) < (x4_3.length : Int) then (rollbacknetlaw14_NetworkChannels.l2 k3 t181 (x4_3.set ((rd t187 x33_3) : Int).toNat (wrap64 ((rd x4_3 (rd t187 x33_3)) + 1))) x5_1 x6_2 t187 t187 (t187.length : Int) (wrap64 (x33_3 + 1))) else (none)) else (some false)) else (none)) = some r := H
                         have A37 := aM A370
                         clear A370
                         by_cases c38 : 0 < (t187.length : Int)
                         ·rw [if_pos c38] at H
                          have c38b0 : decide (0 < (t187.length : Int)) = true := decide_eq_true c38
                          have c38b1 : decide (0 < t187.length) = true := decide_eq_true (by omega)
                          clear c38
                          by_cases c39 : t194 = (rd t187 0)
                          ·rw [if_pos c39] at H
                           have c39b0 : (t194 == (rd t187 0)) = true := beq_iff_eq.mpr c39
                           have c39b1 : (t194 != (rd t187 0)) = false := bne_eq_false_iff_eq.mpr c39
                           clear c39
                           have HC40 := aM H
                           clear H
                           have p190 : 0 ≤ (x33_3 : Int) := of_decide_eq_true (by first | (with_reducible assumption) | assumption)
                           have q190 : x33_3 < (t187.length : Int) := of_decide_eq_true (by first | (with_reducible assumption) | assumption)
                           obtain ⟨ad190, e190, hx190_0⟩ := Kd.at_int (Kd.R_reads' HO_31.out).2.2 x33_3 p190 q190
                           cases e190
                           replace p190 := eq_true p190
                           replace q190 := eq_true q190
                           try go_wp2
                           have n0_ := aM (Kd.S_drew HO_3.out)
                           have n1_ := aM (Kd.R_drew HO_4.out)
                           have n2_ := aM (Kd.R_drew HO_7.out)
                           have n3_ := aM (Kd.R_drew HO_31.out)
                           have n4_ := aM (wD HB.out)
                           clear HO_3
                           clear HO_4
                           clear HO_7
                           clear HO_31
                           clear HB
                           have HO_3 := n0_
                           have HO_4 := n1_
                           have HO_7 := n2_
                           have HO_31 := n3_
                           have HB := n4_
                           clear n0_ n1_ n2_ n3_ n4_
                           have p191 : 0 ≤ ((ji28) : Int) := of_decide_eq_true (by first | (with_reducible assumption) | assumption)
                           have q191 : (ji28) < (t187.length : Int) := of_decide_eq_true (by first | (with_reducible assumption) | assumption)
                           obtain ⟨ad191, e191, hx191_0⟩ := Kd.at_int (Kd.R_reads' HO_7.out).2.2 (ji28) p191 q191
                           obtain rfl : ad190 = ad191 := (by injection e191)
                           replace p191 := eq_true p191
                           replace q191 := eq_true q191
                           have p192 : 0 ≤ ((rd t187 x33_3) : Int) := of_decide_eq_true (by first | (with_reducible assumption) | assumption)
                           have q192 : (rd t187 x33_3) < (t181.length : Int) := of_decide_eq_true (by first | (with_reducible assumption) | assumption)
                           obtain ⟨ad192, A192_7, c192_7, A192_8, c192_8, e192, hx192_0, hx192_1, hx192_2, hx192_3, hx192_4, hx192_5, hx192_6, hx192_7, hx192_8, hl192_7, hi192_7, hl192_8, hi192_8⟩ := at_T32 (Kd.S_reads' HO_3.out).2.2 (rd t187 x33_3) p192 q192
                           cases e192
                           obtain ⟨ce192, hce192, hMe192, hcc192⟩ := Kd.S_get HO_3.out z32 (rd t187 x33_3) p192 (by first | exact q192 | exact of_decide_eq_true (by first | (with_reducible assumption) | assumption) | (have e_ := (Kd.S_reads' HO_3.out).1; omega))
                           obtain ⟨ve192_7, ve192_8, rfl, ge192_7, ge192_8⟩ := k32_openM hMe192
                           have hv192_7 := hcc192 7 _ rfl
                           rw [add_field _ _ 7 (by omega)] at hv192_7
                           replace hv192_7 := Option.some.inj (hv192_7.symm.trans hx192_7)
                           rw [hv192_7] at ge192_7
                           have HL192_7 := aM (show Kd.R (Kd.int .i64) 3 _ _ _ _ ((rd_T32 t181 (rd t187 x33_3)).f6) from ge192_7)
                           clear hv192_7 ge192_7
                           have hv192_8 := hcc192 8 _ rfl
                           rw [add_field _ _ 8 (by omega)] at hv192_8
                           replace hv192_8 := Option.some.inj (hv192_8.symm.trans hx192_8)
                           rw [hv192_8] at ge192_8
                           have HL192_8 := aM (show Kd.R k69 69 _ _ _ _ ((rd_T32 t181 (rd t187 x33_3)).f7) from ge192_8)
                           clear hv192_8 ge192_8
                           clear hcc192 hce192
                           have HR192_7 := aM hi192_7
                           have HC192_7 := aM hl192_7
                           clear hi192_7 hl192_7
                           have HR192_8 := aM hi192_8
                           have HC192_8 := aM hl192_8
                           clear hi192_8 hl192_8
                           replace p192 := eq_true p192
                           replace q192 := eq_true q192
                           have p193 : 0 ≤ ((rd t187 x33_3) : Int) := of_decide_eq_true (by first | (with_reducible assumption) | assumption)
                           have q193 : (rd t187 x33_3) < (t181.length : Int) := of_decide_eq_true (by first | (with_reducible assumption) | assumption)
                           obtain ⟨ad193, A193_7, c193_7, A193_8, c193_8, e193, hx193_0, hx193_1, hx193_2, hx193_3, hx193_4, hx193_5, hx193_6, hx193_7, hx193_8, hl193_7, hi193_7, hl193_8, hi193_8⟩ := at_T32 (Kd.S_reads' HO_3.out).2.2 (rd t187 x33_3) p193 q193
                           obtain rfl : ad192 = ad193 := (by injection e193)
                           obtain ⟨ce193, hce193, hMe193, hcc193⟩ := Kd.S_get HO_3.out z32 (rd t187 x33_3) p193 (by first | exact q193 | exact of_decide_eq_true (by first | (with_reducible assumption) | assumption) | (have e_ := (Kd.S_reads' HO_3.out).1; omega))
                           obtain ⟨ve193_7, ve193_8, rfl, ge193_7, ge193_8⟩ := k32_openM hMe193
                           have hv193_7 := hcc193 7 _ rfl
                           rw [add_field _ _ 7 (by omega)] at hv193_7
                           replace hv193_7 := Option.some.inj (hv193_7.symm.trans hx193_7)
                           rw [hv193_7] at ge193_7
                           have HL193_7 := aM (show Kd.R (Kd.int .i64) 3 _ _ _ _ ((rd_T32 t181 (rd t187 x33_3)).f6) from ge193_7)
                           clear hv193_7 ge193_7
                           have hv193_8 := hcc193 8 _ rfl
                           rw [add_field _ _ 8 (by omega)] at hv193_8
                           replace hv193_8 := Option.some.inj (hv193_8.symm.trans hx193_8)
                           rw [hv193_8] at ge193_8
                           have HL193_8 := aM (show Kd.R k69 69 _ _ _ _ ((rd_T32 t181 (rd t187 x33_3)).f7) from ge193_8)
                           clear hv193_8 ge193_8
                           clear hcc193 hce193
                           have HR193_7 := aM hi193_7
                           have HC193_7 := aM hl193_7
                           clear hi193_7 hl193_7
                           have HR193_8 := aM hi193_8
                           have HC193_8 := aM hl193_8
                           clear hi193_8 hl193_8
                           replace p193 := eq_true p193
                           replace q193 := eq_true q193
                           have ea_ := Option.some.inj (hx192_7.symm.trans hx193_7)
                           injection ea_ with ea_ en_ ec_
                           subst ea_
                           subst ec_
                           clear en_
                           have ea_ := Option.some.inj (hx192_8.symm.trans hx193_8)
                           injection ea_ with ea_ en_ ec_
                           subst ea_
                           subst ec_
                           clear en_
                           have p195 : 0 ≤ (0 : Int) := (by omega)
                           have q195 : 0 < (t187.length : Int) := of_decide_eq_true (by first | (with_reducible assumption) | assumption)
                           obtain ⟨ad195, e195, hx195_0⟩ := Kd.at_int (Kd.R_reads' HO_7.out).2.2 0 p195 q195
                           obtain rfl : ad190 = ad195 := (by injection e195)
                           have qi195 : (0 < t187.length) = True := eq_true (by omega)
                           (try rw [show ((0 : Int)).toNat = 0 from rfl] at hx195_0)
                           (try rw [Addr.add_zero'] at hx195_0)
                           replace p195 := eq_true p195
                           replace q195 := eq_true q195
                           refine start_ (n := 48) (S := fun w' => w'.cell? (ad190.add ((ji28)).toNat) = some (.int .i64 (rd t187 (ji28))) ∧ w'.cell? (ad192.add (((rd t187 x33_3)).toNat * 9)) = some (.int .i64 ((rd_T32 t181 (rd t187 x33_3)).f0)) ∧ w'.cell? ⟨(ad192.add (((rd t187 x33_3)).toNat * 9)).block, (ad192.add (((rd t187 x33_3)).toNat * 9)).off + 1, none⟩ = some (.int .i64 ((rd_T32 t181 (rd t187 x33_3)).f1)) ∧ w'.cell? ⟨(ad192.add (((rd t187 x33_3)).toNat * 9)).block, (ad192.add (((rd t187 x33_3)).toNat * 9)).off + 2, none⟩ = some (.int .i64 ((rd_T32 t181 (rd t187 x33_3)).f2.f0)) ∧ w'.cell? ⟨(ad192.add (((rd t187 x33_3)).toNat * 9)).block, (ad192.add (((rd t187 x33_3)).toNat * 9)).off + 3, none⟩ = some (.int .i64 ((rd_T32 t181 (rd t187 x33_3)).f2.f1)) ∧ w'.cell? ⟨(ad192.add (((rd t187 x33_3)).toNat * 9)).block, (ad192.add (((rd t187 x33_3)).toNat * 9)).off + 4, none⟩ = some (.int .i64 ((rd_T32 t181 (rd t187 x33_3)).f3)) ∧ w'.cell? ⟨(ad192.add (((rd t187 x33_3)).toNat * 9)).block, (ad192.add (((rd t187 x33_3)).toNat * 9)).off + 5, none⟩ = some (.int .i64 ((rd_T32 t181 (rd t187 x33_3)).f4)) ∧ w'.cell? ⟨(ad192.add (((rd t187 x33_3)).toNat * 9)).block, (ad192.add (((rd t187 x33_3)).toNat * 9)).off + 6, none⟩ = some (.int .i64 ((rd_T32 t181 (rd t187 x33_3)).f5)) ∧ w'.cell? ⟨(ad192.add (((rd t187 x33_3)).toNat * 9)).block, (ad192.add (((rd t187 x33_3)).toNat * 9)).off + 7, none⟩ = some (.slice A192_7 ((rd_T32 t181 (rd t187 x33_3)).f6).length c192_7) ∧ w'.cell? ⟨(ad192.add (((rd t187 x33_3)).toNat * 9)).block, (ad192.add (((rd t187 x33_3)).toNat * 9)).off + 8, none⟩ = some (.slice A192_8 ((rd_T32 t181 (rd t187 x33_3)).f7).length c192_8) ∧ w'.cell? (ad192.add (((rd t187 x33_3)).toNat * 9)) = some (.int .i64 ((rd_T32 t181 (rd t187 x33_3)).f0)) ∧ w'.cell? ⟨(ad192.add (((rd t187 x33_3)).toNat * 9)).block, (ad192.add (((rd t187 x33_3)).toNat * 9)).off + 1, none⟩ = some (.int .i64 ((rd_T32 t181 (rd t187 x33_3)).f1)) ∧ w'.cell? ⟨(ad192.add (((rd t187 x33_3)).toNat * 9)).block, (ad192.add (((rd t187 x33_3)).toNat * 9)).off + 2, none⟩ = some (.int .i64 ((rd_T32 t181 (rd t187 x33_3)).f2.f0)) ∧ w'.cell? ⟨(ad192.add (((rd t187 x33_3)).toNat * 9)).block, (ad192.add (((rd t187 x33_3)).toNat * 9)).off + 3, none⟩ = some (.int .i64 ((rd_T32 t181 (rd t187 x33_3)).f2.f1)) ∧ w'.cell? ⟨(ad192.add (((rd t187 x33_3)).toNat * 9)).block, (ad192.add (((rd t187 x33_3)).toNat * 9)).off + 4, none⟩ = some (.int .i64 ((rd_T32 t181 (rd t187 x33_3)).f3)) ∧ w'.cell? ⟨(ad192.add (((rd t187 x33_3)).toNat * 9)).block, (ad192.add (((rd t187 x33_3)).toNat * 9)).off + 5, none⟩ = some (.int .i64 ((rd_T32 t181 (rd t187 x33_3)).f4)) ∧ w'.cell? ⟨(ad192.add (((rd t187 x33_3)).toNat * 9)).block, (ad192.add (((rd t187 x33_3)).toNat * 9)).off + 6, none⟩ = some (.int .i64 ((rd_T32 t181 (rd t187 x33_3)).f5)) ∧ w'.cell? ⟨(ad192.add (((rd t187 x33_3)).toNat * 9)).block, (ad192.add (((rd t187 x33_3)).toNat * 9)).off + 7, none⟩ = some (.slice A192_7 ((rd_T32 t181 (rd t187 x33_3)).f6).length c192_7) ∧ w'.cell? ⟨(ad192.add (((rd t187 x33_3)).toNat * 9)).block, (ad192.add (((rd t187 x33_3)).toNat * 9)).off + 8, none⟩ = some (.slice A192_8 ((rd_T32 t181 (rd t187 x33_3)).f7).length c192_8) ∧ w'.cell? ad190 = some (.int .i64 (rd t187 0))) (ds := []) (rollbacknetlaw14_NetworkChannels.t48 0) (by kernel_rfl) rfl rfl ⟨hx191_0, hx192_0, hx192_1, hx192_2, hx192_3, hx192_4, hx192_5, hx192_6, hx192_7, hx192_8, hx193_0, hx193_1, hx193_2, hx193_3, hx193_4, hx193_5, hx193_6, hx193_7, hx193_8, hx195_0⟩ (fun hHeld => ?_); refine with_tabW rollbacknetlaw14_NetworkChannels.tab15 rollbacknetlaw14_NetworkChannels.bits15 (fun HT_ HW_ => ?_)
                           generalize wr.drew = w41 at HO_3 HO_4 HO_7 HO_31 HB HL192_7 HL192_8 HL193_7 HL193_8 HR192_7 HR192_8 HR193_7 HR193_8 hx191_0 hx192_0 hx192_1 hx192_2 hx192_3 hx192_4 hx192_5 hx192_6 hx192_7 hx192_8 hx193_0 hx193_1 hx193_2 hx193_3 hx193_4 hx193_5 hx193_6 hx193_7 hx193_8 hx195_0 hHeld ⊢
                           refine rollbacknetlaw14_NetworkChannels.in48 0 ?_; iterate 16 (first | (refine rollbacknetlaw14_NetworkChannels.p48 (d := 38) rfl rfl (any_of HT_.out (by kernel_rfl)) (fun _ _ _ h => h) (v := undef) (Or.inr ⟨by rfl, rfl⟩) (a' := ?_) ?_ ?_; rotate_left; (simp only [Act.put, List.setIfInBounds_toArray, List.set_cons_zero, List.set_cons_succ, i64_w, i32_w, Nat.reduceAdd]; rfl)) | (refine rollbacknetlaw14_NetworkChannels.p48 (d := 38) rfl rfl (any_of HT_.out (by kernel_rfl)) (fun _ _ _ h => h) (v := ?_) (Or.inl ⟨by rfl, ?_⟩) (a' := ?_) ?_ ?_; rotate_left; (intro w'; go_simp; with_reducible rfl); rotate_left; (simp only [Act.put, List.setIfInBounds_toArray, List.set_cons_zero, List.set_cons_succ, i64_w, i32_w, Nat.reduceAdd]; rfl)))
                           refine pure_ (i := 17) (N := some 55) (v := ?_) (a' := ?_) (rollbacknetlaw14_NetworkChannels.t48 196607) rfl rfl (any_of HT_.out (by kernel_rfl)) (fun _ _ _ h => h) (Or.inl ⟨by rfl, ?_⟩) ?_ ?_; rotate_left; (intro w'; go_simp; with_reducible rfl); rotate_left; (simp only [Act.put, List.setIfInBounds_toArray, List.set_cons_zero, List.set_cons_succ, i64_w, i32_w]; rfl)
                           refine take_ (i := 16) (N := some 54) (v := ?_) (a' := ?_) (rollbacknetlaw14_NetworkChannels.t48 262143) rfl rfl (take_ofW HT_.out HW_.out (by kernel_rfl)) (fun _ _ _ h => h) (Or.inl ⟨by rfl, ?_⟩) hHeld ?_ ?_; rotate_left; (rintro w' ⟨s0, s1, s2, s3, s4, s5, s6, s7, s8, s9, s10, s11, s12, s13, s14, s15, s16, s17, s18, s19⟩; go_simp; with_reducible rfl); rotate_left; (simp only [Act.put, List.setIfInBounds_toArray, List.set_cons_zero, List.set_cons_succ, i64_w, i32_w]; rfl)
                           refine rollbacknetlaw14_NetworkChannels.in48 18 ?_; iterate 8 (first | (refine rollbacknetlaw14_NetworkChannels.p48 (d := 38) rfl rfl (any_of HT_.out (by kernel_rfl)) (fun _ _ _ h => h) (v := undef) (Or.inr ⟨by rfl, rfl⟩) (a' := ?_) ?_ ?_; rotate_left; (simp only [Act.put, List.setIfInBounds_toArray, List.set_cons_zero, List.set_cons_succ, i64_w, i32_w, Nat.reduceAdd]; rfl)) | (refine rollbacknetlaw14_NetworkChannels.p48 (d := 38) rfl rfl (any_of HT_.out (by kernel_rfl)) (fun _ _ _ h => h) (v := ?_) (Or.inl ⟨by rfl, ?_⟩) (a' := ?_) ?_ ?_; rotate_left; (intro w'; go_simp; with_reducible rfl); rotate_left; (simp only [Act.put, List.setIfInBounds_toArray, List.set_cons_zero, List.set_cons_succ, i64_w, i32_w, Nat.reduceAdd]; rfl)))
                           refine pure_ (i := 27) (N := some 65) (v := ?_) (a' := ?_) (rollbacknetlaw14_NetworkChannels.t48 201326591) rfl rfl (any_of HT_.out (by kernel_rfl)) (fun _ _ _ h => h) (Or.inl ⟨by rfl, ?_⟩) ?_ ?_; rotate_left; (intro w'; go_simp; with_reducible rfl); rotate_left; (simp only [Act.put, List.setIfInBounds_toArray, List.set_cons_zero, List.set_cons_succ, i64_w, i32_w]; rfl)
                           refine take_ (i := 26) (N := some 64) (v := ?_) (a' := ?_) (rollbacknetlaw14_NetworkChannels.t48 268435455) rfl rfl (take_ofW HT_.out HW_.out (by kernel_rfl)) (fun _ _ _ h => h) (Or.inl ⟨by rfl, ?_⟩) hHeld ?_ ?_; rotate_left; (rintro w' ⟨s0, s1, s2, s3, s4, s5, s6, s7, s8, s9, s10, s11, s12, s13, s14, s15, s16, s17, s18, s19⟩; go_simp; with_reducible rfl); rotate_left; (simp only [Act.put, List.setIfInBounds_toArray, List.set_cons_zero, List.set_cons_succ, i64_w, i32_w]; rfl)
                           refine rollbacknetlaw14_NetworkChannels.in48 28 ?_; iterate 7 (first | (refine rollbacknetlaw14_NetworkChannels.p48 (d := 38) rfl rfl (any_of HT_.out (by kernel_rfl)) (fun _ _ _ h => h) (v := undef) (Or.inr ⟨by rfl, rfl⟩) (a' := ?_) ?_ ?_; rotate_left; (simp only [Act.put, List.setIfInBounds_toArray, List.set_cons_zero, List.set_cons_succ, i64_w, i32_w, Nat.reduceAdd]; rfl)) | (refine rollbacknetlaw14_NetworkChannels.p48 (d := 38) rfl rfl (any_of HT_.out (by kernel_rfl)) (fun _ _ _ h => h) (v := ?_) (Or.inl ⟨by rfl, ?_⟩) (a' := ?_) ?_ ?_; rotate_left; (intro w'; go_simp; with_reducible rfl); rotate_left; (simp only [Act.put, List.setIfInBounds_toArray, List.set_cons_zero, List.set_cons_succ, i64_w, i32_w, Nat.reduceAdd]; rfl)))
                           refine pure_ (i := 36) (N := some 74) (v := ?_) (a' := ?_) (rollbacknetlaw14_NetworkChannels.t48 103079215103) rfl rfl (any_of HT_.out (by kernel_rfl)) (fun _ _ _ h => h) (Or.inl ⟨by rfl, ?_⟩) ?_ ?_; rotate_left; (intro w'; go_simp; with_reducible rfl); rotate_left; (simp only [Act.put, List.setIfInBounds_toArray, List.set_cons_zero, List.set_cons_succ, i64_w, i32_w]; rfl)
                           refine take_ (i := 35) (N := some 73) (v := ?_) (a' := ?_) (rollbacknetlaw14_NetworkChannels.t48 137438953471) rfl rfl (take_ofW HT_.out HW_.out (by kernel_rfl)) (fun _ _ _ h => h) (Or.inl ⟨by rfl, ?_⟩) hHeld ?_ ?_; rotate_left; (rintro w' ⟨s0, s1, s2, s3, s4, s5, s6, s7, s8, s9, s10, s11, s12, s13, s14, s15, s16, s17, s18, s19⟩; go_simp; with_reducible rfl); rotate_left; (simp only [Act.put, List.setIfInBounds_toArray, List.set_cons_zero, List.set_cons_succ, i64_w, i32_w]; rfl)
                           refine rollbacknetlaw14_NetworkChannels.in48 37 ?_; iterate 5 (first | (refine rollbacknetlaw14_NetworkChannels.p48 (d := 38) rfl rfl (any_of HT_.out (by kernel_rfl)) (fun _ _ _ h => h) (v := undef) (Or.inr ⟨by rfl, rfl⟩) (a' := ?_) ?_ ?_; rotate_left; (simp only [Act.put, List.setIfInBounds_toArray, List.set_cons_zero, List.set_cons_succ, i64_w, i32_w, Nat.reduceAdd]; rfl)) | (refine rollbacknetlaw14_NetworkChannels.p48 (d := 38) rfl rfl (any_of HT_.out (by kernel_rfl)) (fun _ _ _ h => h) (v := ?_) (Or.inl ⟨by rfl, ?_⟩) (a' := ?_) ?_ ?_; rotate_left; (intro w'; go_simp; with_reducible rfl); rotate_left; (simp only [Act.put, List.setIfInBounds_toArray, List.set_cons_zero, List.set_cons_succ, i64_w, i32_w, Nat.reduceAdd]; rfl)))
                           refine pure_ (i := 43) (N := some 81) (v := ?_) (a' := ?_) (rollbacknetlaw14_NetworkChannels.t48 13194139533311) rfl rfl (any_of HT_.out (by kernel_rfl)) (fun _ _ _ h => h) (Or.inl ⟨by rfl, ?_⟩) ?_ ?_; rotate_left; (intro w'; go_simp; with_reducible rfl); rotate_left; (simp only [Act.put, List.setIfInBounds_toArray, List.set_cons_zero, List.set_cons_succ, i64_w, i32_w]; rfl)
                           refine pure_ (i := 44) (N := some 82) (v := ?_) (a' := ?_) (rollbacknetlaw14_NetworkChannels.t48 30786325577727) rfl rfl (any_of HT_.out (by kernel_rfl)) (fun _ _ _ h => h) (Or.inl ⟨by rfl, ?_⟩) ?_ ?_; rotate_left; (intro w'; go_simp; with_reducible rfl); rotate_left; (simp only [Act.put, List.setIfInBounds_toArray, List.set_cons_zero, List.set_cons_succ, i64_w, i32_w]; rfl)
                           refine take_ (i := 45) (N := some 83) (v := ?_) (a' := ?_) (rollbacknetlaw14_NetworkChannels.t48 65970697666559) rfl rfl (take_ofW HT_.out HW_.out (by kernel_rfl)) (fun _ _ _ h => h) (Or.inl ⟨by rfl, ?_⟩) hHeld ?_ ?_; rotate_left; (rintro w' ⟨s0, s1, s2, s3, s4, s5, s6, s7, s8, s9, s10, s11, s12, s13, s14, s15, s16, s17, s18, s19⟩; go_simp; with_reducible rfl); rotate_left; (simp only [Act.put, List.setIfInBounds_toArray, List.set_cons_zero, List.set_cons_succ, i64_w, i32_w]; rfl)
                           refine one_ (i := 42) (N := some 80) (rollbacknetlaw14_NetworkChannels.t48 70368744177663) rfl rfl (one_of HT_.out (by kernel_rfl)) (by decide) (fun K hK => ?_)
                           refine goes_ Try.func16 (by kernel_rfl) rfl #[.slice (some ad192) t181.length co11, .int .i64 (rd t187 x33_3)] (by rfl) rfl rfl (by (try simp only [List.map_toArray, List.map_cons, List.map_nil]); first | done | rfl | (simp only [List.length_drop, List.length_take]; rfl)) ?_
                           with_reducible refine (network_Oldest.calls _ _ t181 (rd t187 x33_3) t194 _ ?side1 ?side2 A37.out).mono ?_
                           (case side1 => repeat (first | exact (Kd.S_reads' HO_3.out).2.2 | (with_reducible refine Kd.C_alloc ?_ _) | (with_reducible refine Kd.C_drewN ?_ _) | (with_reducible refine Kd.C_drew ?_)))
                           (case side2 => exact (Kd.S_reads' HO_3.out).2.1)
                           rintro e w42 ⟨rfl, hb⟩
                           have HS0_ := (hb.cell (World.block_lt_of_cell? _ _ (hHeld.1))).trans (hHeld.1)
                           have HS1_ := (hb.cell (World.block_lt_of_cell? _ _ (hHeld.2.1))).trans (hHeld.2.1)
                           have HS2_ := (hb.cell (World.block_lt_of_cell? _ _ (hHeld.2.2.1))).trans (hHeld.2.2.1)
                           have HS3_ := (hb.cell (World.block_lt_of_cell? _ _ (hHeld.2.2.2.1))).trans (hHeld.2.2.2.1)
                           have HS4_ := (hb.cell (World.block_lt_of_cell? _ _ (hHeld.2.2.2.2.1))).trans (hHeld.2.2.2.2.1)
                           have HS5_ := (hb.cell (World.block_lt_of_cell? _ _ (hHeld.2.2.2.2.2.1))).trans (hHeld.2.2.2.2.2.1)
                           have HS6_ := (hb.cell (World.block_lt_of_cell? _ _ (hHeld.2.2.2.2.2.2.1))).trans (hHeld.2.2.2.2.2.2.1)
                           have HS7_ := (hb.cell (World.block_lt_of_cell? _ _ (hHeld.2.2.2.2.2.2.2.1))).trans (hHeld.2.2.2.2.2.2.2.1)
                           have HS8_ := (hb.cell (World.block_lt_of_cell? _ _ (hHeld.2.2.2.2.2.2.2.2.1))).trans (hHeld.2.2.2.2.2.2.2.2.1)
                           have HS9_ := (hb.cell (World.block_lt_of_cell? _ _ (hHeld.2.2.2.2.2.2.2.2.2.1))).trans (hHeld.2.2.2.2.2.2.2.2.2.1)
                           have HS10_ := (hb.cell (World.block_lt_of_cell? _ _ (hHeld.2.2.2.2.2.2.2.2.2.2.1))).trans (hHeld.2.2.2.2.2.2.2.2.2.2.1)
                           have HS11_ := (hb.cell (World.block_lt_of_cell? _ _ (hHeld.2.2.2.2.2.2.2.2.2.2.2.1))).trans (hHeld.2.2.2.2.2.2.2.2.2.2.2.1)
                           have HS12_ := (hb.cell (World.block_lt_of_cell? _ _ (hHeld.2.2.2.2.2.2.2.2.2.2.2.2.1))).trans (hHeld.2.2.2.2.2.2.2.2.2.2.2.2.1)
                           have HS13_ := (hb.cell (World.block_lt_of_cell? _ _ (hHeld.2.2.2.2.2.2.2.2.2.2.2.2.2.1))).trans (hHeld.2.2.2.2.2.2.2.2.2.2.2.2.2.1)
                           have HS14_ := (hb.cell (World.block_lt_of_cell? _ _ (hHeld.2.2.2.2.2.2.2.2.2.2.2.2.2.2.1))).trans (hHeld.2.2.2.2.2.2.2.2.2.2.2.2.2.2.1)
                           have HS15_ := (hb.cell (World.block_lt_of_cell? _ _ (hHeld.2.2.2.2.2.2.2.2.2.2.2.2.2.2.2.1))).trans (hHeld.2.2.2.2.2.2.2.2.2.2.2.2.2.2.2.1)
                           have HS16_ := (hb.cell (World.block_lt_of_cell? _ _ (hHeld.2.2.2.2.2.2.2.2.2.2.2.2.2.2.2.2.1))).trans (hHeld.2.2.2.2.2.2.2.2.2.2.2.2.2.2.2.2.1)
                           have HS17_ := (hb.cell (World.block_lt_of_cell? _ _ (hHeld.2.2.2.2.2.2.2.2.2.2.2.2.2.2.2.2.2.1))).trans (hHeld.2.2.2.2.2.2.2.2.2.2.2.2.2.2.2.2.2.1)
                           have HS18_ := (hb.cell (World.block_lt_of_cell? _ _ (hHeld.2.2.2.2.2.2.2.2.2.2.2.2.2.2.2.2.2.2.1))).trans (hHeld.2.2.2.2.2.2.2.2.2.2.2.2.2.2.2.2.2.2.1)
                           have HS19_ := (hb.cell (World.block_lt_of_cell? _ _ (hHeld.2.2.2.2.2.2.2.2.2.2.2.2.2.2.2.2.2.2.2))).trans (hHeld.2.2.2.2.2.2.2.2.2.2.2.2.2.2.2.2.2.2.2)
                           refine ⟨_, rfl, ?_⟩
                           have n0_ := aM (Kd.S_below (by (with_reducible repeat (first | apply Kd.S_alloc | apply Kd.S_drewN | apply Kd.S_drew)); exact HO_3.out) hb)
                           have n1_ := aM (Kd.R_below (by (with_reducible repeat (first | apply Kd.R_alloc | apply Kd.R_drewN | apply Kd.R_drew)); exact HO_4.out) hb)
                           have n2_ := aM (Kd.R_below (by (with_reducible repeat (first | apply Kd.R_alloc | apply Kd.R_drewN | apply Kd.R_drew)); exact HO_7.out) hb)
                           have n3_ := aM (Kd.R_below (by (with_reducible repeat (first | apply Kd.R_alloc | apply Kd.R_drewN | apply Kd.R_drew)); exact HO_31.out) hb)
                           have n4_ := aM (Kd.R_below (by (with_reducible repeat (first | apply Kd.R_alloc | apply Kd.R_drewN | apply Kd.R_drew)); exact HL192_7.out) hb)
                           have n5_ := aM (Kd.R_below (by (with_reducible repeat (first | apply Kd.R_alloc | apply Kd.R_drewN | apply Kd.R_drew)); exact HL192_8.out) hb)
                           have n6_ := aM (Kd.R_below (by (with_reducible repeat (first | apply Kd.R_alloc | apply Kd.R_drewN | apply Kd.R_drew)); exact HL193_7.out) hb)
                           have n7_ := aM (Kd.R_below (by (with_reducible repeat (first | apply Kd.R_alloc | apply Kd.R_drewN | apply Kd.R_drew)); exact HL193_8.out) hb)
                           have n8_ := aM (Kd.C_below (by repeat (first | (with_reducible exact HR192_7.out) | (with_reducible refine Kd.C_alloc ?_ _) | (with_reducible refine Kd.C_drewN ?_ _) | (with_reducible refine Kd.C_drew ?_) | exact HR192_7.out)) hb)
                           have n9_ := aM (Kd.C_below (by repeat (first | (with_reducible exact HR192_8.out) | (with_reducible refine Kd.C_alloc ?_ _) | (with_reducible refine Kd.C_drewN ?_ _) | (with_reducible refine Kd.C_drew ?_) | exact HR192_8.out)) hb)
                           have n10_ := aM (Kd.C_below (by repeat (first | (with_reducible exact HR193_7.out) | (with_reducible refine Kd.C_alloc ?_ _) | (with_reducible refine Kd.C_drewN ?_ _) | (with_reducible refine Kd.C_drew ?_) | exact HR193_7.out)) hb)
                           have n11_ := aM (Kd.C_below (by repeat (first | (with_reducible exact HR193_8.out) | (with_reducible refine Kd.C_alloc ?_ _) | (with_reducible refine Kd.C_drewN ?_ _) | (with_reducible refine Kd.C_drew ?_) | exact HR193_8.out)) hb)
                           have n12_ := aM (below_step (by repeat (first | (with_reducible first | exact HB.out | apply wA | apply wN | apply wD) | exact HB.out)) hb)
                           clear HO_3
                           clear HO_4
                           clear HO_7
                           clear HO_31
                           clear HL192_7
                           clear HL192_8
                           clear HL193_7
                           clear HL193_8
                           clear HR192_7
                           clear HR192_8
                           clear HR193_7
                           clear HR193_8
                           clear HB
                           have HO_3 := n0_
                           have HO_4 := n1_
                           have HO_7 := n2_
                           have HO_31 := n3_
                           have HL192_7 := n4_
                           have HL192_8 := n5_
                           have HL193_7 := n6_
                           have HL193_8 := n7_
                           have HR192_7 := n8_
                           have HR192_8 := n9_
                           have HR193_7 := n10_
                           have HR193_8 := n11_
                           have HB := n12_
                           clear n0_ n1_ n2_ n3_ n4_ n5_ n6_ n7_ n8_ n9_ n10_ n11_ n12_
                           (try clear hb)
                           (try clear hb2)
                           (try clear hk)
                           (try clear hi)
                           (try clear hge_)
                           refine hK.out _ _ ⟨HS0_, HS1_, HS2_, HS3_, HS4_, HS5_, HS6_, HS7_, HS8_, HS9_, HS10_, HS11_, HS12_, HS13_, HS14_, HS15_, HS16_, HS17_, HS18_, HS19_⟩ (fun hHeld => ?_)
                           clear hK K
                           refine norm_ (a' := ?_) ?_ ?_
                           rotate_left
                           ·show Act.put _ (some 80) _ = _
                            simp only [Act.put, List.setIfInBounds_toArray, List.set_cons_zero, List.set_cons_succ, i64_w, i32_w]
                            rfl
                           refine pure_ (i := 46) (N := some 84) (v := ?_) (a' := ?_) (rollbacknetlaw14_NetworkChannels.t48 140737488355327) rfl rfl (any_of HT_.out (by kernel_rfl)) (fun _ _ _ h => h) (Or.inl ⟨by rfl, ?_⟩) ?_ ?_; rotate_left; (intro w'; go_simp; with_reducible rfl); rotate_left; (simp only [Act.put, List.setIfInBounds_toArray, List.set_cons_zero, List.set_cons_succ, i64_w, i32_w]; rfl)
                           refine pure_ (i := 47) (N := some 85) (v := ?_) (a' := ?_) (rollbacknetlaw14_NetworkChannels.t48 281474976710655) rfl rfl (any_of HT_.out (by kernel_rfl)) (fun _ _ _ h => h) (Or.inl ⟨by rfl, ?_⟩) ?_ ?_; rotate_left; (intro w'; go_simp; with_reducible rfl); rotate_left; (simp only [Act.put, List.setIfInBounds_toArray, List.set_cons_zero, List.set_cons_succ, i64_w, i32_w]; rfl)
                           refine done_ (done_of HT_.out (by kernel_rfl)) ?_
                           go_upto_region 17 with (fail)
                           have H := HC40.out
                           clear HC40
                           by_cases c43 : (rd t187 x33_3) < (x4_3.length : Int)
                           ·rw [if_pos c43] at H
                            have c43b0 : decide ((rd t187 x33_3) < (x4_3.length : Int)) = true := decide_eq_true c43
                            clear c43
                            obtain ⟨y197, hy197⟩ : ∃ y_ : List Int, y_ = (x4_3.set ((rd t187 x33_3) : Int).toNat (wrap64 ((rd x4_3 (rd t187 x33_3)) + 1))) := ⟨_, rfl⟩
                            replace H : (rollbacknetlaw14_NetworkChannels.l2 k3 t181 y197 x5_1 x6_2 t187 t187 (t187.length : Int) (wrap64 (x33_3 + 1))) = some r := by first | (rw [hy197]; with_reducible exact H) | (have H2_ := (Option.bind_some _ _).symm.trans H; rw [hy197]; with_reducible exact H2_) | (have H2_ := (Option.bind_some _ _).symm.trans H; with_reducible exact H2_) | with_reducible exact H | (rw [hy197]; exact H) | exact H
                            have Ny197 := aM hy197
                            clear hy197
                            have H' := aM H
                            clear H
                            obtain ⟨Ao45, co45, eo45⟩ := Kd.R_slice HO_4.out
                            subst eo45
                            have p196 : 0 ≤ ((rd t187 x33_3) : Int) := of_decide_eq_true (by first | (with_reducible assumption) | assumption)
                            have q196 : (rd t187 x33_3) < (x4_3.length : Int) := of_decide_eq_true (by first | (with_reducible assumption) | assumption)
                            obtain ⟨ad196, e196, hx196_0⟩ := Kd.at_int (Kd.R_reads' HO_4.out).2.2 (rd t187 x33_3) p196 q196
                            cases e196
                            replace p196 := eq_true p196
                            replace q196 := eq_true q196
                            have p44 : 0 ≤ ((rd t187 x33_3) : Int) := of_decide_eq_true (by first | (with_reducible assumption) | assumption)
                            have q44 : ((rd t187 x33_3) : Int) < ((x4_3.length : Int) : Int) := of_decide_eq_true (by first | (with_reducible assumption) | assumption)
                            obtain ⟨go44, co44, eo44, gb44, gl44, cl44, HG44⟩ := Kd.R_form HO_4.out (by omega)
                            (first | cases eo44 | (injection eo44 with ea_ en_ ec_; (first | subst ea_ | (injection ea_ with ea_; subst ea_)); subst ec_; clear en_))
                            have GB44 := aM gb44
                            have GG44 := aM HG44
                            clear gb44 gl44 HG44
                            (first | simp only [add_plain] at hx196_0 | skip)
                            obtain ⟨hx44_0, hf44_0⟩ := Kd.R_celln 0 HO_4.out ((rd t187 x33_3) : Int) p44 q44
                            replace p44 := eq_true p44
                            replace q44 := eq_true q44
                            have HP46 := Kd.R_putg HO_4.out ((rd t187 x33_3) : Int) (wrap64 ((rd x4_3 (rd t187 x33_3)) + 1))
                            go_wp2_with (first | ((with_reducible refine gate_store (t := 3) (p := 91) rfl ?_); refine store_event (t := 3) (p := 91) (v := ?vo_w47) (w1 := (w42.setCell ⟨go44, ((rd t187 x33_3) : Int).toNat, none⟩ (.int .i64 (wrap64 ((rd x4_3 (rd t187 x33_3)) + 1))))) ?hg ?ho ?hn ?hr ?_; (case ho => rfl); (case hg => rfl); (case hn => rfl); (case hr => first | (go_simp; done) | (go_simp; rfl)); intro w47 hw; have hg : w42.grownBy w47 (some go44) := (by rw [hw]; exact HP46.2); have hp_ : Kd.R (Kd.int .i64) 3 w47 w.heap.size (fun k_ => some k_ ≠ (.slice (some ad190) t187.length co19 : Value).ownBlock ∧ some k_ ≠ (.slice (some ad190) t187.length co19 : Value).ownBlock) (.slice (some ⟨go44, 0, none⟩) x4_3.length co45) y197 := (by rw [hw, Ny197.out]; exact HP46.1); clear HP46; have n0_ := aM (Kd.S_after (v := (.slice (some ⟨go44, 0, none⟩) x4_3.length co45)) (v1 := (.slice (some ⟨go44, 0, none⟩) x4_3.length co45)) (ok := (fun k_ => some k_ ≠ (.slice (some ad190) t187.length co19 : Value).ownBlock ∧ some k_ ≠ (.slice (some ad190) t187.length co19 : Value).ownBlock)) (by (with_reducible repeat (first | apply Kd.S_alloc | apply Kd.S_drewN | apply Kd.S_drew)); exact Kd.S_mono HO_3.out (fun _ hk => ⟨⟨hk.2.1, hk.2.2⟩, hk.1⟩)) hg (.inl rfl)); have n1_ := aM (hp_); have n2_ := aM (Kd.R_after (v := (.slice (some ⟨go44, 0, none⟩) x4_3.length co45)) (v1 := (.slice (some ⟨go44, 0, none⟩) x4_3.length co45)) (ok := (fun _ => True)) (by (with_reducible repeat (first | apply Kd.R_alloc | apply Kd.R_drewN | apply Kd.R_drew)); exact Kd.R_mono HO_7.out (fun _ hk => ⟨trivial, hk⟩)) hg (.inl rfl)); have n3_ := aM (Kd.R_after (v := (.slice (some ⟨go44, 0, none⟩) x4_3.length co45)) (v1 := (.slice (some ⟨go44, 0, none⟩) x4_3.length co45)) (ok := (fun _ => True)) (by (with_reducible repeat (first | apply Kd.R_alloc | apply Kd.R_drewN | apply Kd.R_drew)); exact Kd.R_mono HO_31.out (fun _ hk => ⟨trivial, hk⟩)) hg (.inl rfl)); have n4_ := aM (Kd.R_after (v := (.slice (some ⟨go44, 0, none⟩) x4_3.length co45)) (v1 := (.slice (some ⟨go44, 0, none⟩) x4_3.length co45)) (ok := (fun k_ => some k_ ≠ (.slice (some ad192) t181.length co11 : Value).ownBlock ∧ some k_ ≠ (.slice (some ad190) t187.length co19 : Value).ownBlock ∧ some k_ ≠ (.slice (some ad190) t187.length co19 : Value).ownBlock)) (by (with_reducible repeat (first | apply Kd.R_alloc | apply Kd.R_drewN | apply Kd.R_drew)); exact Kd.R_mono HL192_7.out (fun _ hk => ⟨⟨hk.2, ⟨hk.1.2.1, hk.1.2.2⟩⟩, hk.1.1⟩)) hg (.inl rfl)); have n5_ := aM (Kd.R_after (v := (.slice (some ⟨go44, 0, none⟩) x4_3.length co45)) (v1 := (.slice (some ⟨go44, 0, none⟩) x4_3.length co45)) (ok := (fun k_ => some k_ ≠ (.slice (some ad192) t181.length co11 : Value).ownBlock ∧ some k_ ≠ (.slice (some ad190) t187.length co19 : Value).ownBlock ∧ some k_ ≠ (.slice (some ad190) t187.length co19 : Value).ownBlock)) (by (with_reducible repeat (first | apply Kd.R_alloc | apply Kd.R_drewN | apply Kd.R_drew)); exact Kd.R_mono HL192_8.out (fun _ hk => ⟨⟨hk.2, ⟨hk.1.2.1, hk.1.2.2⟩⟩, hk.1.1⟩)) hg (.inl rfl)); have n6_ := aM (Kd.R_after (v := (.slice (some ⟨go44, 0, none⟩) x4_3.length co45)) (v1 := (.slice (some ⟨go44, 0, none⟩) x4_3.length co45)) (ok := (fun k_ => some k_ ≠ (.slice (some ad192) t181.length co11 : Value).ownBlock ∧ some k_ ≠ (.slice (some ad190) t187.length co19 : Value).ownBlock ∧ some k_ ≠ (.slice (some ad190) t187.length co19 : Value).ownBlock)) (by (with_reducible repeat (first | apply Kd.R_alloc | apply Kd.R_drewN | apply Kd.R_drew)); exact Kd.R_mono HL193_7.out (fun _ hk => ⟨⟨hk.2, ⟨hk.1.2.1, hk.1.2.2⟩⟩, hk.1.1⟩)) hg (.inl rfl)); have n7_ := aM (Kd.R_after (v := (.slice (some ⟨go44, 0, none⟩) x4_3.length co45)) (v1 := (.slice (some ⟨go44, 0, none⟩) x4_3.length co45)) (ok := (fun k_ => some k_ ≠ (.slice (some ad192) t181.length co11 : Value).ownBlock ∧ some k_ ≠ (.slice (some ad190) t187.length co19 : Value).ownBlock ∧ some k_ ≠ (.slice (some ad190) t187.length co19 : Value).ownBlock)) (by (with_reducible repeat (first | apply Kd.R_alloc | apply Kd.R_drewN | apply Kd.R_drew)); exact Kd.R_mono HL193_8.out (fun _ hk => ⟨⟨hk.2, ⟨hk.1.2.1, hk.1.2.2⟩⟩, hk.1.1⟩)) hg (.inl rfl)); have n8_ := aM ((by rw [hw]; exact below_set (HB.out) GB44.out : Below w.heap.size w w47)); clear HO_3; clear HO_4; clear HO_7; clear HO_31; clear HL192_7; clear HL192_8; clear HL193_7; clear HL193_8; clear HB; have HO_3 := n0_; have HO_4 := n1_; have HO_7 := n2_; have HO_31 := n3_; have HL192_7 := n4_; have HL192_8 := n5_; have HL193_7 := n6_; have HL193_8 := n7_; have HB := n8_; clear n0_ n1_ n2_ n3_ n4_ n5_ n6_ n7_ n8_; clear hg hw hp_))
                            go_roundg k3
                            case measure => have := HK1.out; have := HK2.out; have := HK3.out; omega
                            case rel => exact ⟨(y197), (wrap64 (x33_3 + 1)), (by first | rfl | (simp; done) | (simp [*]; done)), H', ⟨by have := HK1.out; have := HK2.out; have := HK3.out; omega⟩, ⟨by (with_reducible repeat (first | apply Kd.S_alloc | apply Kd.S_drewN | apply Kd.S_drew)); exact Kd.S_mono HO_3.out (fun _ hk => ⟨hk.2, ⟨hk.1.1, hk.1.2⟩⟩)⟩, ⟨by (with_reducible repeat (first | apply Kd.R_alloc | apply Kd.R_drewN | apply Kd.R_drew)); exact HO_4.out⟩, ⟨by (with_reducible repeat (first | apply Kd.R_alloc | apply Kd.R_drewN | apply Kd.R_drew)); exact Kd.R_mono HO_7.out (fun _ hk => hk.2)⟩, ⟨by (with_reducible repeat (first | apply Kd.R_alloc | apply Kd.R_drewN | apply Kd.R_drew)); exact Kd.R_mono HO_31.out (fun _ hk => hk.2)⟩, ⟨by repeat (first | (with_reducible first | exact HB.out | apply wA | apply wN | apply wD) | exact HB.out)⟩⟩
                           ·rw [if_neg c43] at H
                            exact absurd H (by simp)
                          ·rw [if_neg c39] at H
                           have c39b0 : (t194 == (rd t187 0)) = false := beq_eq_false_iff_ne.mpr c39
                           have c39b1 : (t194 != (rd t187 0)) = true := bne_iff_ne.mpr c39
                           have HC48 := aM H
                           clear H
                           have p190 : 0 ≤ (x33_3 : Int) := of_decide_eq_true (by first | (with_reducible assumption) | assumption)
                           have q190 : x33_3 < (t187.length : Int) := of_decide_eq_true (by first | (with_reducible assumption) | assumption)
                           obtain ⟨ad190, e190, hx190_0⟩ := Kd.at_int (Kd.R_reads' HO_31.out).2.2 x33_3 p190 q190
                           cases e190
                           replace p190 := eq_true p190
                           replace q190 := eq_true q190
                           try go_wp2
                           have n0_ := aM (Kd.S_drew HO_3.out)
                           have n1_ := aM (Kd.R_drew HO_4.out)
                           have n2_ := aM (Kd.R_drew HO_7.out)
                           have n3_ := aM (Kd.R_drew HO_31.out)
                           have n4_ := aM (wD HB.out)
                           clear HO_3
                           clear HO_4
                           clear HO_7
                           clear HO_31
                           clear HB
                           have HO_3 := n0_
                           have HO_4 := n1_
                           have HO_7 := n2_
                           have HO_31 := n3_
                           have HB := n4_
                           clear n0_ n1_ n2_ n3_ n4_
                           have p191 : 0 ≤ ((ji28) : Int) := of_decide_eq_true (by first | (with_reducible assumption) | assumption)
                           have q191 : (ji28) < (t187.length : Int) := of_decide_eq_true (by first | (with_reducible assumption) | assumption)
                           obtain ⟨ad191, e191, hx191_0⟩ := Kd.at_int (Kd.R_reads' HO_7.out).2.2 (ji28) p191 q191
                           obtain rfl : ad190 = ad191 := (by injection e191)
                           replace p191 := eq_true p191
                           replace q191 := eq_true q191
                           have p192 : 0 ≤ ((rd t187 x33_3) : Int) := of_decide_eq_true (by first | (with_reducible assumption) | assumption)
                           have q192 : (rd t187 x33_3) < (t181.length : Int) := of_decide_eq_true (by first | (with_reducible assumption) | assumption)
                           obtain ⟨ad192, A192_7, c192_7, A192_8, c192_8, e192, hx192_0, hx192_1, hx192_2, hx192_3, hx192_4, hx192_5, hx192_6, hx192_7, hx192_8, hl192_7, hi192_7, hl192_8, hi192_8⟩ := at_T32 (Kd.S_reads' HO_3.out).2.2 (rd t187 x33_3) p192 q192
                           cases e192
                           obtain ⟨ce192, hce192, hMe192, hcc192⟩ := Kd.S_get HO_3.out z32 (rd t187 x33_3) p192 (by first | exact q192 | exact of_decide_eq_true (by first | (with_reducible assumption) | assumption) | (have e_ := (Kd.S_reads' HO_3.out).1; omega))
                           obtain ⟨ve192_7, ve192_8, rfl, ge192_7, ge192_8⟩ := k32_openM hMe192
                           have hv192_7 := hcc192 7 _ rfl
                           rw [add_field _ _ 7 (by omega)] at hv192_7
                           replace hv192_7 := Option.some.inj (hv192_7.symm.trans hx192_7)
                           rw [hv192_7] at ge192_7
                           have HL192_7 := aM (show Kd.R (Kd.int .i64) 3 _ _ _ _ ((rd_T32 t181 (rd t187 x33_3)).f6) from ge192_7)
                           clear hv192_7 ge192_7
                           have hv192_8 := hcc192 8 _ rfl
                           rw [add_field _ _ 8 (by omega)] at hv192_8
                           replace hv192_8 := Option.some.inj (hv192_8.symm.trans hx192_8)
                           rw [hv192_8] at ge192_8
                           have HL192_8 := aM (show Kd.R k69 69 _ _ _ _ ((rd_T32 t181 (rd t187 x33_3)).f7) from ge192_8)
                           clear hv192_8 ge192_8
                           clear hcc192 hce192
                           have HR192_7 := aM hi192_7
                           have HC192_7 := aM hl192_7
                           clear hi192_7 hl192_7
                           have HR192_8 := aM hi192_8
                           have HC192_8 := aM hl192_8
                           clear hi192_8 hl192_8
                           replace p192 := eq_true p192
                           replace q192 := eq_true q192
                           have p193 : 0 ≤ ((rd t187 x33_3) : Int) := of_decide_eq_true (by first | (with_reducible assumption) | assumption)
                           have q193 : (rd t187 x33_3) < (t181.length : Int) := of_decide_eq_true (by first | (with_reducible assumption) | assumption)
                           obtain ⟨ad193, A193_7, c193_7, A193_8, c193_8, e193, hx193_0, hx193_1, hx193_2, hx193_3, hx193_4, hx193_5, hx193_6, hx193_7, hx193_8, hl193_7, hi193_7, hl193_8, hi193_8⟩ := at_T32 (Kd.S_reads' HO_3.out).2.2 (rd t187 x33_3) p193 q193
                           obtain rfl : ad192 = ad193 := (by injection e193)
                           obtain ⟨ce193, hce193, hMe193, hcc193⟩ := Kd.S_get HO_3.out z32 (rd t187 x33_3) p193 (by first | exact q193 | exact of_decide_eq_true (by first | (with_reducible assumption) | assumption) | (have e_ := (Kd.S_reads' HO_3.out).1; omega))
                           obtain ⟨ve193_7, ve193_8, rfl, ge193_7, ge193_8⟩ := k32_openM hMe193
                           have hv193_7 := hcc193 7 _ rfl
                           rw [add_field _ _ 7 (by omega)] at hv193_7
                           replace hv193_7 := Option.some.inj (hv193_7.symm.trans hx193_7)
                           rw [hv193_7] at ge193_7
                           have HL193_7 := aM (show Kd.R (Kd.int .i64) 3 _ _ _ _ ((rd_T32 t181 (rd t187 x33_3)).f6) from ge193_7)
                           clear hv193_7 ge193_7
                           have hv193_8 := hcc193 8 _ rfl
                           rw [add_field _ _ 8 (by omega)] at hv193_8
                           replace hv193_8 := Option.some.inj (hv193_8.symm.trans hx193_8)
                           rw [hv193_8] at ge193_8
                           have HL193_8 := aM (show Kd.R k69 69 _ _ _ _ ((rd_T32 t181 (rd t187 x33_3)).f7) from ge193_8)
                           clear hv193_8 ge193_8
                           clear hcc193 hce193
                           have HR193_7 := aM hi193_7
                           have HC193_7 := aM hl193_7
                           clear hi193_7 hl193_7
                           have HR193_8 := aM hi193_8
                           have HC193_8 := aM hl193_8
                           clear hi193_8 hl193_8
                           replace p193 := eq_true p193
                           replace q193 := eq_true q193
                           have ea_ := Option.some.inj (hx192_7.symm.trans hx193_7)
                           injection ea_ with ea_ en_ ec_
                           subst ea_
                           subst ec_
                           clear en_
                           have ea_ := Option.some.inj (hx192_8.symm.trans hx193_8)
                           injection ea_ with ea_ en_ ec_
                           subst ea_
                           subst ec_
                           clear en_
                           have p195 : 0 ≤ (0 : Int) := (by omega)
                           have q195 : 0 < (t187.length : Int) := of_decide_eq_true (by first | (with_reducible assumption) | assumption)
                           obtain ⟨ad195, e195, hx195_0⟩ := Kd.at_int (Kd.R_reads' HO_7.out).2.2 0 p195 q195
                           obtain rfl : ad190 = ad195 := (by injection e195)
                           have qi195 : (0 < t187.length) = True := eq_true (by omega)
                           (try rw [show ((0 : Int)).toNat = 0 from rfl] at hx195_0)
                           (try rw [Addr.add_zero'] at hx195_0)
                           replace p195 := eq_true p195
                           replace q195 := eq_true q195
                           refine start_ (n := 48) (S := fun w' => w'.cell? (ad190.add ((ji28)).toNat) = some (.int .i64 (rd t187 (ji28))) ∧ w'.cell? (ad192.add (((rd t187 x33_3)).toNat * 9)) = some (.int .i64 ((rd_T32 t181 (rd t187 x33_3)).f0)) ∧ w'.cell? ⟨(ad192.add (((rd t187 x33_3)).toNat * 9)).block, (ad192.add (((rd t187 x33_3)).toNat * 9)).off + 1, none⟩ = some (.int .i64 ((rd_T32 t181 (rd t187 x33_3)).f1)) ∧ w'.cell? ⟨(ad192.add (((rd t187 x33_3)).toNat * 9)).block, (ad192.add (((rd t187 x33_3)).toNat * 9)).off + 2, none⟩ = some (.int .i64 ((rd_T32 t181 (rd t187 x33_3)).f2.f0)) ∧ w'.cell? ⟨(ad192.add (((rd t187 x33_3)).toNat * 9)).block, (ad192.add (((rd t187 x33_3)).toNat * 9)).off + 3, none⟩ = some (.int .i64 ((rd_T32 t181 (rd t187 x33_3)).f2.f1)) ∧ w'.cell? ⟨(ad192.add (((rd t187 x33_3)).toNat * 9)).block, (ad192.add (((rd t187 x33_3)).toNat * 9)).off + 4, none⟩ = some (.int .i64 ((rd_T32 t181 (rd t187 x33_3)).f3)) ∧ w'.cell? ⟨(ad192.add (((rd t187 x33_3)).toNat * 9)).block, (ad192.add (((rd t187 x33_3)).toNat * 9)).off + 5, none⟩ = some (.int .i64 ((rd_T32 t181 (rd t187 x33_3)).f4)) ∧ w'.cell? ⟨(ad192.add (((rd t187 x33_3)).toNat * 9)).block, (ad192.add (((rd t187 x33_3)).toNat * 9)).off + 6, none⟩ = some (.int .i64 ((rd_T32 t181 (rd t187 x33_3)).f5)) ∧ w'.cell? ⟨(ad192.add (((rd t187 x33_3)).toNat * 9)).block, (ad192.add (((rd t187 x33_3)).toNat * 9)).off + 7, none⟩ = some (.slice A192_7 ((rd_T32 t181 (rd t187 x33_3)).f6).length c192_7) ∧ w'.cell? ⟨(ad192.add (((rd t187 x33_3)).toNat * 9)).block, (ad192.add (((rd t187 x33_3)).toNat * 9)).off + 8, none⟩ = some (.slice A192_8 ((rd_T32 t181 (rd t187 x33_3)).f7).length c192_8) ∧ w'.cell? (ad192.add (((rd t187 x33_3)).toNat * 9)) = some (.int .i64 ((rd_T32 t181 (rd t187 x33_3)).f0)) ∧ w'.cell? ⟨(ad192.add (((rd t187 x33_3)).toNat * 9)).block, (ad192.add (((rd t187 x33_3)).toNat * 9)).off + 1, none⟩ = some (.int .i64 ((rd_T32 t181 (rd t187 x33_3)).f1)) ∧ w'.cell? ⟨(ad192.add (((rd t187 x33_3)).toNat * 9)).block, (ad192.add (((rd t187 x33_3)).toNat * 9)).off + 2, none⟩ = some (.int .i64 ((rd_T32 t181 (rd t187 x33_3)).f2.f0)) ∧ w'.cell? ⟨(ad192.add (((rd t187 x33_3)).toNat * 9)).block, (ad192.add (((rd t187 x33_3)).toNat * 9)).off + 3, none⟩ = some (.int .i64 ((rd_T32 t181 (rd t187 x33_3)).f2.f1)) ∧ w'.cell? ⟨(ad192.add (((rd t187 x33_3)).toNat * 9)).block, (ad192.add (((rd t187 x33_3)).toNat * 9)).off + 4, none⟩ = some (.int .i64 ((rd_T32 t181 (rd t187 x33_3)).f3)) ∧ w'.cell? ⟨(ad192.add (((rd t187 x33_3)).toNat * 9)).block, (ad192.add (((rd t187 x33_3)).toNat * 9)).off + 5, none⟩ = some (.int .i64 ((rd_T32 t181 (rd t187 x33_3)).f4)) ∧ w'.cell? ⟨(ad192.add (((rd t187 x33_3)).toNat * 9)).block, (ad192.add (((rd t187 x33_3)).toNat * 9)).off + 6, none⟩ = some (.int .i64 ((rd_T32 t181 (rd t187 x33_3)).f5)) ∧ w'.cell? ⟨(ad192.add (((rd t187 x33_3)).toNat * 9)).block, (ad192.add (((rd t187 x33_3)).toNat * 9)).off + 7, none⟩ = some (.slice A192_7 ((rd_T32 t181 (rd t187 x33_3)).f6).length c192_7) ∧ w'.cell? ⟨(ad192.add (((rd t187 x33_3)).toNat * 9)).block, (ad192.add (((rd t187 x33_3)).toNat * 9)).off + 8, none⟩ = some (.slice A192_8 ((rd_T32 t181 (rd t187 x33_3)).f7).length c192_8) ∧ w'.cell? ad190 = some (.int .i64 (rd t187 0))) (ds := []) (rollbacknetlaw14_NetworkChannels.t48 0) (by kernel_rfl) rfl rfl ⟨hx191_0, hx192_0, hx192_1, hx192_2, hx192_3, hx192_4, hx192_5, hx192_6, hx192_7, hx192_8, hx193_0, hx193_1, hx193_2, hx193_3, hx193_4, hx193_5, hx193_6, hx193_7, hx193_8, hx195_0⟩ (fun hHeld => ?_); refine with_tabW rollbacknetlaw14_NetworkChannels.tab15 rollbacknetlaw14_NetworkChannels.bits15 (fun HT_ HW_ => ?_)
                           generalize wr.drew = w49 at HO_3 HO_4 HO_7 HO_31 HB HL192_7 HL192_8 HL193_7 HL193_8 HR192_7 HR192_8 HR193_7 HR193_8 hx191_0 hx192_0 hx192_1 hx192_2 hx192_3 hx192_4 hx192_5 hx192_6 hx192_7 hx192_8 hx193_0 hx193_1 hx193_2 hx193_3 hx193_4 hx193_5 hx193_6 hx193_7 hx193_8 hx195_0 hHeld ⊢
                           refine rollbacknetlaw14_NetworkChannels.in48 0 ?_; iterate 16 (first | (refine rollbacknetlaw14_NetworkChannels.p48 (d := 38) rfl rfl (any_of HT_.out (by kernel_rfl)) (fun _ _ _ h => h) (v := undef) (Or.inr ⟨by rfl, rfl⟩) (a' := ?_) ?_ ?_; rotate_left; (simp only [Act.put, List.setIfInBounds_toArray, List.set_cons_zero, List.set_cons_succ, i64_w, i32_w, Nat.reduceAdd]; rfl)) | (refine rollbacknetlaw14_NetworkChannels.p48 (d := 38) rfl rfl (any_of HT_.out (by kernel_rfl)) (fun _ _ _ h => h) (v := ?_) (Or.inl ⟨by rfl, ?_⟩) (a' := ?_) ?_ ?_; rotate_left; (intro w'; go_simp; with_reducible rfl); rotate_left; (simp only [Act.put, List.setIfInBounds_toArray, List.set_cons_zero, List.set_cons_succ, i64_w, i32_w, Nat.reduceAdd]; rfl)))
                           refine pure_ (i := 17) (N := some 55) (v := ?_) (a' := ?_) (rollbacknetlaw14_NetworkChannels.t48 196607) rfl rfl (any_of HT_.out (by kernel_rfl)) (fun _ _ _ h => h) (Or.inl ⟨by rfl, ?_⟩) ?_ ?_; rotate_left; (intro w'; go_simp; with_reducible rfl); rotate_left; (simp only [Act.put, List.setIfInBounds_toArray, List.set_cons_zero, List.set_cons_succ, i64_w, i32_w]; rfl)
                           refine take_ (i := 16) (N := some 54) (v := ?_) (a' := ?_) (rollbacknetlaw14_NetworkChannels.t48 262143) rfl rfl (take_ofW HT_.out HW_.out (by kernel_rfl)) (fun _ _ _ h => h) (Or.inl ⟨by rfl, ?_⟩) hHeld ?_ ?_; rotate_left; (rintro w' ⟨s0, s1, s2, s3, s4, s5, s6, s7, s8, s9, s10, s11, s12, s13, s14, s15, s16, s17, s18, s19⟩; go_simp; with_reducible rfl); rotate_left; (simp only [Act.put, List.setIfInBounds_toArray, List.set_cons_zero, List.set_cons_succ, i64_w, i32_w]; rfl)
                           refine rollbacknetlaw14_NetworkChannels.in48 18 ?_; iterate 8 (first | (refine rollbacknetlaw14_NetworkChannels.p48 (d := 38) rfl rfl (any_of HT_.out (by kernel_rfl)) (fun _ _ _ h => h) (v := undef) (Or.inr ⟨by rfl, rfl⟩) (a' := ?_) ?_ ?_; rotate_left; (simp only [Act.put, List.setIfInBounds_toArray, List.set_cons_zero, List.set_cons_succ, i64_w, i32_w, Nat.reduceAdd]; rfl)) | (refine rollbacknetlaw14_NetworkChannels.p48 (d := 38) rfl rfl (any_of HT_.out (by kernel_rfl)) (fun _ _ _ h => h) (v := ?_) (Or.inl ⟨by rfl, ?_⟩) (a' := ?_) ?_ ?_; rotate_left; (intro w'; go_simp; with_reducible rfl); rotate_left; (simp only [Act.put, List.setIfInBounds_toArray, List.set_cons_zero, List.set_cons_succ, i64_w, i32_w, Nat.reduceAdd]; rfl)))
                           refine pure_ (i := 27) (N := some 65) (v := ?_) (a' := ?_) (rollbacknetlaw14_NetworkChannels.t48 201326591) rfl rfl (any_of HT_.out (by kernel_rfl)) (fun _ _ _ h => h) (Or.inl ⟨by rfl, ?_⟩) ?_ ?_; rotate_left; (intro w'; go_simp; with_reducible rfl); rotate_left; (simp only [Act.put, List.setIfInBounds_toArray, List.set_cons_zero, List.set_cons_succ, i64_w, i32_w]; rfl)
                           refine take_ (i := 26) (N := some 64) (v := ?_) (a' := ?_) (rollbacknetlaw14_NetworkChannels.t48 268435455) rfl rfl (take_ofW HT_.out HW_.out (by kernel_rfl)) (fun _ _ _ h => h) (Or.inl ⟨by rfl, ?_⟩) hHeld ?_ ?_; rotate_left; (rintro w' ⟨s0, s1, s2, s3, s4, s5, s6, s7, s8, s9, s10, s11, s12, s13, s14, s15, s16, s17, s18, s19⟩; go_simp; with_reducible rfl); rotate_left; (simp only [Act.put, List.setIfInBounds_toArray, List.set_cons_zero, List.set_cons_succ, i64_w, i32_w]; rfl)
                           refine rollbacknetlaw14_NetworkChannels.in48 28 ?_; iterate 7 (first | (refine rollbacknetlaw14_NetworkChannels.p48 (d := 38) rfl rfl (any_of HT_.out (by kernel_rfl)) (fun _ _ _ h => h) (v := undef) (Or.inr ⟨by rfl, rfl⟩) (a' := ?_) ?_ ?_; rotate_left; (simp only [Act.put, List.setIfInBounds_toArray, List.set_cons_zero, List.set_cons_succ, i64_w, i32_w, Nat.reduceAdd]; rfl)) | (refine rollbacknetlaw14_NetworkChannels.p48 (d := 38) rfl rfl (any_of HT_.out (by kernel_rfl)) (fun _ _ _ h => h) (v := ?_) (Or.inl ⟨by rfl, ?_⟩) (a' := ?_) ?_ ?_; rotate_left; (intro w'; go_simp; with_reducible rfl); rotate_left; (simp only [Act.put, List.setIfInBounds_toArray, List.set_cons_zero, List.set_cons_succ, i64_w, i32_w, Nat.reduceAdd]; rfl)))
                           refine pure_ (i := 36) (N := some 74) (v := ?_) (a' := ?_) (rollbacknetlaw14_NetworkChannels.t48 103079215103) rfl rfl (any_of HT_.out (by kernel_rfl)) (fun _ _ _ h => h) (Or.inl ⟨by rfl, ?_⟩) ?_ ?_; rotate_left; (intro w'; go_simp; with_reducible rfl); rotate_left; (simp only [Act.put, List.setIfInBounds_toArray, List.set_cons_zero, List.set_cons_succ, i64_w, i32_w]; rfl)
                           refine take_ (i := 35) (N := some 73) (v := ?_) (a' := ?_) (rollbacknetlaw14_NetworkChannels.t48 137438953471) rfl rfl (take_ofW HT_.out HW_.out (by kernel_rfl)) (fun _ _ _ h => h) (Or.inl ⟨by rfl, ?_⟩) hHeld ?_ ?_; rotate_left; (rintro w' ⟨s0, s1, s2, s3, s4, s5, s6, s7, s8, s9, s10, s11, s12, s13, s14, s15, s16, s17, s18, s19⟩; go_simp; with_reducible rfl); rotate_left; (simp only [Act.put, List.setIfInBounds_toArray, List.set_cons_zero, List.set_cons_succ, i64_w, i32_w]; rfl)
                           refine rollbacknetlaw14_NetworkChannels.in48 37 ?_; iterate 5 (first | (refine rollbacknetlaw14_NetworkChannels.p48 (d := 38) rfl rfl (any_of HT_.out (by kernel_rfl)) (fun _ _ _ h => h) (v := undef) (Or.inr ⟨by rfl, rfl⟩) (a' := ?_) ?_ ?_; rotate_left; (simp only [Act.put, List.setIfInBounds_toArray, List.set_cons_zero, List.set_cons_succ, i64_w, i32_w, Nat.reduceAdd]; rfl)) | (refine rollbacknetlaw14_NetworkChannels.p48 (d := 38) rfl rfl (any_of HT_.out (by kernel_rfl)) (fun _ _ _ h => h) (v := ?_) (Or.inl ⟨by rfl, ?_⟩) (a' := ?_) ?_ ?_; rotate_left; (intro w'; go_simp; with_reducible rfl); rotate_left; (simp only [Act.put, List.setIfInBounds_toArray, List.set_cons_zero, List.set_cons_succ, i64_w, i32_w, Nat.reduceAdd]; rfl)))
                           refine pure_ (i := 43) (N := some 81) (v := ?_) (a' := ?_) (rollbacknetlaw14_NetworkChannels.t48 13194139533311) rfl rfl (any_of HT_.out (by kernel_rfl)) (fun _ _ _ h => h) (Or.inl ⟨by rfl, ?_⟩) ?_ ?_; rotate_left; (intro w'; go_simp; with_reducible rfl); rotate_left; (simp only [Act.put, List.setIfInBounds_toArray, List.set_cons_zero, List.set_cons_succ, i64_w, i32_w]; rfl)
                           refine pure_ (i := 44) (N := some 82) (v := ?_) (a' := ?_) (rollbacknetlaw14_NetworkChannels.t48 30786325577727) rfl rfl (any_of HT_.out (by kernel_rfl)) (fun _ _ _ h => h) (Or.inl ⟨by rfl, ?_⟩) ?_ ?_; rotate_left; (intro w'; go_simp; with_reducible rfl); rotate_left; (simp only [Act.put, List.setIfInBounds_toArray, List.set_cons_zero, List.set_cons_succ, i64_w, i32_w]; rfl)
                           refine take_ (i := 45) (N := some 83) (v := ?_) (a' := ?_) (rollbacknetlaw14_NetworkChannels.t48 65970697666559) rfl rfl (take_ofW HT_.out HW_.out (by kernel_rfl)) (fun _ _ _ h => h) (Or.inl ⟨by rfl, ?_⟩) hHeld ?_ ?_; rotate_left; (rintro w' ⟨s0, s1, s2, s3, s4, s5, s6, s7, s8, s9, s10, s11, s12, s13, s14, s15, s16, s17, s18, s19⟩; go_simp; with_reducible rfl); rotate_left; (simp only [Act.put, List.setIfInBounds_toArray, List.set_cons_zero, List.set_cons_succ, i64_w, i32_w]; rfl)
                           refine one_ (i := 42) (N := some 80) (rollbacknetlaw14_NetworkChannels.t48 70368744177663) rfl rfl (one_of HT_.out (by kernel_rfl)) (by decide) (fun K hK => ?_)
                           refine goes_ Try.func16 (by kernel_rfl) rfl #[.slice (some ad192) t181.length co11, .int .i64 (rd t187 x33_3)] (by rfl) rfl rfl (by (try simp only [List.map_toArray, List.map_cons, List.map_nil]); first | done | rfl | (simp only [List.length_drop, List.length_take]; rfl)) ?_
                           with_reducible refine (network_Oldest.calls _ _ t181 (rd t187 x33_3) t194 _ ?side1 ?side2 A37.out).mono ?_
                           (case side1 => repeat (first | exact (Kd.S_reads' HO_3.out).2.2 | (with_reducible refine Kd.C_alloc ?_ _) | (with_reducible refine Kd.C_drewN ?_ _) | (with_reducible refine Kd.C_drew ?_)))
                           (case side2 => exact (Kd.S_reads' HO_3.out).2.1)
                           rintro e w50 ⟨rfl, hb⟩
                           have HS0_ := (hb.cell (World.block_lt_of_cell? _ _ (hHeld.1))).trans (hHeld.1)
                           have HS1_ := (hb.cell (World.block_lt_of_cell? _ _ (hHeld.2.1))).trans (hHeld.2.1)
                           have HS2_ := (hb.cell (World.block_lt_of_cell? _ _ (hHeld.2.2.1))).trans (hHeld.2.2.1)
                           have HS3_ := (hb.cell (World.block_lt_of_cell? _ _ (hHeld.2.2.2.1))).trans (hHeld.2.2.2.1)
                           have HS4_ := (hb.cell (World.block_lt_of_cell? _ _ (hHeld.2.2.2.2.1))).trans (hHeld.2.2.2.2.1)
                           have HS5_ := (hb.cell (World.block_lt_of_cell? _ _ (hHeld.2.2.2.2.2.1))).trans (hHeld.2.2.2.2.2.1)
                           have HS6_ := (hb.cell (World.block_lt_of_cell? _ _ (hHeld.2.2.2.2.2.2.1))).trans (hHeld.2.2.2.2.2.2.1)
                           have HS7_ := (hb.cell (World.block_lt_of_cell? _ _ (hHeld.2.2.2.2.2.2.2.1))).trans (hHeld.2.2.2.2.2.2.2.1)
                           have HS8_ := (hb.cell (World.block_lt_of_cell? _ _ (hHeld.2.2.2.2.2.2.2.2.1))).trans (hHeld.2.2.2.2.2.2.2.2.1)
                           have HS9_ := (hb.cell (World.block_lt_of_cell? _ _ (hHeld.2.2.2.2.2.2.2.2.2.1))).trans (hHeld.2.2.2.2.2.2.2.2.2.1)
                           have HS10_ := (hb.cell (World.block_lt_of_cell? _ _ (hHeld.2.2.2.2.2.2.2.2.2.2.1))).trans (hHeld.2.2.2.2.2.2.2.2.2.2.1)
                           have HS11_ := (hb.cell (World.block_lt_of_cell? _ _ (hHeld.2.2.2.2.2.2.2.2.2.2.2.1))).trans (hHeld.2.2.2.2.2.2.2.2.2.2.2.1)
                           have HS12_ := (hb.cell (World.block_lt_of_cell? _ _ (hHeld.2.2.2.2.2.2.2.2.2.2.2.2.1))).trans (hHeld.2.2.2.2.2.2.2.2.2.2.2.2.1)
                           have HS13_ := (hb.cell (World.block_lt_of_cell? _ _ (hHeld.2.2.2.2.2.2.2.2.2.2.2.2.2.1))).trans (hHeld.2.2.2.2.2.2.2.2.2.2.2.2.2.1)
                           have HS14_ := (hb.cell (World.block_lt_of_cell? _ _ (hHeld.2.2.2.2.2.2.2.2.2.2.2.2.2.2.1))).trans (hHeld.2.2.2.2.2.2.2.2.2.2.2.2.2.2.1)
                           have HS15_ := (hb.cell (World.block_lt_of_cell? _ _ (hHeld.2.2.2.2.2.2.2.2.2.2.2.2.2.2.2.1))).trans (hHeld.2.2.2.2.2.2.2.2.2.2.2.2.2.2.2.1)
                           have HS16_ := (hb.cell (World.block_lt_of_cell? _ _ (hHeld.2.2.2.2.2.2.2.2.2.2.2.2.2.2.2.2.1))).trans (hHeld.2.2.2.2.2.2.2.2.2.2.2.2.2.2.2.2.1)
                           have HS17_ := (hb.cell (World.block_lt_of_cell? _ _ (hHeld.2.2.2.2.2.2.2.2.2.2.2.2.2.2.2.2.2.1))).trans (hHeld.2.2.2.2.2.2.2.2.2.2.2.2.2.2.2.2.2.1)
                           have HS18_ := (hb.cell (World.block_lt_of_cell? _ _ (hHeld.2.2.2.2.2.2.2.2.2.2.2.2.2.2.2.2.2.2.1))).trans (hHeld.2.2.2.2.2.2.2.2.2.2.2.2.2.2.2.2.2.2.1)
                           have HS19_ := (hb.cell (World.block_lt_of_cell? _ _ (hHeld.2.2.2.2.2.2.2.2.2.2.2.2.2.2.2.2.2.2.2))).trans (hHeld.2.2.2.2.2.2.2.2.2.2.2.2.2.2.2.2.2.2.2)
                           refine ⟨_, rfl, ?_⟩
                           have n0_ := aM (Kd.S_below (by (with_reducible repeat (first | apply Kd.S_alloc | apply Kd.S_drewN | apply Kd.S_drew)); exact HO_3.out) hb)
                           have n1_ := aM (Kd.R_below (by (with_reducible repeat (first | apply Kd.R_alloc | apply Kd.R_drewN | apply Kd.R_drew)); exact HO_4.out) hb)
                           have n2_ := aM (Kd.R_below (by (with_reducible repeat (first | apply Kd.R_alloc | apply Kd.R_drewN | apply Kd.R_drew)); exact HO_7.out) hb)
                           have n3_ := aM (Kd.R_below (by (with_reducible repeat (first | apply Kd.R_alloc | apply Kd.R_drewN | apply Kd.R_drew)); exact HO_31.out) hb)
                           have n4_ := aM (Kd.R_below (by (with_reducible repeat (first | apply Kd.R_alloc | apply Kd.R_drewN | apply Kd.R_drew)); exact HL192_7.out) hb)
                           have n5_ := aM (Kd.R_below (by (with_reducible repeat (first | apply Kd.R_alloc | apply Kd.R_drewN | apply Kd.R_drew)); exact HL192_8.out) hb)
                           have n6_ := aM (Kd.R_below (by (with_reducible repeat (first | apply Kd.R_alloc | apply Kd.R_drewN | apply Kd.R_drew)); exact HL193_7.out) hb)
                           have n7_ := aM (Kd.R_below (by (with_reducible repeat (first | apply Kd.R_alloc | apply Kd.R_drewN | apply Kd.R_drew)); exact HL193_8.out) hb)
                           have n8_ := aM (Kd.C_below (by repeat (first | (with_reducible exact HR192_7.out) | (with_reducible refine Kd.C_alloc ?_ _) | (with_reducible refine Kd.C_drewN ?_ _) | (with_reducible refine Kd.C_drew ?_) | exact HR192_7.out)) hb)
                           have n9_ := aM (Kd.C_below (by repeat (first | (with_reducible exact HR192_8.out) | (with_reducible refine Kd.C_alloc ?_ _) | (with_reducible refine Kd.C_drewN ?_ _) | (with_reducible refine Kd.C_drew ?_) | exact HR192_8.out)) hb)
                           have n10_ := aM (Kd.C_below (by repeat (first | (with_reducible exact HR193_7.out) | (with_reducible refine Kd.C_alloc ?_ _) | (with_reducible refine Kd.C_drewN ?_ _) | (with_reducible refine Kd.C_drew ?_) | exact HR193_7.out)) hb)
                           have n11_ := aM (Kd.C_below (by repeat (first | (with_reducible exact HR193_8.out) | (with_reducible refine Kd.C_alloc ?_ _) | (with_reducible refine Kd.C_drewN ?_ _) | (with_reducible refine Kd.C_drew ?_) | exact HR193_8.out)) hb)
                           have n12_ := aM (below_step (by repeat (first | (with_reducible first | exact HB.out | apply wA | apply wN | apply wD) | exact HB.out)) hb)
                           clear HO_3
                           clear HO_4
                           clear HO_7
                           clear HO_31
                           clear HL192_7
                           clear HL192_8
                           clear HL193_7
                           clear HL193_8
                           clear HR192_7
                           clear HR192_8
                           clear HR193_7
                           clear HR193_8
                           clear HB
                           have HO_3 := n0_
                           have HO_4 := n1_
                           have HO_7 := n2_
                           have HO_31 := n3_
                           have HL192_7 := n4_
                           have HL192_8 := n5_
                           have HL193_7 := n6_
                           have HL193_8 := n7_
                           have HR192_7 := n8_
                           have HR192_8 := n9_
                           have HR193_7 := n10_
                           have HR193_8 := n11_
                           have HB := n12_
                           clear n0_ n1_ n2_ n3_ n4_ n5_ n6_ n7_ n8_ n9_ n10_ n11_ n12_
                           (try clear hb)
                           (try clear hb2)
                           (try clear hk)
                           (try clear hi)
                           (try clear hge_)
                           refine hK.out _ _ ⟨HS0_, HS1_, HS2_, HS3_, HS4_, HS5_, HS6_, HS7_, HS8_, HS9_, HS10_, HS11_, HS12_, HS13_, HS14_, HS15_, HS16_, HS17_, HS18_, HS19_⟩ (fun hHeld => ?_)
                           clear hK K
                           refine norm_ (a' := ?_) ?_ ?_
                           rotate_left
                           ·show Act.put _ (some 80) _ = _
                            simp only [Act.put, List.setIfInBounds_toArray, List.set_cons_zero, List.set_cons_succ, i64_w, i32_w]
                            rfl
                           refine pure_ (i := 46) (N := some 84) (v := ?_) (a' := ?_) (rollbacknetlaw14_NetworkChannels.t48 140737488355327) rfl rfl (any_of HT_.out (by kernel_rfl)) (fun _ _ _ h => h) (Or.inl ⟨by rfl, ?_⟩) ?_ ?_; rotate_left; (intro w'; go_simp; with_reducible rfl); rotate_left; (simp only [Act.put, List.setIfInBounds_toArray, List.set_cons_zero, List.set_cons_succ, i64_w, i32_w]; rfl)
                           refine pure_ (i := 47) (N := some 85) (v := ?_) (a' := ?_) (rollbacknetlaw14_NetworkChannels.t48 281474976710655) rfl rfl (any_of HT_.out (by kernel_rfl)) (fun _ _ _ h => h) (Or.inl ⟨by rfl, ?_⟩) ?_ ?_; rotate_left; (intro w'; go_simp; with_reducible rfl); rotate_left; (simp only [Act.put, List.setIfInBounds_toArray, List.set_cons_zero, List.set_cons_succ, i64_w, i32_w]; rfl)
                           refine done_ (done_of HT_.out (by kernel_rfl)) ?_
                           go_upto_region 16 with (fail)
                           have H := HC48.out
                           clear HC48
                           obtain rfl := Option.some.inj H
                           go_wp2
                           go_ret
                           exact ⟨by first | rfl | (simp [errW_none, errW_some] <;> rfl) | (simp only [← hji28]; first | rfl | (simp [errW_none, errW_some] <;> rfl)) | (simp [*, errW_none, errW_some] <;> rfl), by repeat (first | (with_reducible first | exact HB.out | apply wA | apply wN | apply wD) | exact HB.out)⟩
                         ·rw [if_neg c38] at H
                          exact absurd H (by simp)
                        ·rw [if_neg c36] at H
                         have c36b0 : (((rd_T32 t181 (rd t187 x33_3)).f1) == x6_2) = false := beq_eq_false_iff_ne.mpr c36
                         have c36b1 : (((rd_T32 t181 (rd t187 x33_3)).f1) != x6_2) = true := bne_iff_ne.mpr c36
                         obtain rfl := Option.some.inj H
                         have p190 : 0 ≤ (x33_3 : Int) := of_decide_eq_true (by first | (with_reducible assumption) | assumption)
                         have q190 : x33_3 < (t187.length : Int) := of_decide_eq_true (by first | (with_reducible assumption) | assumption)
                         obtain ⟨ad190, e190, hx190_0⟩ := Kd.at_int (Kd.R_reads' HO_31.out).2.2 x33_3 p190 q190
                         cases e190
                         replace p190 := eq_true p190
                         replace q190 := eq_true q190
                         try go_wp2
                         have n0_ := aM (Kd.S_drew HO_3.out)
                         have n1_ := aM (Kd.R_drew HO_4.out)
                         have n2_ := aM (Kd.R_drew HO_7.out)
                         have n3_ := aM (Kd.R_drew HO_31.out)
                         have n4_ := aM (wD HB.out)
                         clear HO_3
                         clear HO_4
                         clear HO_7
                         clear HO_31
                         clear HB
                         have HO_3 := n0_
                         have HO_4 := n1_
                         have HO_7 := n2_
                         have HO_31 := n3_
                         have HB := n4_
                         clear n0_ n1_ n2_ n3_ n4_
                         have p191 : 0 ≤ ((ji28) : Int) := of_decide_eq_true (by first | (with_reducible assumption) | assumption)
                         have q191 : (ji28) < (t187.length : Int) := of_decide_eq_true (by first | (with_reducible assumption) | assumption)
                         obtain ⟨ad191, e191, hx191_0⟩ := Kd.at_int (Kd.R_reads' HO_7.out).2.2 (ji28) p191 q191
                         obtain rfl : ad190 = ad191 := (by injection e191)
                         replace p191 := eq_true p191
                         replace q191 := eq_true q191
                         have p192 : 0 ≤ ((rd t187 x33_3) : Int) := of_decide_eq_true (by first | (with_reducible assumption) | assumption)
                         have q192 : (rd t187 x33_3) < (t181.length : Int) := of_decide_eq_true (by first | (with_reducible assumption) | assumption)
                         obtain ⟨ad192, A192_7, c192_7, A192_8, c192_8, e192, hx192_0, hx192_1, hx192_2, hx192_3, hx192_4, hx192_5, hx192_6, hx192_7, hx192_8, hl192_7, hi192_7, hl192_8, hi192_8⟩ := at_T32 (Kd.S_reads' HO_3.out).2.2 (rd t187 x33_3) p192 q192
                         cases e192
                         obtain ⟨ce192, hce192, hMe192, hcc192⟩ := Kd.S_get HO_3.out z32 (rd t187 x33_3) p192 (by first | exact q192 | exact of_decide_eq_true (by first | (with_reducible assumption) | assumption) | (have e_ := (Kd.S_reads' HO_3.out).1; omega))
                         obtain ⟨ve192_7, ve192_8, rfl, ge192_7, ge192_8⟩ := k32_openM hMe192
                         have hv192_7 := hcc192 7 _ rfl
                         rw [add_field _ _ 7 (by omega)] at hv192_7
                         replace hv192_7 := Option.some.inj (hv192_7.symm.trans hx192_7)
                         rw [hv192_7] at ge192_7
                         have HL192_7 := aM (show Kd.R (Kd.int .i64) 3 _ _ _ _ ((rd_T32 t181 (rd t187 x33_3)).f6) from ge192_7)
                         clear hv192_7 ge192_7
                         have hv192_8 := hcc192 8 _ rfl
                         rw [add_field _ _ 8 (by omega)] at hv192_8
                         replace hv192_8 := Option.some.inj (hv192_8.symm.trans hx192_8)
                         rw [hv192_8] at ge192_8
                         have HL192_8 := aM (show Kd.R k69 69 _ _ _ _ ((rd_T32 t181 (rd t187 x33_3)).f7) from ge192_8)
                         clear hv192_8 ge192_8
                         clear hcc192 hce192
                         have HR192_7 := aM hi192_7
                         have HC192_7 := aM hl192_7
                         clear hi192_7 hl192_7
                         have HR192_8 := aM hi192_8
                         have HC192_8 := aM hl192_8
                         clear hi192_8 hl192_8
                         replace p192 := eq_true p192
                         replace q192 := eq_true q192
                         have p193 : 0 ≤ ((rd t187 x33_3) : Int) := of_decide_eq_true (by first | (with_reducible assumption) | assumption)
                         have q193 : (rd t187 x33_3) < (t181.length : Int) := of_decide_eq_true (by first | (with_reducible assumption) | assumption)
                         obtain ⟨ad193, A193_7, c193_7, A193_8, c193_8, e193, hx193_0, hx193_1, hx193_2, hx193_3, hx193_4, hx193_5, hx193_6, hx193_7, hx193_8, hl193_7, hi193_7, hl193_8, hi193_8⟩ := at_T32 (Kd.S_reads' HO_3.out).2.2 (rd t187 x33_3) p193 q193
                         obtain rfl : ad192 = ad193 := (by injection e193)
                         obtain ⟨ce193, hce193, hMe193, hcc193⟩ := Kd.S_get HO_3.out z32 (rd t187 x33_3) p193 (by first | exact q193 | exact of_decide_eq_true (by first | (with_reducible assumption) | assumption) | (have e_ := (Kd.S_reads' HO_3.out).1; omega))
                         obtain ⟨ve193_7, ve193_8, rfl, ge193_7, ge193_8⟩ := k32_openM hMe193
                         have hv193_7 := hcc193 7 _ rfl
                         rw [add_field _ _ 7 (by omega)] at hv193_7
                         replace hv193_7 := Option.some.inj (hv193_7.symm.trans hx193_7)
                         rw [hv193_7] at ge193_7
                         have HL193_7 := aM (show Kd.R (Kd.int .i64) 3 _ _ _ _ ((rd_T32 t181 (rd t187 x33_3)).f6) from ge193_7)
                         clear hv193_7 ge193_7
                         have hv193_8 := hcc193 8 _ rfl
                         rw [add_field _ _ 8 (by omega)] at hv193_8
                         replace hv193_8 := Option.some.inj (hv193_8.symm.trans hx193_8)
                         rw [hv193_8] at ge193_8
                         have HL193_8 := aM (show Kd.R k69 69 _ _ _ _ ((rd_T32 t181 (rd t187 x33_3)).f7) from ge193_8)
                         clear hv193_8 ge193_8
                         clear hcc193 hce193
                         have HR193_7 := aM hi193_7
                         have HC193_7 := aM hl193_7
                         clear hi193_7 hl193_7
                         have HR193_8 := aM hi193_8
                         have HC193_8 := aM hl193_8
                         clear hi193_8 hl193_8
                         replace p193 := eq_true p193
                         replace q193 := eq_true q193
                         have ea_ := Option.some.inj (hx192_7.symm.trans hx193_7)
                         injection ea_ with ea_ en_ ec_
                         subst ea_
                         subst ec_
                         clear en_
                         have ea_ := Option.some.inj (hx192_8.symm.trans hx193_8)
                         injection ea_ with ea_ en_ ec_
                         subst ea_
                         subst ec_
                         clear en_
                         refine start_ (n := 48) (S := fun w' => w'.cell? (ad190.add ((ji28)).toNat) = some (.int .i64 (rd t187 (ji28))) ∧ w'.cell? (ad192.add (((rd t187 x33_3)).toNat * 9)) = some (.int .i64 ((rd_T32 t181 (rd t187 x33_3)).f0)) ∧ w'.cell? ⟨(ad192.add (((rd t187 x33_3)).toNat * 9)).block, (ad192.add (((rd t187 x33_3)).toNat * 9)).off + 1, none⟩ = some (.int .i64 ((rd_T32 t181 (rd t187 x33_3)).f1)) ∧ w'.cell? ⟨(ad192.add (((rd t187 x33_3)).toNat * 9)).block, (ad192.add (((rd t187 x33_3)).toNat * 9)).off + 2, none⟩ = some (.int .i64 ((rd_T32 t181 (rd t187 x33_3)).f2.f0)) ∧ w'.cell? ⟨(ad192.add (((rd t187 x33_3)).toNat * 9)).block, (ad192.add (((rd t187 x33_3)).toNat * 9)).off + 3, none⟩ = some (.int .i64 ((rd_T32 t181 (rd t187 x33_3)).f2.f1)) ∧ w'.cell? ⟨(ad192.add (((rd t187 x33_3)).toNat * 9)).block, (ad192.add (((rd t187 x33_3)).toNat * 9)).off + 4, none⟩ = some (.int .i64 ((rd_T32 t181 (rd t187 x33_3)).f3)) ∧ w'.cell? ⟨(ad192.add (((rd t187 x33_3)).toNat * 9)).block, (ad192.add (((rd t187 x33_3)).toNat * 9)).off + 5, none⟩ = some (.int .i64 ((rd_T32 t181 (rd t187 x33_3)).f4)) ∧ w'.cell? ⟨(ad192.add (((rd t187 x33_3)).toNat * 9)).block, (ad192.add (((rd t187 x33_3)).toNat * 9)).off + 6, none⟩ = some (.int .i64 ((rd_T32 t181 (rd t187 x33_3)).f5)) ∧ w'.cell? ⟨(ad192.add (((rd t187 x33_3)).toNat * 9)).block, (ad192.add (((rd t187 x33_3)).toNat * 9)).off + 7, none⟩ = some (.slice A192_7 ((rd_T32 t181 (rd t187 x33_3)).f6).length c192_7) ∧ w'.cell? ⟨(ad192.add (((rd t187 x33_3)).toNat * 9)).block, (ad192.add (((rd t187 x33_3)).toNat * 9)).off + 8, none⟩ = some (.slice A192_8 ((rd_T32 t181 (rd t187 x33_3)).f7).length c192_8) ∧ w'.cell? (ad192.add (((rd t187 x33_3)).toNat * 9)) = some (.int .i64 ((rd_T32 t181 (rd t187 x33_3)).f0)) ∧ w'.cell? ⟨(ad192.add (((rd t187 x33_3)).toNat * 9)).block, (ad192.add (((rd t187 x33_3)).toNat * 9)).off + 1, none⟩ = some (.int .i64 ((rd_T32 t181 (rd t187 x33_3)).f1)) ∧ w'.cell? ⟨(ad192.add (((rd t187 x33_3)).toNat * 9)).block, (ad192.add (((rd t187 x33_3)).toNat * 9)).off + 2, none⟩ = some (.int .i64 ((rd_T32 t181 (rd t187 x33_3)).f2.f0)) ∧ w'.cell? ⟨(ad192.add (((rd t187 x33_3)).toNat * 9)).block, (ad192.add (((rd t187 x33_3)).toNat * 9)).off + 3, none⟩ = some (.int .i64 ((rd_T32 t181 (rd t187 x33_3)).f2.f1)) ∧ w'.cell? ⟨(ad192.add (((rd t187 x33_3)).toNat * 9)).block, (ad192.add (((rd t187 x33_3)).toNat * 9)).off + 4, none⟩ = some (.int .i64 ((rd_T32 t181 (rd t187 x33_3)).f3)) ∧ w'.cell? ⟨(ad192.add (((rd t187 x33_3)).toNat * 9)).block, (ad192.add (((rd t187 x33_3)).toNat * 9)).off + 5, none⟩ = some (.int .i64 ((rd_T32 t181 (rd t187 x33_3)).f4)) ∧ w'.cell? ⟨(ad192.add (((rd t187 x33_3)).toNat * 9)).block, (ad192.add (((rd t187 x33_3)).toNat * 9)).off + 6, none⟩ = some (.int .i64 ((rd_T32 t181 (rd t187 x33_3)).f5)) ∧ w'.cell? ⟨(ad192.add (((rd t187 x33_3)).toNat * 9)).block, (ad192.add (((rd t187 x33_3)).toNat * 9)).off + 7, none⟩ = some (.slice A192_7 ((rd_T32 t181 (rd t187 x33_3)).f6).length c192_7) ∧ w'.cell? ⟨(ad192.add (((rd t187 x33_3)).toNat * 9)).block, (ad192.add (((rd t187 x33_3)).toNat * 9)).off + 8, none⟩ = some (.slice A192_8 ((rd_T32 t181 (rd t187 x33_3)).f7).length c192_8)) (ds := []) (rollbacknetlaw14_NetworkChannels.t48 0) (by kernel_rfl) rfl rfl ⟨hx191_0, hx192_0, hx192_1, hx192_2, hx192_3, hx192_4, hx192_5, hx192_6, hx192_7, hx192_8, hx193_0, hx193_1, hx193_2, hx193_3, hx193_4, hx193_5, hx193_6, hx193_7, hx193_8⟩ (fun hHeld => ?_); refine with_tabW rollbacknetlaw14_NetworkChannels.tab15 rollbacknetlaw14_NetworkChannels.bits15 (fun HT_ HW_ => ?_)
                         generalize wr.drew = w51 at HO_3 HO_4 HO_7 HO_31 HB HL192_7 HL192_8 HL193_7 HL193_8 HR192_7 HR192_8 HR193_7 HR193_8 hx191_0 hx192_0 hx192_1 hx192_2 hx192_3 hx192_4 hx192_5 hx192_6 hx192_7 hx192_8 hx193_0 hx193_1 hx193_2 hx193_3 hx193_4 hx193_5 hx193_6 hx193_7 hx193_8 hHeld ⊢
                         refine rollbacknetlaw14_NetworkChannels.in48 0 ?_; iterate 16 (first | (refine rollbacknetlaw14_NetworkChannels.p48 (d := 38) rfl rfl (any_of HT_.out (by kernel_rfl)) (fun _ _ _ h => h) (v := undef) (Or.inr ⟨by rfl, rfl⟩) (a' := ?_) ?_ ?_; rotate_left; (simp only [Act.put, List.setIfInBounds_toArray, List.set_cons_zero, List.set_cons_succ, i64_w, i32_w, Nat.reduceAdd]; rfl)) | (refine rollbacknetlaw14_NetworkChannels.p48 (d := 38) rfl rfl (any_of HT_.out (by kernel_rfl)) (fun _ _ _ h => h) (v := ?_) (Or.inl ⟨by rfl, ?_⟩) (a' := ?_) ?_ ?_; rotate_left; (intro w'; go_simp; with_reducible rfl); rotate_left; (simp only [Act.put, List.setIfInBounds_toArray, List.set_cons_zero, List.set_cons_succ, i64_w, i32_w, Nat.reduceAdd]; rfl)))
                         refine pure_ (i := 17) (N := some 55) (v := ?_) (a' := ?_) (rollbacknetlaw14_NetworkChannels.t48 196607) rfl rfl (any_of HT_.out (by kernel_rfl)) (fun _ _ _ h => h) (Or.inl ⟨by rfl, ?_⟩) ?_ ?_; rotate_left; (intro w'; go_simp; with_reducible rfl); rotate_left; (simp only [Act.put, List.setIfInBounds_toArray, List.set_cons_zero, List.set_cons_succ, i64_w, i32_w]; rfl)
                         refine take_ (i := 16) (N := some 54) (v := ?_) (a' := ?_) (rollbacknetlaw14_NetworkChannels.t48 262143) rfl rfl (take_ofW HT_.out HW_.out (by kernel_rfl)) (fun _ _ _ h => h) (Or.inl ⟨by rfl, ?_⟩) hHeld ?_ ?_; rotate_left; (rintro w' ⟨s0, s1, s2, s3, s4, s5, s6, s7, s8, s9, s10, s11, s12, s13, s14, s15, s16, s17, s18⟩; go_simp; with_reducible rfl); rotate_left; (simp only [Act.put, List.setIfInBounds_toArray, List.set_cons_zero, List.set_cons_succ, i64_w, i32_w]; rfl)
                         refine rollbacknetlaw14_NetworkChannels.in48 18 ?_; iterate 8 (first | (refine rollbacknetlaw14_NetworkChannels.p48 (d := 38) rfl rfl (any_of HT_.out (by kernel_rfl)) (fun _ _ _ h => h) (v := undef) (Or.inr ⟨by rfl, rfl⟩) (a' := ?_) ?_ ?_; rotate_left; (simp only [Act.put, List.setIfInBounds_toArray, List.set_cons_zero, List.set_cons_succ, i64_w, i32_w, Nat.reduceAdd]; rfl)) | (refine rollbacknetlaw14_NetworkChannels.p48 (d := 38) rfl rfl (any_of HT_.out (by kernel_rfl)) (fun _ _ _ h => h) (v := ?_) (Or.inl ⟨by rfl, ?_⟩) (a' := ?_) ?_ ?_; rotate_left; (intro w'; go_simp; with_reducible rfl); rotate_left; (simp only [Act.put, List.setIfInBounds_toArray, List.set_cons_zero, List.set_cons_succ, i64_w, i32_w, Nat.reduceAdd]; rfl)))
                         refine pure_ (i := 27) (N := some 65) (v := ?_) (a' := ?_) (rollbacknetlaw14_NetworkChannels.t48 201326591) rfl rfl (any_of HT_.out (by kernel_rfl)) (fun _ _ _ h => h) (Or.inl ⟨by rfl, ?_⟩) ?_ ?_; rotate_left; (intro w'; go_simp; with_reducible rfl); rotate_left; (simp only [Act.put, List.setIfInBounds_toArray, List.set_cons_zero, List.set_cons_succ, i64_w, i32_w]; rfl)
                         refine take_ (i := 26) (N := some 64) (v := ?_) (a' := ?_) (rollbacknetlaw14_NetworkChannels.t48 268435455) rfl rfl (take_ofW HT_.out HW_.out (by kernel_rfl)) (fun _ _ _ h => h) (Or.inl ⟨by rfl, ?_⟩) hHeld ?_ ?_; rotate_left; (rintro w' ⟨s0, s1, s2, s3, s4, s5, s6, s7, s8, s9, s10, s11, s12, s13, s14, s15, s16, s17, s18⟩; go_simp; with_reducible rfl); rotate_left; (simp only [Act.put, List.setIfInBounds_toArray, List.set_cons_zero, List.set_cons_succ, i64_w, i32_w]; rfl)
                         refine rollbacknetlaw14_NetworkChannels.in48 28 ?_; iterate 7 (first | (refine rollbacknetlaw14_NetworkChannels.p48 (d := 38) rfl rfl (any_of HT_.out (by kernel_rfl)) (fun _ _ _ h => h) (v := undef) (Or.inr ⟨by rfl, rfl⟩) (a' := ?_) ?_ ?_; rotate_left; (simp only [Act.put, List.setIfInBounds_toArray, List.set_cons_zero, List.set_cons_succ, i64_w, i32_w, Nat.reduceAdd]; rfl)) | (refine rollbacknetlaw14_NetworkChannels.p48 (d := 38) rfl rfl (any_of HT_.out (by kernel_rfl)) (fun _ _ _ h => h) (v := ?_) (Or.inl ⟨by rfl, ?_⟩) (a' := ?_) ?_ ?_; rotate_left; (intro w'; go_simp; with_reducible rfl); rotate_left; (simp only [Act.put, List.setIfInBounds_toArray, List.set_cons_zero, List.set_cons_succ, i64_w, i32_w, Nat.reduceAdd]; rfl)))
                         refine pure_ (i := 36) (N := some 74) (v := ?_) (a' := ?_) (rollbacknetlaw14_NetworkChannels.t48 103079215103) rfl rfl (any_of HT_.out (by kernel_rfl)) (fun _ _ _ h => h) (Or.inl ⟨by rfl, ?_⟩) ?_ ?_; rotate_left; (intro w'; go_simp; with_reducible rfl); rotate_left; (simp only [Act.put, List.setIfInBounds_toArray, List.set_cons_zero, List.set_cons_succ, i64_w, i32_w]; rfl)
                         refine take_ (i := 35) (N := some 73) (v := ?_) (a' := ?_) (rollbacknetlaw14_NetworkChannels.t48 137438953471) rfl rfl (take_ofW HT_.out HW_.out (by kernel_rfl)) (fun _ _ _ h => h) (Or.inl ⟨by rfl, ?_⟩) hHeld ?_ ?_; rotate_left; (rintro w' ⟨s0, s1, s2, s3, s4, s5, s6, s7, s8, s9, s10, s11, s12, s13, s14, s15, s16, s17, s18⟩; go_simp; with_reducible rfl); rotate_left; (simp only [Act.put, List.setIfInBounds_toArray, List.set_cons_zero, List.set_cons_succ, i64_w, i32_w]; rfl)
                         refine rollbacknetlaw14_NetworkChannels.in48 37 ?_; iterate 11 (first | (refine rollbacknetlaw14_NetworkChannels.p48 (d := 38) rfl rfl (any_of HT_.out (by kernel_rfl)) (fun _ _ _ h => h) (v := undef) (Or.inr ⟨by rfl, rfl⟩) (a' := ?_) ?_ ?_; rotate_left; (simp only [Act.put, List.setIfInBounds_toArray, List.set_cons_zero, List.set_cons_succ, i64_w, i32_w, Nat.reduceAdd]; rfl)) | (refine rollbacknetlaw14_NetworkChannels.p48 (d := 38) rfl rfl (any_of HT_.out (by kernel_rfl)) (fun _ _ _ h => h) (v := ?_) (Or.inl ⟨by rfl, ?_⟩) (a' := ?_) ?_ ?_; rotate_left; (intro w'; go_simp; with_reducible rfl); rotate_left; (simp only [Act.put, List.setIfInBounds_toArray, List.set_cons_zero, List.set_cons_succ, i64_w, i32_w, Nat.reduceAdd]; rfl)))
                         refine done_ (done_of HT_.out (by kernel_rfl)) ?_
                         try go_wp2
                         go_ret
                         exact ⟨by first | rfl | (simp [errW_none, errW_some] <;> rfl) | (simp only [← hji28]; first | rfl | (simp [errW_none, errW_some] <;> rfl)) | (simp [*, errW_none, errW_some] <;> rfl), by repeat (first | (with_reducible first | exact HB.out | apply wA | apply wN | apply wD) | exact HB.out)⟩
                       ·rw [if_neg c35] at H
                        have c35b0 : (((rd_T32 t181 (rd t187 x33_3)).f0) == x5_1) = false := beq_eq_false_iff_ne.mpr c35
                        have c35b1 : (((rd_T32 t181 (rd t187 x33_3)).f0) != x5_1) = true := bne_iff_ne.mpr c35
                        obtain rfl := Option.some.inj H
                        have p190 : 0 ≤ (x33_3 : Int) := of_decide_eq_true (by first | (with_reducible assumption) | assumption)
                        have q190 : x33_3 < (t187.length : Int) := of_decide_eq_true (by first | (with_reducible assumption) | assumption)
                        obtain ⟨ad190, e190, hx190_0⟩ := Kd.at_int (Kd.R_reads' HO_31.out).2.2 x33_3 p190 q190
                        cases e190
                        replace p190 := eq_true p190
                        replace q190 := eq_true q190
                        try go_wp2
                        have n0_ := aM (Kd.S_drew HO_3.out)
                        have n1_ := aM (Kd.R_drew HO_4.out)
                        have n2_ := aM (Kd.R_drew HO_7.out)
                        have n3_ := aM (Kd.R_drew HO_31.out)
                        have n4_ := aM (wD HB.out)
                        clear HO_3
                        clear HO_4
                        clear HO_7
                        clear HO_31
                        clear HB
                        have HO_3 := n0_
                        have HO_4 := n1_
                        have HO_7 := n2_
                        have HO_31 := n3_
                        have HB := n4_
                        clear n0_ n1_ n2_ n3_ n4_
                        have p191 : 0 ≤ ((ji28) : Int) := of_decide_eq_true (by first | (with_reducible assumption) | assumption)
                        have q191 : (ji28) < (t187.length : Int) := of_decide_eq_true (by first | (with_reducible assumption) | assumption)
                        obtain ⟨ad191, e191, hx191_0⟩ := Kd.at_int (Kd.R_reads' HO_7.out).2.2 (ji28) p191 q191
                        obtain rfl : ad190 = ad191 := (by injection e191)
                        replace p191 := eq_true p191
                        replace q191 := eq_true q191
                        have p192 : 0 ≤ ((rd t187 x33_3) : Int) := of_decide_eq_true (by first | (with_reducible assumption) | assumption)
                        have q192 : (rd t187 x33_3) < (t181.length : Int) := of_decide_eq_true (by first | (with_reducible assumption) | assumption)
                        obtain ⟨ad192, A192_7, c192_7, A192_8, c192_8, e192, hx192_0, hx192_1, hx192_2, hx192_3, hx192_4, hx192_5, hx192_6, hx192_7, hx192_8, hl192_7, hi192_7, hl192_8, hi192_8⟩ := at_T32 (Kd.S_reads' HO_3.out).2.2 (rd t187 x33_3) p192 q192
                        cases e192
                        obtain ⟨ce192, hce192, hMe192, hcc192⟩ := Kd.S_get HO_3.out z32 (rd t187 x33_3) p192 (by first | exact q192 | exact of_decide_eq_true (by first | (with_reducible assumption) | assumption) | (have e_ := (Kd.S_reads' HO_3.out).1; omega))
                        obtain ⟨ve192_7, ve192_8, rfl, ge192_7, ge192_8⟩ := k32_openM hMe192
                        have hv192_7 := hcc192 7 _ rfl
                        rw [add_field _ _ 7 (by omega)] at hv192_7
                        replace hv192_7 := Option.some.inj (hv192_7.symm.trans hx192_7)
                        rw [hv192_7] at ge192_7
                        have HL192_7 := aM (show Kd.R (Kd.int .i64) 3 _ _ _ _ ((rd_T32 t181 (rd t187 x33_3)).f6) from ge192_7)
                        clear hv192_7 ge192_7
                        have hv192_8 := hcc192 8 _ rfl
                        rw [add_field _ _ 8 (by omega)] at hv192_8
                        replace hv192_8 := Option.some.inj (hv192_8.symm.trans hx192_8)
                        rw [hv192_8] at ge192_8
                        have HL192_8 := aM (show Kd.R k69 69 _ _ _ _ ((rd_T32 t181 (rd t187 x33_3)).f7) from ge192_8)
                        clear hv192_8 ge192_8
                        clear hcc192 hce192
                        have HR192_7 := aM hi192_7
                        have HC192_7 := aM hl192_7
                        clear hi192_7 hl192_7
                        have HR192_8 := aM hi192_8
                        have HC192_8 := aM hl192_8
                        clear hi192_8 hl192_8
                        replace p192 := eq_true p192
                        replace q192 := eq_true q192
                        refine start_ (n := 48) (S := fun w' => w'.cell? (ad190.add ((ji28)).toNat) = some (.int .i64 (rd t187 (ji28))) ∧ w'.cell? (ad192.add (((rd t187 x33_3)).toNat * 9)) = some (.int .i64 ((rd_T32 t181 (rd t187 x33_3)).f0)) ∧ w'.cell? ⟨(ad192.add (((rd t187 x33_3)).toNat * 9)).block, (ad192.add (((rd t187 x33_3)).toNat * 9)).off + 1, none⟩ = some (.int .i64 ((rd_T32 t181 (rd t187 x33_3)).f1)) ∧ w'.cell? ⟨(ad192.add (((rd t187 x33_3)).toNat * 9)).block, (ad192.add (((rd t187 x33_3)).toNat * 9)).off + 2, none⟩ = some (.int .i64 ((rd_T32 t181 (rd t187 x33_3)).f2.f0)) ∧ w'.cell? ⟨(ad192.add (((rd t187 x33_3)).toNat * 9)).block, (ad192.add (((rd t187 x33_3)).toNat * 9)).off + 3, none⟩ = some (.int .i64 ((rd_T32 t181 (rd t187 x33_3)).f2.f1)) ∧ w'.cell? ⟨(ad192.add (((rd t187 x33_3)).toNat * 9)).block, (ad192.add (((rd t187 x33_3)).toNat * 9)).off + 4, none⟩ = some (.int .i64 ((rd_T32 t181 (rd t187 x33_3)).f3)) ∧ w'.cell? ⟨(ad192.add (((rd t187 x33_3)).toNat * 9)).block, (ad192.add (((rd t187 x33_3)).toNat * 9)).off + 5, none⟩ = some (.int .i64 ((rd_T32 t181 (rd t187 x33_3)).f4)) ∧ w'.cell? ⟨(ad192.add (((rd t187 x33_3)).toNat * 9)).block, (ad192.add (((rd t187 x33_3)).toNat * 9)).off + 6, none⟩ = some (.int .i64 ((rd_T32 t181 (rd t187 x33_3)).f5)) ∧ w'.cell? ⟨(ad192.add (((rd t187 x33_3)).toNat * 9)).block, (ad192.add (((rd t187 x33_3)).toNat * 9)).off + 7, none⟩ = some (.slice A192_7 ((rd_T32 t181 (rd t187 x33_3)).f6).length c192_7) ∧ w'.cell? ⟨(ad192.add (((rd t187 x33_3)).toNat * 9)).block, (ad192.add (((rd t187 x33_3)).toNat * 9)).off + 8, none⟩ = some (.slice A192_8 ((rd_T32 t181 (rd t187 x33_3)).f7).length c192_8)) (ds := []) (rollbacknetlaw14_NetworkChannels.t48 0) (by kernel_rfl) rfl rfl ⟨hx191_0, hx192_0, hx192_1, hx192_2, hx192_3, hx192_4, hx192_5, hx192_6, hx192_7, hx192_8⟩ (fun hHeld => ?_); refine with_tabW rollbacknetlaw14_NetworkChannels.tab15 rollbacknetlaw14_NetworkChannels.bits15 (fun HT_ HW_ => ?_)
                        generalize wr.drew = w52 at HO_3 HO_4 HO_7 HO_31 HB HL192_7 HL192_8 HR192_7 HR192_8 hx191_0 hx192_0 hx192_1 hx192_2 hx192_3 hx192_4 hx192_5 hx192_6 hx192_7 hx192_8 hHeld ⊢
                        refine rollbacknetlaw14_NetworkChannels.in48 0 ?_; iterate 16 (first | (refine rollbacknetlaw14_NetworkChannels.p48 (d := 38) rfl rfl (any_of HT_.out (by kernel_rfl)) (fun _ _ _ h => h) (v := undef) (Or.inr ⟨by rfl, rfl⟩) (a' := ?_) ?_ ?_; rotate_left; (simp only [Act.put, List.setIfInBounds_toArray, List.set_cons_zero, List.set_cons_succ, i64_w, i32_w, Nat.reduceAdd]; rfl)) | (refine rollbacknetlaw14_NetworkChannels.p48 (d := 38) rfl rfl (any_of HT_.out (by kernel_rfl)) (fun _ _ _ h => h) (v := ?_) (Or.inl ⟨by rfl, ?_⟩) (a' := ?_) ?_ ?_; rotate_left; (intro w'; go_simp; with_reducible rfl); rotate_left; (simp only [Act.put, List.setIfInBounds_toArray, List.set_cons_zero, List.set_cons_succ, i64_w, i32_w, Nat.reduceAdd]; rfl)))
                        refine pure_ (i := 17) (N := some 55) (v := ?_) (a' := ?_) (rollbacknetlaw14_NetworkChannels.t48 196607) rfl rfl (any_of HT_.out (by kernel_rfl)) (fun _ _ _ h => h) (Or.inl ⟨by rfl, ?_⟩) ?_ ?_; rotate_left; (intro w'; go_simp; with_reducible rfl); rotate_left; (simp only [Act.put, List.setIfInBounds_toArray, List.set_cons_zero, List.set_cons_succ, i64_w, i32_w]; rfl)
                        refine take_ (i := 16) (N := some 54) (v := ?_) (a' := ?_) (rollbacknetlaw14_NetworkChannels.t48 262143) rfl rfl (take_ofW HT_.out HW_.out (by kernel_rfl)) (fun _ _ _ h => h) (Or.inl ⟨by rfl, ?_⟩) hHeld ?_ ?_; rotate_left; (rintro w' ⟨s0, s1, s2, s3, s4, s5, s6, s7, s8, s9⟩; go_simp; with_reducible rfl); rotate_left; (simp only [Act.put, List.setIfInBounds_toArray, List.set_cons_zero, List.set_cons_succ, i64_w, i32_w]; rfl)
                        refine rollbacknetlaw14_NetworkChannels.in48 18 ?_; iterate 8 (first | (refine rollbacknetlaw14_NetworkChannels.p48 (d := 38) rfl rfl (any_of HT_.out (by kernel_rfl)) (fun _ _ _ h => h) (v := undef) (Or.inr ⟨by rfl, rfl⟩) (a' := ?_) ?_ ?_; rotate_left; (simp only [Act.put, List.setIfInBounds_toArray, List.set_cons_zero, List.set_cons_succ, i64_w, i32_w, Nat.reduceAdd]; rfl)) | (refine rollbacknetlaw14_NetworkChannels.p48 (d := 38) rfl rfl (any_of HT_.out (by kernel_rfl)) (fun _ _ _ h => h) (v := ?_) (Or.inl ⟨by rfl, ?_⟩) (a' := ?_) ?_ ?_; rotate_left; (intro w'; go_simp; with_reducible rfl); rotate_left; (simp only [Act.put, List.setIfInBounds_toArray, List.set_cons_zero, List.set_cons_succ, i64_w, i32_w, Nat.reduceAdd]; rfl)))
                        refine pure_ (i := 27) (N := some 65) (v := ?_) (a' := ?_) (rollbacknetlaw14_NetworkChannels.t48 201326591) rfl rfl (any_of HT_.out (by kernel_rfl)) (fun _ _ _ h => h) (Or.inl ⟨by rfl, ?_⟩) ?_ ?_; rotate_left; (intro w'; go_simp; with_reducible rfl); rotate_left; (simp only [Act.put, List.setIfInBounds_toArray, List.set_cons_zero, List.set_cons_succ, i64_w, i32_w]; rfl)
                        refine take_ (i := 26) (N := some 64) (v := ?_) (a' := ?_) (rollbacknetlaw14_NetworkChannels.t48 268435455) rfl rfl (take_ofW HT_.out HW_.out (by kernel_rfl)) (fun _ _ _ h => h) (Or.inl ⟨by rfl, ?_⟩) hHeld ?_ ?_; rotate_left; (rintro w' ⟨s0, s1, s2, s3, s4, s5, s6, s7, s8, s9⟩; go_simp; with_reducible rfl); rotate_left; (simp only [Act.put, List.setIfInBounds_toArray, List.set_cons_zero, List.set_cons_succ, i64_w, i32_w]; rfl)
                        refine rollbacknetlaw14_NetworkChannels.in48 28 ?_; iterate 20 (first | (refine rollbacknetlaw14_NetworkChannels.p48 (d := 38) rfl rfl (any_of HT_.out (by kernel_rfl)) (fun _ _ _ h => h) (v := undef) (Or.inr ⟨by rfl, rfl⟩) (a' := ?_) ?_ ?_; rotate_left; (simp only [Act.put, List.setIfInBounds_toArray, List.set_cons_zero, List.set_cons_succ, i64_w, i32_w, Nat.reduceAdd]; rfl)) | (refine rollbacknetlaw14_NetworkChannels.p48 (d := 38) rfl rfl (any_of HT_.out (by kernel_rfl)) (fun _ _ _ h => h) (v := ?_) (Or.inl ⟨by rfl, ?_⟩) (a' := ?_) ?_ ?_; rotate_left; (intro w'; go_simp; with_reducible rfl); rotate_left; (simp only [Act.put, List.setIfInBounds_toArray, List.set_cons_zero, List.set_cons_succ, i64_w, i32_w, Nat.reduceAdd]; rfl)))
                        refine done_ (done_of HT_.out (by kernel_rfl)) ?_
                        try go_wp2
                        go_ret
                        exact ⟨by first | rfl | (simp [errW_none, errW_some] <;> rfl) | (simp only [← hji28]; first | rfl | (simp [errW_none, errW_some] <;> rfl)) | (simp [*, errW_none, errW_some] <;> rfl), by repeat (first | (with_reducible first | exact HB.out | apply wA | apply wN | apply wD) | exact HB.out)⟩
                      ·rw [if_neg c34] at H
                       exact absurd H (by simp)
                     ·rw [if_neg c33] at H
                      exact absurd H (by simp)
                   ·rw [if_neg c30] at H
                    exact absurd H (by simp)
                  ·rw [if_neg c29] at H
                   exact absurd H (by simp)
                 ·rw [if_neg c27] at H
                  have c27b0 : decide (0 < x33_3) = false := decide_eq_false c27
                  clear c27
                  by_cases c53 : 0 ≤ (rd t187 x33_3)
                  ·rw [if_pos c53] at H
                   have c53b0 : decide (0 ≤ (rd t187 x33_3)) = true := decide_eq_true c53
                   clear c53
                   by_cases c54 : (rd t187 x33_3) < (t181.length : Int)
                   ·rw [if_pos c54] at H
                    have c54b0 : decide ((rd t187 x33_3) < (t181.length : Int)) = true := decide_eq_true c54
                    clear c54
                    by_cases c55 : ((rd_T32 t181 (rd t187 x33_3)).f0) = x5_1
                    ·rw [if_pos c55] at H
                     have c55b0 : (((rd_T32 t181 (rd t187 x33_3)).f0) == x5_1) = true := beq_iff_eq.mpr c55
                     have c55b1 : (((rd_T32 t181 (rd t187 x33_3)).f0) != x5_1) = false := bne_eq_false_iff_eq.mpr c55
                     clear c55
                     by_cases c56 : ((rd_T32 t181 (rd t187 x33_3)).f1) = x6_2
                     ·rw [if_pos c56] at H
                      have c56b0 : (((rd_T32 t181 (rd t187 x33_3)).f1) == x6_2) = true := beq_iff_eq.mpr c56
                      have c56b1 : (((rd_T32 t181 (rd t187 x33_3)).f1) != x6_2) = false := bne_eq_false_iff_eq.mpr c56
                      clear c56
                      replace H := Option.bind_eq_some_iff.mp H
                      obtain ⟨t200, A570, H⟩ := H
                      replace H : (if 0 < (t187.length : Int) then (if t200 = (rd t187 0) then (if (rd t187 x33_3) < (x4_3.length : Int) then (rollbacknetlaw14_NetworkChannels.l2 k3 t181 (x4_3.set ((rd t187 x33_3) : Int).toNat (wrap64 ((rd x4_3 (rd t187 x33_3)) + 1))) x5_1 x6_2 t187 t187 (t187.length : Int) (wrap64 (x33_3 + 1))) else (none)) else (some false)) else (none)) = some r := H
                      have A57 := aM A570
                      clear A570
                      by_cases c58 : 0 < (t187.length : Int)
                      ·rw [if_pos c58] at H
                       have c58b0 : decide (0 < (t187.length : Int)) = true := decide_eq_true c58
                       have c58b1 : decide (0 < t187.length) = true := decide_eq_true (by omega)
                       clear c58
                       by_cases c59 : t200 = (rd t187 0)
                       ·rw [if_pos c59] at H
                        have c59b0 : (t200 == (rd t187 0)) = true := beq_iff_eq.mpr c59
                        have c59b1 : (t200 != (rd t187 0)) = false := bne_eq_false_iff_eq.mpr c59
                        clear c59
                        have HC60 := aM H
                        clear H
                        have p190 : 0 ≤ (x33_3 : Int) := of_decide_eq_true (by first | (with_reducible assumption) | assumption)
                        have q190 : x33_3 < (t187.length : Int) := of_decide_eq_true (by first | (with_reducible assumption) | assumption)
                        obtain ⟨ad190, e190, hx190_0⟩ := Kd.at_int (Kd.R_reads' HO_31.out).2.2 x33_3 p190 q190
                        cases e190
                        replace p190 := eq_true p190
                        replace q190 := eq_true q190
                        try go_wp2
                        have n0_ := aM (Kd.S_drew HO_3.out)
                        have n1_ := aM (Kd.R_drew HO_4.out)
                        have n2_ := aM (Kd.R_drew HO_7.out)
                        have n3_ := aM (Kd.R_drew HO_31.out)
                        have n4_ := aM (wD HB.out)
                        clear HO_3
                        clear HO_4
                        clear HO_7
                        clear HO_31
                        clear HB
                        have HO_3 := n0_
                        have HO_4 := n1_
                        have HO_7 := n2_
                        have HO_31 := n3_
                        have HB := n4_
                        clear n0_ n1_ n2_ n3_ n4_
                        have p198 : 0 ≤ ((rd t187 x33_3) : Int) := of_decide_eq_true (by first | (with_reducible assumption) | assumption)
                        have q198 : (rd t187 x33_3) < (t181.length : Int) := of_decide_eq_true (by first | (with_reducible assumption) | assumption)
                        obtain ⟨ad198, A198_7, c198_7, A198_8, c198_8, e198, hx198_0, hx198_1, hx198_2, hx198_3, hx198_4, hx198_5, hx198_6, hx198_7, hx198_8, hl198_7, hi198_7, hl198_8, hi198_8⟩ := at_T32 (Kd.S_reads' HO_3.out).2.2 (rd t187 x33_3) p198 q198
                        cases e198
                        obtain ⟨ce198, hce198, hMe198, hcc198⟩ := Kd.S_get HO_3.out z32 (rd t187 x33_3) p198 (by first | exact q198 | exact of_decide_eq_true (by first | (with_reducible assumption) | assumption) | (have e_ := (Kd.S_reads' HO_3.out).1; omega))
                        obtain ⟨ve198_7, ve198_8, rfl, ge198_7, ge198_8⟩ := k32_openM hMe198
                        have hv198_7 := hcc198 7 _ rfl
                        rw [add_field _ _ 7 (by omega)] at hv198_7
                        replace hv198_7 := Option.some.inj (hv198_7.symm.trans hx198_7)
                        rw [hv198_7] at ge198_7
                        have HL198_7 := aM (show Kd.R (Kd.int .i64) 3 _ _ _ _ ((rd_T32 t181 (rd t187 x33_3)).f6) from ge198_7)
                        clear hv198_7 ge198_7
                        have hv198_8 := hcc198 8 _ rfl
                        rw [add_field _ _ 8 (by omega)] at hv198_8
                        replace hv198_8 := Option.some.inj (hv198_8.symm.trans hx198_8)
                        rw [hv198_8] at ge198_8
                        have HL198_8 := aM (show Kd.R k69 69 _ _ _ _ ((rd_T32 t181 (rd t187 x33_3)).f7) from ge198_8)
                        clear hv198_8 ge198_8
                        clear hcc198 hce198
                        have HR198_7 := aM hi198_7
                        have HC198_7 := aM hl198_7
                        clear hi198_7 hl198_7
                        have HR198_8 := aM hi198_8
                        have HC198_8 := aM hl198_8
                        clear hi198_8 hl198_8
                        replace p198 := eq_true p198
                        replace q198 := eq_true q198
                        have p199 : 0 ≤ ((rd t187 x33_3) : Int) := of_decide_eq_true (by first | (with_reducible assumption) | assumption)
                        have q199 : (rd t187 x33_3) < (t181.length : Int) := of_decide_eq_true (by first | (with_reducible assumption) | assumption)
                        obtain ⟨ad199, A199_7, c199_7, A199_8, c199_8, e199, hx199_0, hx199_1, hx199_2, hx199_3, hx199_4, hx199_5, hx199_6, hx199_7, hx199_8, hl199_7, hi199_7, hl199_8, hi199_8⟩ := at_T32 (Kd.S_reads' HO_3.out).2.2 (rd t187 x33_3) p199 q199
                        obtain rfl : ad198 = ad199 := (by injection e199)
                        obtain ⟨ce199, hce199, hMe199, hcc199⟩ := Kd.S_get HO_3.out z32 (rd t187 x33_3) p199 (by first | exact q199 | exact of_decide_eq_true (by first | (with_reducible assumption) | assumption) | (have e_ := (Kd.S_reads' HO_3.out).1; omega))
                        obtain ⟨ve199_7, ve199_8, rfl, ge199_7, ge199_8⟩ := k32_openM hMe199
                        have hv199_7 := hcc199 7 _ rfl
                        rw [add_field _ _ 7 (by omega)] at hv199_7
                        replace hv199_7 := Option.some.inj (hv199_7.symm.trans hx199_7)
                        rw [hv199_7] at ge199_7
                        have HL199_7 := aM (show Kd.R (Kd.int .i64) 3 _ _ _ _ ((rd_T32 t181 (rd t187 x33_3)).f6) from ge199_7)
                        clear hv199_7 ge199_7
                        have hv199_8 := hcc199 8 _ rfl
                        rw [add_field _ _ 8 (by omega)] at hv199_8
                        replace hv199_8 := Option.some.inj (hv199_8.symm.trans hx199_8)
                        rw [hv199_8] at ge199_8
                        have HL199_8 := aM (show Kd.R k69 69 _ _ _ _ ((rd_T32 t181 (rd t187 x33_3)).f7) from ge199_8)
                        clear hv199_8 ge199_8
                        clear hcc199 hce199
                        have HR199_7 := aM hi199_7
                        have HC199_7 := aM hl199_7
                        clear hi199_7 hl199_7
                        have HR199_8 := aM hi199_8
                        have HC199_8 := aM hl199_8
                        clear hi199_8 hl199_8
                        replace p199 := eq_true p199
                        replace q199 := eq_true q199
                        have ea_ := Option.some.inj (hx198_7.symm.trans hx199_7)
                        injection ea_ with ea_ en_ ec_
                        subst ea_
                        subst ec_
                        clear en_
                        have ea_ := Option.some.inj (hx198_8.symm.trans hx199_8)
                        injection ea_ with ea_ en_ ec_
                        subst ea_
                        subst ec_
                        clear en_
                        have p201 : 0 ≤ (0 : Int) := (by omega)
                        have q201 : 0 < (t187.length : Int) := of_decide_eq_true (by first | (with_reducible assumption) | assumption)
                        obtain ⟨ad201, e201, hx201_0⟩ := Kd.at_int (Kd.R_reads' HO_7.out).2.2 0 p201 q201
                        obtain rfl : ad190 = ad201 := (by injection e201)
                        have qi201 : (0 < t187.length) = True := eq_true (by omega)
                        (try rw [show ((0 : Int)).toNat = 0 from rfl] at hx201_0)
                        (try rw [Addr.add_zero'] at hx201_0)
                        replace p201 := eq_true p201
                        replace q201 := eq_true q201
                        refine start_ (n := 48) (S := fun w' => w'.cell? (ad198.add (((rd t187 x33_3)).toNat * 9)) = some (.int .i64 ((rd_T32 t181 (rd t187 x33_3)).f0)) ∧ w'.cell? ⟨(ad198.add (((rd t187 x33_3)).toNat * 9)).block, (ad198.add (((rd t187 x33_3)).toNat * 9)).off + 1, none⟩ = some (.int .i64 ((rd_T32 t181 (rd t187 x33_3)).f1)) ∧ w'.cell? ⟨(ad198.add (((rd t187 x33_3)).toNat * 9)).block, (ad198.add (((rd t187 x33_3)).toNat * 9)).off + 2, none⟩ = some (.int .i64 ((rd_T32 t181 (rd t187 x33_3)).f2.f0)) ∧ w'.cell? ⟨(ad198.add (((rd t187 x33_3)).toNat * 9)).block, (ad198.add (((rd t187 x33_3)).toNat * 9)).off + 3, none⟩ = some (.int .i64 ((rd_T32 t181 (rd t187 x33_3)).f2.f1)) ∧ w'.cell? ⟨(ad198.add (((rd t187 x33_3)).toNat * 9)).block, (ad198.add (((rd t187 x33_3)).toNat * 9)).off + 4, none⟩ = some (.int .i64 ((rd_T32 t181 (rd t187 x33_3)).f3)) ∧ w'.cell? ⟨(ad198.add (((rd t187 x33_3)).toNat * 9)).block, (ad198.add (((rd t187 x33_3)).toNat * 9)).off + 5, none⟩ = some (.int .i64 ((rd_T32 t181 (rd t187 x33_3)).f4)) ∧ w'.cell? ⟨(ad198.add (((rd t187 x33_3)).toNat * 9)).block, (ad198.add (((rd t187 x33_3)).toNat * 9)).off + 6, none⟩ = some (.int .i64 ((rd_T32 t181 (rd t187 x33_3)).f5)) ∧ w'.cell? ⟨(ad198.add (((rd t187 x33_3)).toNat * 9)).block, (ad198.add (((rd t187 x33_3)).toNat * 9)).off + 7, none⟩ = some (.slice A198_7 ((rd_T32 t181 (rd t187 x33_3)).f6).length c198_7) ∧ w'.cell? ⟨(ad198.add (((rd t187 x33_3)).toNat * 9)).block, (ad198.add (((rd t187 x33_3)).toNat * 9)).off + 8, none⟩ = some (.slice A198_8 ((rd_T32 t181 (rd t187 x33_3)).f7).length c198_8) ∧ w'.cell? (ad198.add (((rd t187 x33_3)).toNat * 9)) = some (.int .i64 ((rd_T32 t181 (rd t187 x33_3)).f0)) ∧ w'.cell? ⟨(ad198.add (((rd t187 x33_3)).toNat * 9)).block, (ad198.add (((rd t187 x33_3)).toNat * 9)).off + 1, none⟩ = some (.int .i64 ((rd_T32 t181 (rd t187 x33_3)).f1)) ∧ w'.cell? ⟨(ad198.add (((rd t187 x33_3)).toNat * 9)).block, (ad198.add (((rd t187 x33_3)).toNat * 9)).off + 2, none⟩ = some (.int .i64 ((rd_T32 t181 (rd t187 x33_3)).f2.f0)) ∧ w'.cell? ⟨(ad198.add (((rd t187 x33_3)).toNat * 9)).block, (ad198.add (((rd t187 x33_3)).toNat * 9)).off + 3, none⟩ = some (.int .i64 ((rd_T32 t181 (rd t187 x33_3)).f2.f1)) ∧ w'.cell? ⟨(ad198.add (((rd t187 x33_3)).toNat * 9)).block, (ad198.add (((rd t187 x33_3)).toNat * 9)).off + 4, none⟩ = some (.int .i64 ((rd_T32 t181 (rd t187 x33_3)).f3)) ∧ w'.cell? ⟨(ad198.add (((rd t187 x33_3)).toNat * 9)).block, (ad198.add (((rd t187 x33_3)).toNat * 9)).off + 5, none⟩ = some (.int .i64 ((rd_T32 t181 (rd t187 x33_3)).f4)) ∧ w'.cell? ⟨(ad198.add (((rd t187 x33_3)).toNat * 9)).block, (ad198.add (((rd t187 x33_3)).toNat * 9)).off + 6, none⟩ = some (.int .i64 ((rd_T32 t181 (rd t187 x33_3)).f5)) ∧ w'.cell? ⟨(ad198.add (((rd t187 x33_3)).toNat * 9)).block, (ad198.add (((rd t187 x33_3)).toNat * 9)).off + 7, none⟩ = some (.slice A198_7 ((rd_T32 t181 (rd t187 x33_3)).f6).length c198_7) ∧ w'.cell? ⟨(ad198.add (((rd t187 x33_3)).toNat * 9)).block, (ad198.add (((rd t187 x33_3)).toNat * 9)).off + 8, none⟩ = some (.slice A198_8 ((rd_T32 t181 (rd t187 x33_3)).f7).length c198_8) ∧ w'.cell? ad190 = some (.int .i64 (rd t187 0))) (ds := []) (rollbacknetlaw14_NetworkChannels.t48 0) (by kernel_rfl) rfl rfl ⟨hx198_0, hx198_1, hx198_2, hx198_3, hx198_4, hx198_5, hx198_6, hx198_7, hx198_8, hx199_0, hx199_1, hx199_2, hx199_3, hx199_4, hx199_5, hx199_6, hx199_7, hx199_8, hx201_0⟩ (fun hHeld => ?_); refine with_tabW rollbacknetlaw14_NetworkChannels.tab15 rollbacknetlaw14_NetworkChannels.bits15 (fun HT_ HW_ => ?_)
                        generalize wr.drew = w61 at HO_3 HO_4 HO_7 HO_31 HB HL198_7 HL198_8 HL199_7 HL199_8 HR198_7 HR198_8 HR199_7 HR199_8 hx198_0 hx198_1 hx198_2 hx198_3 hx198_4 hx198_5 hx198_6 hx198_7 hx198_8 hx199_0 hx199_1 hx199_2 hx199_3 hx199_4 hx199_5 hx199_6 hx199_7 hx199_8 hx201_0 hHeld ⊢
                        refine rollbacknetlaw14_NetworkChannels.in48 0 ?_; iterate 26 (first | (refine rollbacknetlaw14_NetworkChannels.p48 (d := 38) rfl rfl (any_of HT_.out (by kernel_rfl)) (fun _ _ _ h => h) (v := undef) (Or.inr ⟨by rfl, rfl⟩) (a' := ?_) ?_ ?_; rotate_left; (simp only [Act.put, List.setIfInBounds_toArray, List.set_cons_zero, List.set_cons_succ, i64_w, i32_w, Nat.reduceAdd]; rfl)) | (refine rollbacknetlaw14_NetworkChannels.p48 (d := 38) rfl rfl (any_of HT_.out (by kernel_rfl)) (fun _ _ _ h => h) (v := ?_) (Or.inl ⟨by rfl, ?_⟩) (a' := ?_) ?_ ?_; rotate_left; (intro w'; go_simp; with_reducible rfl); rotate_left; (simp only [Act.put, List.setIfInBounds_toArray, List.set_cons_zero, List.set_cons_succ, i64_w, i32_w, Nat.reduceAdd]; rfl)))
                        refine pure_ (i := 27) (N := some 65) (v := ?_) (a' := ?_) (rollbacknetlaw14_NetworkChannels.t48 201326591) rfl rfl (any_of HT_.out (by kernel_rfl)) (fun _ _ _ h => h) (Or.inl ⟨by rfl, ?_⟩) ?_ ?_; rotate_left; (intro w'; go_simp; with_reducible rfl); rotate_left; (simp only [Act.put, List.setIfInBounds_toArray, List.set_cons_zero, List.set_cons_succ, i64_w, i32_w]; rfl)
                        refine take_ (i := 26) (N := some 64) (v := ?_) (a' := ?_) (rollbacknetlaw14_NetworkChannels.t48 268435455) rfl rfl (take_ofW HT_.out HW_.out (by kernel_rfl)) (fun _ _ _ h => h) (Or.inl ⟨by rfl, ?_⟩) hHeld ?_ ?_; rotate_left; (rintro w' ⟨s0, s1, s2, s3, s4, s5, s6, s7, s8, s9, s10, s11, s12, s13, s14, s15, s16, s17, s18⟩; go_simp; with_reducible rfl); rotate_left; (simp only [Act.put, List.setIfInBounds_toArray, List.set_cons_zero, List.set_cons_succ, i64_w, i32_w]; rfl)
                        refine rollbacknetlaw14_NetworkChannels.in48 28 ?_; iterate 7 (first | (refine rollbacknetlaw14_NetworkChannels.p48 (d := 38) rfl rfl (any_of HT_.out (by kernel_rfl)) (fun _ _ _ h => h) (v := undef) (Or.inr ⟨by rfl, rfl⟩) (a' := ?_) ?_ ?_; rotate_left; (simp only [Act.put, List.setIfInBounds_toArray, List.set_cons_zero, List.set_cons_succ, i64_w, i32_w, Nat.reduceAdd]; rfl)) | (refine rollbacknetlaw14_NetworkChannels.p48 (d := 38) rfl rfl (any_of HT_.out (by kernel_rfl)) (fun _ _ _ h => h) (v := ?_) (Or.inl ⟨by rfl, ?_⟩) (a' := ?_) ?_ ?_; rotate_left; (intro w'; go_simp; with_reducible rfl); rotate_left; (simp only [Act.put, List.setIfInBounds_toArray, List.set_cons_zero, List.set_cons_succ, i64_w, i32_w, Nat.reduceAdd]; rfl)))
                        refine pure_ (i := 36) (N := some 74) (v := ?_) (a' := ?_) (rollbacknetlaw14_NetworkChannels.t48 103079215103) rfl rfl (any_of HT_.out (by kernel_rfl)) (fun _ _ _ h => h) (Or.inl ⟨by rfl, ?_⟩) ?_ ?_; rotate_left; (intro w'; go_simp; with_reducible rfl); rotate_left; (simp only [Act.put, List.setIfInBounds_toArray, List.set_cons_zero, List.set_cons_succ, i64_w, i32_w]; rfl)
                        refine take_ (i := 35) (N := some 73) (v := ?_) (a' := ?_) (rollbacknetlaw14_NetworkChannels.t48 137438953471) rfl rfl (take_ofW HT_.out HW_.out (by kernel_rfl)) (fun _ _ _ h => h) (Or.inl ⟨by rfl, ?_⟩) hHeld ?_ ?_; rotate_left; (rintro w' ⟨s0, s1, s2, s3, s4, s5, s6, s7, s8, s9, s10, s11, s12, s13, s14, s15, s16, s17, s18⟩; go_simp; with_reducible rfl); rotate_left; (simp only [Act.put, List.setIfInBounds_toArray, List.set_cons_zero, List.set_cons_succ, i64_w, i32_w]; rfl)
                        refine rollbacknetlaw14_NetworkChannels.in48 37 ?_; iterate 5 (first | (refine rollbacknetlaw14_NetworkChannels.p48 (d := 38) rfl rfl (any_of HT_.out (by kernel_rfl)) (fun _ _ _ h => h) (v := undef) (Or.inr ⟨by rfl, rfl⟩) (a' := ?_) ?_ ?_; rotate_left; (simp only [Act.put, List.setIfInBounds_toArray, List.set_cons_zero, List.set_cons_succ, i64_w, i32_w, Nat.reduceAdd]; rfl)) | (refine rollbacknetlaw14_NetworkChannels.p48 (d := 38) rfl rfl (any_of HT_.out (by kernel_rfl)) (fun _ _ _ h => h) (v := ?_) (Or.inl ⟨by rfl, ?_⟩) (a' := ?_) ?_ ?_; rotate_left; (intro w'; go_simp; with_reducible rfl); rotate_left; (simp only [Act.put, List.setIfInBounds_toArray, List.set_cons_zero, List.set_cons_succ, i64_w, i32_w, Nat.reduceAdd]; rfl)))
                        refine pure_ (i := 43) (N := some 81) (v := ?_) (a' := ?_) (rollbacknetlaw14_NetworkChannels.t48 13194139533311) rfl rfl (any_of HT_.out (by kernel_rfl)) (fun _ _ _ h => h) (Or.inl ⟨by rfl, ?_⟩) ?_ ?_; rotate_left; (intro w'; go_simp; with_reducible rfl); rotate_left; (simp only [Act.put, List.setIfInBounds_toArray, List.set_cons_zero, List.set_cons_succ, i64_w, i32_w]; rfl)
                        refine pure_ (i := 44) (N := some 82) (v := ?_) (a' := ?_) (rollbacknetlaw14_NetworkChannels.t48 30786325577727) rfl rfl (any_of HT_.out (by kernel_rfl)) (fun _ _ _ h => h) (Or.inl ⟨by rfl, ?_⟩) ?_ ?_; rotate_left; (intro w'; go_simp; with_reducible rfl); rotate_left; (simp only [Act.put, List.setIfInBounds_toArray, List.set_cons_zero, List.set_cons_succ, i64_w, i32_w]; rfl)
                        refine take_ (i := 45) (N := some 83) (v := ?_) (a' := ?_) (rollbacknetlaw14_NetworkChannels.t48 65970697666559) rfl rfl (take_ofW HT_.out HW_.out (by kernel_rfl)) (fun _ _ _ h => h) (Or.inl ⟨by rfl, ?_⟩) hHeld ?_ ?_; rotate_left; (rintro w' ⟨s0, s1, s2, s3, s4, s5, s6, s7, s8, s9, s10, s11, s12, s13, s14, s15, s16, s17, s18⟩; go_simp; with_reducible rfl); rotate_left; (simp only [Act.put, List.setIfInBounds_toArray, List.set_cons_zero, List.set_cons_succ, i64_w, i32_w]; rfl)
                        refine one_ (i := 42) (N := some 80) (rollbacknetlaw14_NetworkChannels.t48 70368744177663) rfl rfl (one_of HT_.out (by kernel_rfl)) (by decide) (fun K hK => ?_)
                        refine goes_ Try.func16 (by kernel_rfl) rfl #[.slice (some ad198) t181.length co11, .int .i64 (rd t187 x33_3)] (by rfl) rfl rfl (by (try simp only [List.map_toArray, List.map_cons, List.map_nil]); first | done | rfl | (simp only [List.length_drop, List.length_take]; rfl)) ?_
                        with_reducible refine (network_Oldest.calls _ _ t181 (rd t187 x33_3) t200 _ ?side1 ?side2 A57.out).mono ?_
                        (case side1 => repeat (first | exact (Kd.S_reads' HO_3.out).2.2 | (with_reducible refine Kd.C_alloc ?_ _) | (with_reducible refine Kd.C_drewN ?_ _) | (with_reducible refine Kd.C_drew ?_)))
                        (case side2 => exact (Kd.S_reads' HO_3.out).2.1)
                        rintro e w62 ⟨rfl, hb⟩
                        have HS0_ := (hb.cell (World.block_lt_of_cell? _ _ (hHeld.1))).trans (hHeld.1)
                        have HS1_ := (hb.cell (World.block_lt_of_cell? _ _ (hHeld.2.1))).trans (hHeld.2.1)
                        have HS2_ := (hb.cell (World.block_lt_of_cell? _ _ (hHeld.2.2.1))).trans (hHeld.2.2.1)
                        have HS3_ := (hb.cell (World.block_lt_of_cell? _ _ (hHeld.2.2.2.1))).trans (hHeld.2.2.2.1)
                        have HS4_ := (hb.cell (World.block_lt_of_cell? _ _ (hHeld.2.2.2.2.1))).trans (hHeld.2.2.2.2.1)
                        have HS5_ := (hb.cell (World.block_lt_of_cell? _ _ (hHeld.2.2.2.2.2.1))).trans (hHeld.2.2.2.2.2.1)
                        have HS6_ := (hb.cell (World.block_lt_of_cell? _ _ (hHeld.2.2.2.2.2.2.1))).trans (hHeld.2.2.2.2.2.2.1)
                        have HS7_ := (hb.cell (World.block_lt_of_cell? _ _ (hHeld.2.2.2.2.2.2.2.1))).trans (hHeld.2.2.2.2.2.2.2.1)
                        have HS8_ := (hb.cell (World.block_lt_of_cell? _ _ (hHeld.2.2.2.2.2.2.2.2.1))).trans (hHeld.2.2.2.2.2.2.2.2.1)
                        have HS9_ := (hb.cell (World.block_lt_of_cell? _ _ (hHeld.2.2.2.2.2.2.2.2.2.1))).trans (hHeld.2.2.2.2.2.2.2.2.2.1)
                        have HS10_ := (hb.cell (World.block_lt_of_cell? _ _ (hHeld.2.2.2.2.2.2.2.2.2.2.1))).trans (hHeld.2.2.2.2.2.2.2.2.2.2.1)
                        have HS11_ := (hb.cell (World.block_lt_of_cell? _ _ (hHeld.2.2.2.2.2.2.2.2.2.2.2.1))).trans (hHeld.2.2.2.2.2.2.2.2.2.2.2.1)
                        have HS12_ := (hb.cell (World.block_lt_of_cell? _ _ (hHeld.2.2.2.2.2.2.2.2.2.2.2.2.1))).trans (hHeld.2.2.2.2.2.2.2.2.2.2.2.2.1)
                        have HS13_ := (hb.cell (World.block_lt_of_cell? _ _ (hHeld.2.2.2.2.2.2.2.2.2.2.2.2.2.1))).trans (hHeld.2.2.2.2.2.2.2.2.2.2.2.2.2.1)
                        have HS14_ := (hb.cell (World.block_lt_of_cell? _ _ (hHeld.2.2.2.2.2.2.2.2.2.2.2.2.2.2.1))).trans (hHeld.2.2.2.2.2.2.2.2.2.2.2.2.2.2.1)
                        have HS15_ := (hb.cell (World.block_lt_of_cell? _ _ (hHeld.2.2.2.2.2.2.2.2.2.2.2.2.2.2.2.1))).trans (hHeld.2.2.2.2.2.2.2.2.2.2.2.2.2.2.2.1)
                        have HS16_ := (hb.cell (World.block_lt_of_cell? _ _ (hHeld.2.2.2.2.2.2.2.2.2.2.2.2.2.2.2.2.1))).trans (hHeld.2.2.2.2.2.2.2.2.2.2.2.2.2.2.2.2.1)
                        have HS17_ := (hb.cell (World.block_lt_of_cell? _ _ (hHeld.2.2.2.2.2.2.2.2.2.2.2.2.2.2.2.2.2.1))).trans (hHeld.2.2.2.2.2.2.2.2.2.2.2.2.2.2.2.2.2.1)
                        have HS18_ := (hb.cell (World.block_lt_of_cell? _ _ (hHeld.2.2.2.2.2.2.2.2.2.2.2.2.2.2.2.2.2.2))).trans (hHeld.2.2.2.2.2.2.2.2.2.2.2.2.2.2.2.2.2.2)
                        refine ⟨_, rfl, ?_⟩
                        have n0_ := aM (Kd.S_below (by (with_reducible repeat (first | apply Kd.S_alloc | apply Kd.S_drewN | apply Kd.S_drew)); exact HO_3.out) hb)
                        have n1_ := aM (Kd.R_below (by (with_reducible repeat (first | apply Kd.R_alloc | apply Kd.R_drewN | apply Kd.R_drew)); exact HO_4.out) hb)
                        have n2_ := aM (Kd.R_below (by (with_reducible repeat (first | apply Kd.R_alloc | apply Kd.R_drewN | apply Kd.R_drew)); exact HO_7.out) hb)
                        have n3_ := aM (Kd.R_below (by (with_reducible repeat (first | apply Kd.R_alloc | apply Kd.R_drewN | apply Kd.R_drew)); exact HO_31.out) hb)
                        have n4_ := aM (Kd.R_below (by (with_reducible repeat (first | apply Kd.R_alloc | apply Kd.R_drewN | apply Kd.R_drew)); exact HL198_7.out) hb)
                        have n5_ := aM (Kd.R_below (by (with_reducible repeat (first | apply Kd.R_alloc | apply Kd.R_drewN | apply Kd.R_drew)); exact HL198_8.out) hb)
                        have n6_ := aM (Kd.R_below (by (with_reducible repeat (first | apply Kd.R_alloc | apply Kd.R_drewN | apply Kd.R_drew)); exact HL199_7.out) hb)
                        have n7_ := aM (Kd.R_below (by (with_reducible repeat (first | apply Kd.R_alloc | apply Kd.R_drewN | apply Kd.R_drew)); exact HL199_8.out) hb)
                        have n8_ := aM (Kd.C_below (by repeat (first | (with_reducible exact HR198_7.out) | (with_reducible refine Kd.C_alloc ?_ _) | (with_reducible refine Kd.C_drewN ?_ _) | (with_reducible refine Kd.C_drew ?_) | exact HR198_7.out)) hb)
                        have n9_ := aM (Kd.C_below (by repeat (first | (with_reducible exact HR198_8.out) | (with_reducible refine Kd.C_alloc ?_ _) | (with_reducible refine Kd.C_drewN ?_ _) | (with_reducible refine Kd.C_drew ?_) | exact HR198_8.out)) hb)
                        have n10_ := aM (Kd.C_below (by repeat (first | (with_reducible exact HR199_7.out) | (with_reducible refine Kd.C_alloc ?_ _) | (with_reducible refine Kd.C_drewN ?_ _) | (with_reducible refine Kd.C_drew ?_) | exact HR199_7.out)) hb)
                        have n11_ := aM (Kd.C_below (by repeat (first | (with_reducible exact HR199_8.out) | (with_reducible refine Kd.C_alloc ?_ _) | (with_reducible refine Kd.C_drewN ?_ _) | (with_reducible refine Kd.C_drew ?_) | exact HR199_8.out)) hb)
                        have n12_ := aM (below_step (by repeat (first | (with_reducible first | exact HB.out | apply wA | apply wN | apply wD) | exact HB.out)) hb)
                        clear HO_3
                        clear HO_4
                        clear HO_7
                        clear HO_31
                        clear HL198_7
                        clear HL198_8
                        clear HL199_7
                        clear HL199_8
                        clear HR198_7
                        clear HR198_8
                        clear HR199_7
                        clear HR199_8
                        clear HB
                        have HO_3 := n0_
                        have HO_4 := n1_
                        have HO_7 := n2_
                        have HO_31 := n3_
                        have HL198_7 := n4_
                        have HL198_8 := n5_
                        have HL199_7 := n6_
                        have HL199_8 := n7_
                        have HR198_7 := n8_
                        have HR198_8 := n9_
                        have HR199_7 := n10_
                        have HR199_8 := n11_
                        have HB := n12_
                        clear n0_ n1_ n2_ n3_ n4_ n5_ n6_ n7_ n8_ n9_ n10_ n11_ n12_
                        (try clear hb)
                        (try clear hb2)
                        (try clear hk)
                        (try clear hi)
                        (try clear hge_)
                        refine hK.out _ _ ⟨HS0_, HS1_, HS2_, HS3_, HS4_, HS5_, HS6_, HS7_, HS8_, HS9_, HS10_, HS11_, HS12_, HS13_, HS14_, HS15_, HS16_, HS17_, HS18_⟩ (fun hHeld => ?_)
                        clear hK K
                        refine norm_ (a' := ?_) ?_ ?_
                        rotate_left
                        ·show Act.put _ (some 80) _ = _
                         simp only [Act.put, List.setIfInBounds_toArray, List.set_cons_zero, List.set_cons_succ, i64_w, i32_w]
                         rfl
                        refine pure_ (i := 46) (N := some 84) (v := ?_) (a' := ?_) (rollbacknetlaw14_NetworkChannels.t48 140737488355327) rfl rfl (any_of HT_.out (by kernel_rfl)) (fun _ _ _ h => h) (Or.inl ⟨by rfl, ?_⟩) ?_ ?_; rotate_left; (intro w'; go_simp; with_reducible rfl); rotate_left; (simp only [Act.put, List.setIfInBounds_toArray, List.set_cons_zero, List.set_cons_succ, i64_w, i32_w]; rfl)
                        refine pure_ (i := 47) (N := some 85) (v := ?_) (a' := ?_) (rollbacknetlaw14_NetworkChannels.t48 281474976710655) rfl rfl (any_of HT_.out (by kernel_rfl)) (fun _ _ _ h => h) (Or.inl ⟨by rfl, ?_⟩) ?_ ?_; rotate_left; (intro w'; go_simp; with_reducible rfl); rotate_left; (simp only [Act.put, List.setIfInBounds_toArray, List.set_cons_zero, List.set_cons_succ, i64_w, i32_w]; rfl)
                        refine done_ (done_of HT_.out (by kernel_rfl)) ?_
                        go_upto_region 17 with (fail)
                        have H := HC60.out
                        clear HC60
                        by_cases c63 : (rd t187 x33_3) < (x4_3.length : Int)
                        ·rw [if_pos c63] at H
                         have c63b0 : decide ((rd t187 x33_3) < (x4_3.length : Int)) = true := decide_eq_true c63
                         clear c63
                         obtain ⟨y203, hy203⟩ : ∃ y_ : List Int, y_ = (x4_3.set ((rd t187 x33_3) : Int).toNat (wrap64 ((rd x4_3 (rd t187 x33_3)) + 1))) := ⟨_, rfl⟩
                         replace H : (rollbacknetlaw14_NetworkChannels.l2 k3 t181 y203 x5_1 x6_2 t187 t187 (t187.length : Int) (wrap64 (x33_3 + 1))) = some r := by first | (rw [hy203]; with_reducible exact H) | (have H2_ := (Option.bind_some _ _).symm.trans H; rw [hy203]; with_reducible exact H2_) | (have H2_ := (Option.bind_some _ _).symm.trans H; with_reducible exact H2_) | with_reducible exact H | (rw [hy203]; exact H) | exact H
                         have Ny203 := aM hy203
                         clear hy203
                         have H' := aM H
                         clear H
                         obtain ⟨Ao65, co65, eo65⟩ := Kd.R_slice HO_4.out
                         subst eo65
                         have p202 : 0 ≤ ((rd t187 x33_3) : Int) := of_decide_eq_true (by first | (with_reducible assumption) | assumption)
                         have q202 : (rd t187 x33_3) < (x4_3.length : Int) := of_decide_eq_true (by first | (with_reducible assumption) | assumption)
                         obtain ⟨ad202, e202, hx202_0⟩ := Kd.at_int (Kd.R_reads' HO_4.out).2.2 (rd t187 x33_3) p202 q202
                         cases e202
                         replace p202 := eq_true p202
                         replace q202 := eq_true q202
                         have p64 : 0 ≤ ((rd t187 x33_3) : Int) := of_decide_eq_true (by first | (with_reducible assumption) | assumption)
                         have q64 : ((rd t187 x33_3) : Int) < ((x4_3.length : Int) : Int) := of_decide_eq_true (by first | (with_reducible assumption) | assumption)
                         obtain ⟨go64, co64, eo64, gb64, gl64, cl64, HG64⟩ := Kd.R_form HO_4.out (by omega)
                         (first | cases eo64 | (injection eo64 with ea_ en_ ec_; (first | subst ea_ | (injection ea_ with ea_; subst ea_)); subst ec_; clear en_))
                         have GB64 := aM gb64
                         have GG64 := aM HG64
                         clear gb64 gl64 HG64
                         (first | simp only [add_plain] at hx202_0 | skip)
                         obtain ⟨hx64_0, hf64_0⟩ := Kd.R_celln 0 HO_4.out ((rd t187 x33_3) : Int) p64 q64
                         replace p64 := eq_true p64
                         replace q64 := eq_true q64
                         have HP66 := Kd.R_putg HO_4.out ((rd t187 x33_3) : Int) (wrap64 ((rd x4_3 (rd t187 x33_3)) + 1))
                         go_wp2_with (first | ((with_reducible refine gate_store (t := 3) (p := 91) rfl ?_); refine store_event (t := 3) (p := 91) (v := ?vo_w67) (w1 := (w62.setCell ⟨go64, ((rd t187 x33_3) : Int).toNat, none⟩ (.int .i64 (wrap64 ((rd x4_3 (rd t187 x33_3)) + 1))))) ?hg ?ho ?hn ?hr ?_; (case ho => rfl); (case hg => rfl); (case hn => rfl); (case hr => first | (go_simp; done) | (go_simp; rfl)); intro w67 hw; have hg : w62.grownBy w67 (some go64) := (by rw [hw]; exact HP66.2); have hp_ : Kd.R (Kd.int .i64) 3 w67 w.heap.size (fun k_ => some k_ ≠ (.slice (some ad190) t187.length co19 : Value).ownBlock ∧ some k_ ≠ (.slice (some ad190) t187.length co19 : Value).ownBlock) (.slice (some ⟨go64, 0, none⟩) x4_3.length co65) y203 := (by rw [hw, Ny203.out]; exact HP66.1); clear HP66; have n0_ := aM (Kd.S_after (v := (.slice (some ⟨go64, 0, none⟩) x4_3.length co65)) (v1 := (.slice (some ⟨go64, 0, none⟩) x4_3.length co65)) (ok := (fun k_ => some k_ ≠ (.slice (some ad190) t187.length co19 : Value).ownBlock ∧ some k_ ≠ (.slice (some ad190) t187.length co19 : Value).ownBlock)) (by (with_reducible repeat (first | apply Kd.S_alloc | apply Kd.S_drewN | apply Kd.S_drew)); exact Kd.S_mono HO_3.out (fun _ hk => ⟨⟨hk.2.1, hk.2.2⟩, hk.1⟩)) hg (.inl rfl)); have n1_ := aM (hp_); have n2_ := aM (Kd.R_after (v := (.slice (some ⟨go64, 0, none⟩) x4_3.length co65)) (v1 := (.slice (some ⟨go64, 0, none⟩) x4_3.length co65)) (ok := (fun _ => True)) (by (with_reducible repeat (first | apply Kd.R_alloc | apply Kd.R_drewN | apply Kd.R_drew)); exact Kd.R_mono HO_7.out (fun _ hk => ⟨trivial, hk⟩)) hg (.inl rfl)); have n3_ := aM (Kd.R_after (v := (.slice (some ⟨go64, 0, none⟩) x4_3.length co65)) (v1 := (.slice (some ⟨go64, 0, none⟩) x4_3.length co65)) (ok := (fun _ => True)) (by (with_reducible repeat (first | apply Kd.R_alloc | apply Kd.R_drewN | apply Kd.R_drew)); exact Kd.R_mono HO_31.out (fun _ hk => ⟨trivial, hk⟩)) hg (.inl rfl)); have n4_ := aM (Kd.R_after (v := (.slice (some ⟨go64, 0, none⟩) x4_3.length co65)) (v1 := (.slice (some ⟨go64, 0, none⟩) x4_3.length co65)) (ok := (fun k_ => some k_ ≠ (.slice (some ad198) t181.length co11 : Value).ownBlock ∧ some k_ ≠ (.slice (some ad190) t187.length co19 : Value).ownBlock ∧ some k_ ≠ (.slice (some ad190) t187.length co19 : Value).ownBlock)) (by (with_reducible repeat (first | apply Kd.R_alloc | apply Kd.R_drewN | apply Kd.R_drew)); exact Kd.R_mono HL198_7.out (fun _ hk => ⟨⟨hk.2, ⟨hk.1.2.1, hk.1.2.2⟩⟩, hk.1.1⟩)) hg (.inl rfl)); have n5_ := aM (Kd.R_after (v := (.slice (some ⟨go64, 0, none⟩) x4_3.length co65)) (v1 := (.slice (some ⟨go64, 0, none⟩) x4_3.length co65)) (ok := (fun k_ => some k_ ≠ (.slice (some ad198) t181.length co11 : Value).ownBlock ∧ some k_ ≠ (.slice (some ad190) t187.length co19 : Value).ownBlock ∧ some k_ ≠ (.slice (some ad190) t187.length co19 : Value).ownBlock)) (by (with_reducible repeat (first | apply Kd.R_alloc | apply Kd.R_drewN | apply Kd.R_drew)); exact Kd.R_mono HL198_8.out (fun _ hk => ⟨⟨hk.2, ⟨hk.1.2.1, hk.1.2.2⟩⟩, hk.1.1⟩)) hg (.inl rfl)); have n6_ := aM (Kd.R_after (v := (.slice (some ⟨go64, 0, none⟩) x4_3.length co65)) (v1 := (.slice (some ⟨go64, 0, none⟩) x4_3.length co65)) (ok := (fun k_ => some k_ ≠ (.slice (some ad198) t181.length co11 : Value).ownBlock ∧ some k_ ≠ (.slice (some ad190) t187.length co19 : Value).ownBlock ∧ some k_ ≠ (.slice (some ad190) t187.length co19 : Value).ownBlock)) (by (with_reducible repeat (first | apply Kd.R_alloc | apply Kd.R_drewN | apply Kd.R_drew)); exact Kd.R_mono HL199_7.out (fun _ hk => ⟨⟨hk.2, ⟨hk.1.2.1, hk.1.2.2⟩⟩, hk.1.1⟩)) hg (.inl rfl)); have n7_ := aM (Kd.R_after (v := (.slice (some ⟨go64, 0, none⟩) x4_3.length co65)) (v1 := (.slice (some ⟨go64, 0, none⟩) x4_3.length co65)) (ok := (fun k_ => some k_ ≠ (.slice (some ad198) t181.length co11 : Value).ownBlock ∧ some k_ ≠ (.slice (some ad190) t187.length co19 : Value).ownBlock ∧ some k_ ≠ (.slice (some ad190) t187.length co19 : Value).ownBlock)) (by (with_reducible repeat (first | apply Kd.R_alloc | apply Kd.R_drewN | apply Kd.R_drew)); exact Kd.R_mono HL199_8.out (fun _ hk => ⟨⟨hk.2, ⟨hk.1.2.1, hk.1.2.2⟩⟩, hk.1.1⟩)) hg (.inl rfl)); have n8_ := aM ((by rw [hw]; exact below_set (HB.out) GB64.out : Below w.heap.size w w67)); clear HO_3; clear HO_4; clear HO_7; clear HO_31; clear HL198_7; clear HL198_8; clear HL199_7; clear HL199_8; clear HB; have HO_3 := n0_; have HO_4 := n1_; have HO_7 := n2_; have HO_31 := n3_; have HL198_7 := n4_; have HL198_8 := n5_; have HL199_7 := n6_; have HL199_8 := n7_; have HB := n8_; clear n0_ n1_ n2_ n3_ n4_ n5_ n6_ n7_ n8_; clear hg hw hp_))
                         go_roundg k3
                         case measure => have := HK1.out; have := HK2.out; have := HK3.out; omega
                         case rel => exact ⟨(y203), (wrap64 (x33_3 + 1)), (by first | rfl | (simp; done) | (simp [*]; done)), H', ⟨by have := HK1.out; have := HK2.out; have := HK3.out; omega⟩, ⟨by (with_reducible repeat (first | apply Kd.S_alloc | apply Kd.S_drewN | apply Kd.S_drew)); exact Kd.S_mono HO_3.out (fun _ hk => ⟨hk.2, ⟨hk.1.1, hk.1.2⟩⟩)⟩, ⟨by (with_reducible repeat (first | apply Kd.R_alloc | apply Kd.R_drewN | apply Kd.R_drew)); exact HO_4.out⟩, ⟨by (with_reducible repeat (first | apply Kd.R_alloc | apply Kd.R_drewN | apply Kd.R_drew)); exact Kd.R_mono HO_7.out (fun _ hk => hk.2)⟩, ⟨by (with_reducible repeat (first | apply Kd.R_alloc | apply Kd.R_drewN | apply Kd.R_drew)); exact Kd.R_mono HO_31.out (fun _ hk => hk.2)⟩, ⟨by repeat (first | (with_reducible first | exact HB.out | apply wA | apply wN | apply wD) | exact HB.out)⟩⟩
                        ·rw [if_neg c63] at H
                         exact absurd H (by simp)
                       ·rw [if_neg c59] at H
                        have c59b0 : (t200 == (rd t187 0)) = false := beq_eq_false_iff_ne.mpr c59
                        have c59b1 : (t200 != (rd t187 0)) = true := bne_iff_ne.mpr c59
                        have HC68 := aM H
                        clear H
                        have p190 : 0 ≤ (x33_3 : Int) := of_decide_eq_true (by first | (with_reducible assumption) | assumption)
                        have q190 : x33_3 < (t187.length : Int) := of_decide_eq_true (by first | (with_reducible assumption) | assumption)
                        obtain ⟨ad190, e190, hx190_0⟩ := Kd.at_int (Kd.R_reads' HO_31.out).2.2 x33_3 p190 q190
                        cases e190
                        replace p190 := eq_true p190
                        replace q190 := eq_true q190
                        try go_wp2
                        have n0_ := aM (Kd.S_drew HO_3.out)
                        have n1_ := aM (Kd.R_drew HO_4.out)
                        have n2_ := aM (Kd.R_drew HO_7.out)
                        have n3_ := aM (Kd.R_drew HO_31.out)
                        have n4_ := aM (wD HB.out)
                        clear HO_3
                        clear HO_4
                        clear HO_7
                        clear HO_31
                        clear HB
                        have HO_3 := n0_
                        have HO_4 := n1_
                        have HO_7 := n2_
                        have HO_31 := n3_
                        have HB := n4_
                        clear n0_ n1_ n2_ n3_ n4_
                        have p198 : 0 ≤ ((rd t187 x33_3) : Int) := of_decide_eq_true (by first | (with_reducible assumption) | assumption)
                        have q198 : (rd t187 x33_3) < (t181.length : Int) := of_decide_eq_true (by first | (with_reducible assumption) | assumption)
                        obtain ⟨ad198, A198_7, c198_7, A198_8, c198_8, e198, hx198_0, hx198_1, hx198_2, hx198_3, hx198_4, hx198_5, hx198_6, hx198_7, hx198_8, hl198_7, hi198_7, hl198_8, hi198_8⟩ := at_T32 (Kd.S_reads' HO_3.out).2.2 (rd t187 x33_3) p198 q198
                        cases e198
                        obtain ⟨ce198, hce198, hMe198, hcc198⟩ := Kd.S_get HO_3.out z32 (rd t187 x33_3) p198 (by first | exact q198 | exact of_decide_eq_true (by first | (with_reducible assumption) | assumption) | (have e_ := (Kd.S_reads' HO_3.out).1; omega))
                        obtain ⟨ve198_7, ve198_8, rfl, ge198_7, ge198_8⟩ := k32_openM hMe198
                        have hv198_7 := hcc198 7 _ rfl
                        rw [add_field _ _ 7 (by omega)] at hv198_7
                        replace hv198_7 := Option.some.inj (hv198_7.symm.trans hx198_7)
                        rw [hv198_7] at ge198_7
                        have HL198_7 := aM (show Kd.R (Kd.int .i64) 3 _ _ _ _ ((rd_T32 t181 (rd t187 x33_3)).f6) from ge198_7)
                        clear hv198_7 ge198_7
                        have hv198_8 := hcc198 8 _ rfl
                        rw [add_field _ _ 8 (by omega)] at hv198_8
                        replace hv198_8 := Option.some.inj (hv198_8.symm.trans hx198_8)
                        rw [hv198_8] at ge198_8
                        have HL198_8 := aM (show Kd.R k69 69 _ _ _ _ ((rd_T32 t181 (rd t187 x33_3)).f7) from ge198_8)
                        clear hv198_8 ge198_8
                        clear hcc198 hce198
                        have HR198_7 := aM hi198_7
                        have HC198_7 := aM hl198_7
                        clear hi198_7 hl198_7
                        have HR198_8 := aM hi198_8
                        have HC198_8 := aM hl198_8
                        clear hi198_8 hl198_8
                        replace p198 := eq_true p198
                        replace q198 := eq_true q198
                        have p199 : 0 ≤ ((rd t187 x33_3) : Int) := of_decide_eq_true (by first | (with_reducible assumption) | assumption)
                        have q199 : (rd t187 x33_3) < (t181.length : Int) := of_decide_eq_true (by first | (with_reducible assumption) | assumption)
                        obtain ⟨ad199, A199_7, c199_7, A199_8, c199_8, e199, hx199_0, hx199_1, hx199_2, hx199_3, hx199_4, hx199_5, hx199_6, hx199_7, hx199_8, hl199_7, hi199_7, hl199_8, hi199_8⟩ := at_T32 (Kd.S_reads' HO_3.out).2.2 (rd t187 x33_3) p199 q199
                        obtain rfl : ad198 = ad199 := (by injection e199)
                        obtain ⟨ce199, hce199, hMe199, hcc199⟩ := Kd.S_get HO_3.out z32 (rd t187 x33_3) p199 (by first | exact q199 | exact of_decide_eq_true (by first | (with_reducible assumption) | assumption) | (have e_ := (Kd.S_reads' HO_3.out).1; omega))
                        obtain ⟨ve199_7, ve199_8, rfl, ge199_7, ge199_8⟩ := k32_openM hMe199
                        have hv199_7 := hcc199 7 _ rfl
                        rw [add_field _ _ 7 (by omega)] at hv199_7
                        replace hv199_7 := Option.some.inj (hv199_7.symm.trans hx199_7)
                        rw [hv199_7] at ge199_7
                        have HL199_7 := aM (show Kd.R (Kd.int .i64) 3 _ _ _ _ ((rd_T32 t181 (rd t187 x33_3)).f6) from ge199_7)
                        clear hv199_7 ge199_7
                        have hv199_8 := hcc199 8 _ rfl
                        rw [add_field _ _ 8 (by omega)] at hv199_8
                        replace hv199_8 := Option.some.inj (hv199_8.symm.trans hx199_8)
                        rw [hv199_8] at ge199_8
                        have HL199_8 := aM (show Kd.R k69 69 _ _ _ _ ((rd_T32 t181 (rd t187 x33_3)).f7) from ge199_8)
                        clear hv199_8 ge199_8
                        clear hcc199 hce199
                        have HR199_7 := aM hi199_7
                        have HC199_7 := aM hl199_7
                        clear hi199_7 hl199_7
                        have HR199_8 := aM hi199_8
                        have HC199_8 := aM hl199_8
                        clear hi199_8 hl199_8
                        replace p199 := eq_true p199
                        replace q199 := eq_true q199
                        have ea_ := Option.some.inj (hx198_7.symm.trans hx199_7)
                        injection ea_ with ea_ en_ ec_
                        subst ea_
                        subst ec_
                        clear en_
                        have ea_ := Option.some.inj (hx198_8.symm.trans hx199_8)
                        injection ea_ with ea_ en_ ec_
                        subst ea_
                        subst ec_
                        clear en_
                        have p201 : 0 ≤ (0 : Int) := (by omega)
                        have q201 : 0 < (t187.length : Int) := of_decide_eq_true (by first | (with_reducible assumption) | assumption)
                        obtain ⟨ad201, e201, hx201_0⟩ := Kd.at_int (Kd.R_reads' HO_7.out).2.2 0 p201 q201
                        obtain rfl : ad190 = ad201 := (by injection e201)
                        have qi201 : (0 < t187.length) = True := eq_true (by omega)
                        (try rw [show ((0 : Int)).toNat = 0 from rfl] at hx201_0)
                        (try rw [Addr.add_zero'] at hx201_0)
                        replace p201 := eq_true p201
                        replace q201 := eq_true q201
                        refine start_ (n := 48) (S := fun w' => w'.cell? (ad198.add (((rd t187 x33_3)).toNat * 9)) = some (.int .i64 ((rd_T32 t181 (rd t187 x33_3)).f0)) ∧ w'.cell? ⟨(ad198.add (((rd t187 x33_3)).toNat * 9)).block, (ad198.add (((rd t187 x33_3)).toNat * 9)).off + 1, none⟩ = some (.int .i64 ((rd_T32 t181 (rd t187 x33_3)).f1)) ∧ w'.cell? ⟨(ad198.add (((rd t187 x33_3)).toNat * 9)).block, (ad198.add (((rd t187 x33_3)).toNat * 9)).off + 2, none⟩ = some (.int .i64 ((rd_T32 t181 (rd t187 x33_3)).f2.f0)) ∧ w'.cell? ⟨(ad198.add (((rd t187 x33_3)).toNat * 9)).block, (ad198.add (((rd t187 x33_3)).toNat * 9)).off + 3, none⟩ = some (.int .i64 ((rd_T32 t181 (rd t187 x33_3)).f2.f1)) ∧ w'.cell? ⟨(ad198.add (((rd t187 x33_3)).toNat * 9)).block, (ad198.add (((rd t187 x33_3)).toNat * 9)).off + 4, none⟩ = some (.int .i64 ((rd_T32 t181 (rd t187 x33_3)).f3)) ∧ w'.cell? ⟨(ad198.add (((rd t187 x33_3)).toNat * 9)).block, (ad198.add (((rd t187 x33_3)).toNat * 9)).off + 5, none⟩ = some (.int .i64 ((rd_T32 t181 (rd t187 x33_3)).f4)) ∧ w'.cell? ⟨(ad198.add (((rd t187 x33_3)).toNat * 9)).block, (ad198.add (((rd t187 x33_3)).toNat * 9)).off + 6, none⟩ = some (.int .i64 ((rd_T32 t181 (rd t187 x33_3)).f5)) ∧ w'.cell? ⟨(ad198.add (((rd t187 x33_3)).toNat * 9)).block, (ad198.add (((rd t187 x33_3)).toNat * 9)).off + 7, none⟩ = some (.slice A198_7 ((rd_T32 t181 (rd t187 x33_3)).f6).length c198_7) ∧ w'.cell? ⟨(ad198.add (((rd t187 x33_3)).toNat * 9)).block, (ad198.add (((rd t187 x33_3)).toNat * 9)).off + 8, none⟩ = some (.slice A198_8 ((rd_T32 t181 (rd t187 x33_3)).f7).length c198_8) ∧ w'.cell? (ad198.add (((rd t187 x33_3)).toNat * 9)) = some (.int .i64 ((rd_T32 t181 (rd t187 x33_3)).f0)) ∧ w'.cell? ⟨(ad198.add (((rd t187 x33_3)).toNat * 9)).block, (ad198.add (((rd t187 x33_3)).toNat * 9)).off + 1, none⟩ = some (.int .i64 ((rd_T32 t181 (rd t187 x33_3)).f1)) ∧ w'.cell? ⟨(ad198.add (((rd t187 x33_3)).toNat * 9)).block, (ad198.add (((rd t187 x33_3)).toNat * 9)).off + 2, none⟩ = some (.int .i64 ((rd_T32 t181 (rd t187 x33_3)).f2.f0)) ∧ w'.cell? ⟨(ad198.add (((rd t187 x33_3)).toNat * 9)).block, (ad198.add (((rd t187 x33_3)).toNat * 9)).off + 3, none⟩ = some (.int .i64 ((rd_T32 t181 (rd t187 x33_3)).f2.f1)) ∧ w'.cell? ⟨(ad198.add (((rd t187 x33_3)).toNat * 9)).block, (ad198.add (((rd t187 x33_3)).toNat * 9)).off + 4, none⟩ = some (.int .i64 ((rd_T32 t181 (rd t187 x33_3)).f3)) ∧ w'.cell? ⟨(ad198.add (((rd t187 x33_3)).toNat * 9)).block, (ad198.add (((rd t187 x33_3)).toNat * 9)).off + 5, none⟩ = some (.int .i64 ((rd_T32 t181 (rd t187 x33_3)).f4)) ∧ w'.cell? ⟨(ad198.add (((rd t187 x33_3)).toNat * 9)).block, (ad198.add (((rd t187 x33_3)).toNat * 9)).off + 6, none⟩ = some (.int .i64 ((rd_T32 t181 (rd t187 x33_3)).f5)) ∧ w'.cell? ⟨(ad198.add (((rd t187 x33_3)).toNat * 9)).block, (ad198.add (((rd t187 x33_3)).toNat * 9)).off + 7, none⟩ = some (.slice A198_7 ((rd_T32 t181 (rd t187 x33_3)).f6).length c198_7) ∧ w'.cell? ⟨(ad198.add (((rd t187 x33_3)).toNat * 9)).block, (ad198.add (((rd t187 x33_3)).toNat * 9)).off + 8, none⟩ = some (.slice A198_8 ((rd_T32 t181 (rd t187 x33_3)).f7).length c198_8) ∧ w'.cell? ad190 = some (.int .i64 (rd t187 0))) (ds := []) (rollbacknetlaw14_NetworkChannels.t48 0) (by kernel_rfl) rfl rfl ⟨hx198_0, hx198_1, hx198_2, hx198_3, hx198_4, hx198_5, hx198_6, hx198_7, hx198_8, hx199_0, hx199_1, hx199_2, hx199_3, hx199_4, hx199_5, hx199_6, hx199_7, hx199_8, hx201_0⟩ (fun hHeld => ?_); refine with_tabW rollbacknetlaw14_NetworkChannels.tab15 rollbacknetlaw14_NetworkChannels.bits15 (fun HT_ HW_ => ?_)
                        generalize wr.drew = w69 at HO_3 HO_4 HO_7 HO_31 HB HL198_7 HL198_8 HL199_7 HL199_8 HR198_7 HR198_8 HR199_7 HR199_8 hx198_0 hx198_1 hx198_2 hx198_3 hx198_4 hx198_5 hx198_6 hx198_7 hx198_8 hx199_0 hx199_1 hx199_2 hx199_3 hx199_4 hx199_5 hx199_6 hx199_7 hx199_8 hx201_0 hHeld ⊢
                        refine rollbacknetlaw14_NetworkChannels.in48 0 ?_; iterate 26 (first | (refine rollbacknetlaw14_NetworkChannels.p48 (d := 38) rfl rfl (any_of HT_.out (by kernel_rfl)) (fun _ _ _ h => h) (v := undef) (Or.inr ⟨by rfl, rfl⟩) (a' := ?_) ?_ ?_; rotate_left; (simp only [Act.put, List.setIfInBounds_toArray, List.set_cons_zero, List.set_cons_succ, i64_w, i32_w, Nat.reduceAdd]; rfl)) | (refine rollbacknetlaw14_NetworkChannels.p48 (d := 38) rfl rfl (any_of HT_.out (by kernel_rfl)) (fun _ _ _ h => h) (v := ?_) (Or.inl ⟨by rfl, ?_⟩) (a' := ?_) ?_ ?_; rotate_left; (intro w'; go_simp; with_reducible rfl); rotate_left; (simp only [Act.put, List.setIfInBounds_toArray, List.set_cons_zero, List.set_cons_succ, i64_w, i32_w, Nat.reduceAdd]; rfl)))
                        refine pure_ (i := 27) (N := some 65) (v := ?_) (a' := ?_) (rollbacknetlaw14_NetworkChannels.t48 201326591) rfl rfl (any_of HT_.out (by kernel_rfl)) (fun _ _ _ h => h) (Or.inl ⟨by rfl, ?_⟩) ?_ ?_; rotate_left; (intro w'; go_simp; with_reducible rfl); rotate_left; (simp only [Act.put, List.setIfInBounds_toArray, List.set_cons_zero, List.set_cons_succ, i64_w, i32_w]; rfl)
                        refine take_ (i := 26) (N := some 64) (v := ?_) (a' := ?_) (rollbacknetlaw14_NetworkChannels.t48 268435455) rfl rfl (take_ofW HT_.out HW_.out (by kernel_rfl)) (fun _ _ _ h => h) (Or.inl ⟨by rfl, ?_⟩) hHeld ?_ ?_; rotate_left; (rintro w' ⟨s0, s1, s2, s3, s4, s5, s6, s7, s8, s9, s10, s11, s12, s13, s14, s15, s16, s17, s18⟩; go_simp; with_reducible rfl); rotate_left; (simp only [Act.put, List.setIfInBounds_toArray, List.set_cons_zero, List.set_cons_succ, i64_w, i32_w]; rfl)
                        refine rollbacknetlaw14_NetworkChannels.in48 28 ?_; iterate 7 (first | (refine rollbacknetlaw14_NetworkChannels.p48 (d := 38) rfl rfl (any_of HT_.out (by kernel_rfl)) (fun _ _ _ h => h) (v := undef) (Or.inr ⟨by rfl, rfl⟩) (a' := ?_) ?_ ?_; rotate_left; (simp only [Act.put, List.setIfInBounds_toArray, List.set_cons_zero, List.set_cons_succ, i64_w, i32_w, Nat.reduceAdd]; rfl)) | (refine rollbacknetlaw14_NetworkChannels.p48 (d := 38) rfl rfl (any_of HT_.out (by kernel_rfl)) (fun _ _ _ h => h) (v := ?_) (Or.inl ⟨by rfl, ?_⟩) (a' := ?_) ?_ ?_; rotate_left; (intro w'; go_simp; with_reducible rfl); rotate_left; (simp only [Act.put, List.setIfInBounds_toArray, List.set_cons_zero, List.set_cons_succ, i64_w, i32_w, Nat.reduceAdd]; rfl)))
                        refine pure_ (i := 36) (N := some 74) (v := ?_) (a' := ?_) (rollbacknetlaw14_NetworkChannels.t48 103079215103) rfl rfl (any_of HT_.out (by kernel_rfl)) (fun _ _ _ h => h) (Or.inl ⟨by rfl, ?_⟩) ?_ ?_; rotate_left; (intro w'; go_simp; with_reducible rfl); rotate_left; (simp only [Act.put, List.setIfInBounds_toArray, List.set_cons_zero, List.set_cons_succ, i64_w, i32_w]; rfl)
                        refine take_ (i := 35) (N := some 73) (v := ?_) (a' := ?_) (rollbacknetlaw14_NetworkChannels.t48 137438953471) rfl rfl (take_ofW HT_.out HW_.out (by kernel_rfl)) (fun _ _ _ h => h) (Or.inl ⟨by rfl, ?_⟩) hHeld ?_ ?_; rotate_left; (rintro w' ⟨s0, s1, s2, s3, s4, s5, s6, s7, s8, s9, s10, s11, s12, s13, s14, s15, s16, s17, s18⟩; go_simp; with_reducible rfl); rotate_left; (simp only [Act.put, List.setIfInBounds_toArray, List.set_cons_zero, List.set_cons_succ, i64_w, i32_w]; rfl)
                        refine rollbacknetlaw14_NetworkChannels.in48 37 ?_; iterate 5 (first | (refine rollbacknetlaw14_NetworkChannels.p48 (d := 38) rfl rfl (any_of HT_.out (by kernel_rfl)) (fun _ _ _ h => h) (v := undef) (Or.inr ⟨by rfl, rfl⟩) (a' := ?_) ?_ ?_; rotate_left; (simp only [Act.put, List.setIfInBounds_toArray, List.set_cons_zero, List.set_cons_succ, i64_w, i32_w, Nat.reduceAdd]; rfl)) | (refine rollbacknetlaw14_NetworkChannels.p48 (d := 38) rfl rfl (any_of HT_.out (by kernel_rfl)) (fun _ _ _ h => h) (v := ?_) (Or.inl ⟨by rfl, ?_⟩) (a' := ?_) ?_ ?_; rotate_left; (intro w'; go_simp; with_reducible rfl); rotate_left; (simp only [Act.put, List.setIfInBounds_toArray, List.set_cons_zero, List.set_cons_succ, i64_w, i32_w, Nat.reduceAdd]; rfl)))
                        refine pure_ (i := 43) (N := some 81) (v := ?_) (a' := ?_) (rollbacknetlaw14_NetworkChannels.t48 13194139533311) rfl rfl (any_of HT_.out (by kernel_rfl)) (fun _ _ _ h => h) (Or.inl ⟨by rfl, ?_⟩) ?_ ?_; rotate_left; (intro w'; go_simp; with_reducible rfl); rotate_left; (simp only [Act.put, List.setIfInBounds_toArray, List.set_cons_zero, List.set_cons_succ, i64_w, i32_w]; rfl)
                        refine pure_ (i := 44) (N := some 82) (v := ?_) (a' := ?_) (rollbacknetlaw14_NetworkChannels.t48 30786325577727) rfl rfl (any_of HT_.out (by kernel_rfl)) (fun _ _ _ h => h) (Or.inl ⟨by rfl, ?_⟩) ?_ ?_; rotate_left; (intro w'; go_simp; with_reducible rfl); rotate_left; (simp only [Act.put, List.setIfInBounds_toArray, List.set_cons_zero, List.set_cons_succ, i64_w, i32_w]; rfl)
                        refine take_ (i := 45) (N := some 83) (v := ?_) (a' := ?_) (rollbacknetlaw14_NetworkChannels.t48 65970697666559) rfl rfl (take_ofW HT_.out HW_.out (by kernel_rfl)) (fun _ _ _ h => h) (Or.inl ⟨by rfl, ?_⟩) hHeld ?_ ?_; rotate_left; (rintro w' ⟨s0, s1, s2, s3, s4, s5, s6, s7, s8, s9, s10, s11, s12, s13, s14, s15, s16, s17, s18⟩; go_simp; with_reducible rfl); rotate_left; (simp only [Act.put, List.setIfInBounds_toArray, List.set_cons_zero, List.set_cons_succ, i64_w, i32_w]; rfl)
                        refine one_ (i := 42) (N := some 80) (rollbacknetlaw14_NetworkChannels.t48 70368744177663) rfl rfl (one_of HT_.out (by kernel_rfl)) (by decide) (fun K hK => ?_)
                        refine goes_ Try.func16 (by kernel_rfl) rfl #[.slice (some ad198) t181.length co11, .int .i64 (rd t187 x33_3)] (by rfl) rfl rfl (by (try simp only [List.map_toArray, List.map_cons, List.map_nil]); first | done | rfl | (simp only [List.length_drop, List.length_take]; rfl)) ?_
                        with_reducible refine (network_Oldest.calls _ _ t181 (rd t187 x33_3) t200 _ ?side1 ?side2 A57.out).mono ?_
                        (case side1 => repeat (first | exact (Kd.S_reads' HO_3.out).2.2 | (with_reducible refine Kd.C_alloc ?_ _) | (with_reducible refine Kd.C_drewN ?_ _) | (with_reducible refine Kd.C_drew ?_)))
                        (case side2 => exact (Kd.S_reads' HO_3.out).2.1)
                        rintro e w70 ⟨rfl, hb⟩
                        have HS0_ := (hb.cell (World.block_lt_of_cell? _ _ (hHeld.1))).trans (hHeld.1)
                        have HS1_ := (hb.cell (World.block_lt_of_cell? _ _ (hHeld.2.1))).trans (hHeld.2.1)
                        have HS2_ := (hb.cell (World.block_lt_of_cell? _ _ (hHeld.2.2.1))).trans (hHeld.2.2.1)
                        have HS3_ := (hb.cell (World.block_lt_of_cell? _ _ (hHeld.2.2.2.1))).trans (hHeld.2.2.2.1)
                        have HS4_ := (hb.cell (World.block_lt_of_cell? _ _ (hHeld.2.2.2.2.1))).trans (hHeld.2.2.2.2.1)
                        have HS5_ := (hb.cell (World.block_lt_of_cell? _ _ (hHeld.2.2.2.2.2.1))).trans (hHeld.2.2.2.2.2.1)
                        have HS6_ := (hb.cell (World.block_lt_of_cell? _ _ (hHeld.2.2.2.2.2.2.1))).trans (hHeld.2.2.2.2.2.2.1)
                        have HS7_ := (hb.cell (World.block_lt_of_cell? _ _ (hHeld.2.2.2.2.2.2.2.1))).trans (hHeld.2.2.2.2.2.2.2.1)
                        have HS8_ := (hb.cell (World.block_lt_of_cell? _ _ (hHeld.2.2.2.2.2.2.2.2.1))).trans (hHeld.2.2.2.2.2.2.2.2.1)
                        have HS9_ := (hb.cell (World.block_lt_of_cell? _ _ (hHeld.2.2.2.2.2.2.2.2.2.1))).trans (hHeld.2.2.2.2.2.2.2.2.2.1)
                        have HS10_ := (hb.cell (World.block_lt_of_cell? _ _ (hHeld.2.2.2.2.2.2.2.2.2.2.1))).trans (hHeld.2.2.2.2.2.2.2.2.2.2.1)
                        have HS11_ := (hb.cell (World.block_lt_of_cell? _ _ (hHeld.2.2.2.2.2.2.2.2.2.2.2.1))).trans (hHeld.2.2.2.2.2.2.2.2.2.2.2.1)
                        have HS12_ := (hb.cell (World.block_lt_of_cell? _ _ (hHeld.2.2.2.2.2.2.2.2.2.2.2.2.1))).trans (hHeld.2.2.2.2.2.2.2.2.2.2.2.2.1)
                        have HS13_ := (hb.cell (World.block_lt_of_cell? _ _ (hHeld.2.2.2.2.2.2.2.2.2.2.2.2.2.1))).trans (hHeld.2.2.2.2.2.2.2.2.2.2.2.2.2.1)
                        have HS14_ := (hb.cell (World.block_lt_of_cell? _ _ (hHeld.2.2.2.2.2.2.2.2.2.2.2.2.2.2.1))).trans (hHeld.2.2.2.2.2.2.2.2.2.2.2.2.2.2.1)
                        have HS15_ := (hb.cell (World.block_lt_of_cell? _ _ (hHeld.2.2.2.2.2.2.2.2.2.2.2.2.2.2.2.1))).trans (hHeld.2.2.2.2.2.2.2.2.2.2.2.2.2.2.2.1)
                        have HS16_ := (hb.cell (World.block_lt_of_cell? _ _ (hHeld.2.2.2.2.2.2.2.2.2.2.2.2.2.2.2.2.1))).trans (hHeld.2.2.2.2.2.2.2.2.2.2.2.2.2.2.2.2.1)
                        have HS17_ := (hb.cell (World.block_lt_of_cell? _ _ (hHeld.2.2.2.2.2.2.2.2.2.2.2.2.2.2.2.2.2.1))).trans (hHeld.2.2.2.2.2.2.2.2.2.2.2.2.2.2.2.2.2.1)
                        have HS18_ := (hb.cell (World.block_lt_of_cell? _ _ (hHeld.2.2.2.2.2.2.2.2.2.2.2.2.2.2.2.2.2.2))).trans (hHeld.2.2.2.2.2.2.2.2.2.2.2.2.2.2.2.2.2.2)
                        refine ⟨_, rfl, ?_⟩
                        have n0_ := aM (Kd.S_below (by (with_reducible repeat (first | apply Kd.S_alloc | apply Kd.S_drewN | apply Kd.S_drew)); exact HO_3.out) hb)
                        have n1_ := aM (Kd.R_below (by (with_reducible repeat (first | apply Kd.R_alloc | apply Kd.R_drewN | apply Kd.R_drew)); exact HO_4.out) hb)
                        have n2_ := aM (Kd.R_below (by (with_reducible repeat (first | apply Kd.R_alloc | apply Kd.R_drewN | apply Kd.R_drew)); exact HO_7.out) hb)
                        have n3_ := aM (Kd.R_below (by (with_reducible repeat (first | apply Kd.R_alloc | apply Kd.R_drewN | apply Kd.R_drew)); exact HO_31.out) hb)
                        have n4_ := aM (Kd.R_below (by (with_reducible repeat (first | apply Kd.R_alloc | apply Kd.R_drewN | apply Kd.R_drew)); exact HL198_7.out) hb)
                        have n5_ := aM (Kd.R_below (by (with_reducible repeat (first | apply Kd.R_alloc | apply Kd.R_drewN | apply Kd.R_drew)); exact HL198_8.out) hb)
                        have n6_ := aM (Kd.R_below (by (with_reducible repeat (first | apply Kd.R_alloc | apply Kd.R_drewN | apply Kd.R_drew)); exact HL199_7.out) hb)
                        have n7_ := aM (Kd.R_below (by (with_reducible repeat (first | apply Kd.R_alloc | apply Kd.R_drewN | apply Kd.R_drew)); exact HL199_8.out) hb)
                        have n8_ := aM (Kd.C_below (by repeat (first | (with_reducible exact HR198_7.out) | (with_reducible refine Kd.C_alloc ?_ _) | (with_reducible refine Kd.C_drewN ?_ _) | (with_reducible refine Kd.C_drew ?_) | exact HR198_7.out)) hb)
                        have n9_ := aM (Kd.C_below (by repeat (first | (with_reducible exact HR198_8.out) | (with_reducible refine Kd.C_alloc ?_ _) | (with_reducible refine Kd.C_drewN ?_ _) | (with_reducible refine Kd.C_drew ?_) | exact HR198_8.out)) hb)
                        have n10_ := aM (Kd.C_below (by repeat (first | (with_reducible exact HR199_7.out) | (with_reducible refine Kd.C_alloc ?_ _) | (with_reducible refine Kd.C_drewN ?_ _) | (with_reducible refine Kd.C_drew ?_) | exact HR199_7.out)) hb)
                        have n11_ := aM (Kd.C_below (by repeat (first | (with_reducible exact HR199_8.out) | (with_reducible refine Kd.C_alloc ?_ _) | (with_reducible refine Kd.C_drewN ?_ _) | (with_reducible refine Kd.C_drew ?_) | exact HR199_8.out)) hb)
                        have n12_ := aM (below_step (by repeat (first | (with_reducible first | exact HB.out | apply wA | apply wN | apply wD) | exact HB.out)) hb)
                        clear HO_3
                        clear HO_4
                        clear HO_7
                        clear HO_31
                        clear HL198_7
                        clear HL198_8
                        clear HL199_7
                        clear HL199_8
                        clear HR198_7
                        clear HR198_8
                        clear HR199_7
                        clear HR199_8
                        clear HB
                        have HO_3 := n0_
                        have HO_4 := n1_
                        have HO_7 := n2_
                        have HO_31 := n3_
                        have HL198_7 := n4_
                        have HL198_8 := n5_
                        have HL199_7 := n6_
                        have HL199_8 := n7_
                        have HR198_7 := n8_
                        have HR198_8 := n9_
                        have HR199_7 := n10_
                        have HR199_8 := n11_
                        have HB := n12_
                        clear n0_ n1_ n2_ n3_ n4_ n5_ n6_ n7_ n8_ n9_ n10_ n11_ n12_
                        (try clear hb)
                        (try clear hb2)
                        (try clear hk)
                        (try clear hi)
                        (try clear hge_)
                        refine hK.out _ _ ⟨HS0_, HS1_, HS2_, HS3_, HS4_, HS5_, HS6_, HS7_, HS8_, HS9_, HS10_, HS11_, HS12_, HS13_, HS14_, HS15_, HS16_, HS17_, HS18_⟩ (fun hHeld => ?_)
                        clear hK K
                        refine norm_ (a' := ?_) ?_ ?_
                        rotate_left
                        ·show Act.put _ (some 80) _ = _
                         simp only [Act.put, List.setIfInBounds_toArray, List.set_cons_zero, List.set_cons_succ, i64_w, i32_w]
                         rfl
                        refine pure_ (i := 46) (N := some 84) (v := ?_) (a' := ?_) (rollbacknetlaw14_NetworkChannels.t48 140737488355327) rfl rfl (any_of HT_.out (by kernel_rfl)) (fun _ _ _ h => h) (Or.inl ⟨by rfl, ?_⟩) ?_ ?_; rotate_left; (intro w'; go_simp; with_reducible rfl); rotate_left; (simp only [Act.put, List.setIfInBounds_toArray, List.set_cons_zero, List.set_cons_succ, i64_w, i32_w]; rfl)
                        refine pure_ (i := 47) (N := some 85) (v := ?_) (a' := ?_) (rollbacknetlaw14_NetworkChannels.t48 281474976710655) rfl rfl (any_of HT_.out (by kernel_rfl)) (fun _ _ _ h => h) (Or.inl ⟨by rfl, ?_⟩) ?_ ?_; rotate_left; (intro w'; go_simp; with_reducible rfl); rotate_left; (simp only [Act.put, List.setIfInBounds_toArray, List.set_cons_zero, List.set_cons_succ, i64_w, i32_w]; rfl)
                        refine done_ (done_of HT_.out (by kernel_rfl)) ?_
                        go_upto_region 16 with (fail)
                        have H := HC68.out
                        clear HC68
                        obtain rfl := Option.some.inj H
                        go_wp2
                        go_ret
                        exact ⟨by first | rfl | (simp [errW_none, errW_some] <;> rfl) | (simp [*, errW_none, errW_some] <;> rfl), by repeat (first | (with_reducible first | exact HB.out | apply wA | apply wN | apply wD) | exact HB.out)⟩
                      ·rw [if_neg c58] at H
                       exact absurd H (by simp)
                     ·rw [if_neg c56] at H
                      have c56b0 : (((rd_T32 t181 (rd t187 x33_3)).f1) == x6_2) = false := beq_eq_false_iff_ne.mpr c56
                      have c56b1 : (((rd_T32 t181 (rd t187 x33_3)).f1) != x6_2) = true := bne_iff_ne.mpr c56
                      obtain rfl := Option.some.inj H
                      have p190 : 0 ≤ (x33_3 : Int) := of_decide_eq_true (by first | (with_reducible assumption) | assumption)
                      have q190 : x33_3 < (t187.length : Int) := of_decide_eq_true (by first | (with_reducible assumption) | assumption)
                      obtain ⟨ad190, e190, hx190_0⟩ := Kd.at_int (Kd.R_reads' HO_31.out).2.2 x33_3 p190 q190
                      cases e190
                      replace p190 := eq_true p190
                      replace q190 := eq_true q190
                      try go_wp2
                      have n0_ := aM (Kd.S_drew HO_3.out)
                      have n1_ := aM (Kd.R_drew HO_4.out)
                      have n2_ := aM (Kd.R_drew HO_7.out)
                      have n3_ := aM (Kd.R_drew HO_31.out)
                      have n4_ := aM (wD HB.out)
                      clear HO_3
                      clear HO_4
                      clear HO_7
                      clear HO_31
                      clear HB
                      have HO_3 := n0_
                      have HO_4 := n1_
                      have HO_7 := n2_
                      have HO_31 := n3_
                      have HB := n4_
                      clear n0_ n1_ n2_ n3_ n4_
                      have p198 : 0 ≤ ((rd t187 x33_3) : Int) := of_decide_eq_true (by first | (with_reducible assumption) | assumption)
                      have q198 : (rd t187 x33_3) < (t181.length : Int) := of_decide_eq_true (by first | (with_reducible assumption) | assumption)
                      obtain ⟨ad198, A198_7, c198_7, A198_8, c198_8, e198, hx198_0, hx198_1, hx198_2, hx198_3, hx198_4, hx198_5, hx198_6, hx198_7, hx198_8, hl198_7, hi198_7, hl198_8, hi198_8⟩ := at_T32 (Kd.S_reads' HO_3.out).2.2 (rd t187 x33_3) p198 q198
                      cases e198
                      obtain ⟨ce198, hce198, hMe198, hcc198⟩ := Kd.S_get HO_3.out z32 (rd t187 x33_3) p198 (by first | exact q198 | exact of_decide_eq_true (by first | (with_reducible assumption) | assumption) | (have e_ := (Kd.S_reads' HO_3.out).1; omega))
                      obtain ⟨ve198_7, ve198_8, rfl, ge198_7, ge198_8⟩ := k32_openM hMe198
                      have hv198_7 := hcc198 7 _ rfl
                      rw [add_field _ _ 7 (by omega)] at hv198_7
                      replace hv198_7 := Option.some.inj (hv198_7.symm.trans hx198_7)
                      rw [hv198_7] at ge198_7
                      have HL198_7 := aM (show Kd.R (Kd.int .i64) 3 _ _ _ _ ((rd_T32 t181 (rd t187 x33_3)).f6) from ge198_7)
                      clear hv198_7 ge198_7
                      have hv198_8 := hcc198 8 _ rfl
                      rw [add_field _ _ 8 (by omega)] at hv198_8
                      replace hv198_8 := Option.some.inj (hv198_8.symm.trans hx198_8)
                      rw [hv198_8] at ge198_8
                      have HL198_8 := aM (show Kd.R k69 69 _ _ _ _ ((rd_T32 t181 (rd t187 x33_3)).f7) from ge198_8)
                      clear hv198_8 ge198_8
                      clear hcc198 hce198
                      have HR198_7 := aM hi198_7
                      have HC198_7 := aM hl198_7
                      clear hi198_7 hl198_7
                      have HR198_8 := aM hi198_8
                      have HC198_8 := aM hl198_8
                      clear hi198_8 hl198_8
                      replace p198 := eq_true p198
                      replace q198 := eq_true q198
                      have p199 : 0 ≤ ((rd t187 x33_3) : Int) := of_decide_eq_true (by first | (with_reducible assumption) | assumption)
                      have q199 : (rd t187 x33_3) < (t181.length : Int) := of_decide_eq_true (by first | (with_reducible assumption) | assumption)
                      obtain ⟨ad199, A199_7, c199_7, A199_8, c199_8, e199, hx199_0, hx199_1, hx199_2, hx199_3, hx199_4, hx199_5, hx199_6, hx199_7, hx199_8, hl199_7, hi199_7, hl199_8, hi199_8⟩ := at_T32 (Kd.S_reads' HO_3.out).2.2 (rd t187 x33_3) p199 q199
                      obtain rfl : ad198 = ad199 := (by injection e199)
                      obtain ⟨ce199, hce199, hMe199, hcc199⟩ := Kd.S_get HO_3.out z32 (rd t187 x33_3) p199 (by first | exact q199 | exact of_decide_eq_true (by first | (with_reducible assumption) | assumption) | (have e_ := (Kd.S_reads' HO_3.out).1; omega))
                      obtain ⟨ve199_7, ve199_8, rfl, ge199_7, ge199_8⟩ := k32_openM hMe199
                      have hv199_7 := hcc199 7 _ rfl
                      rw [add_field _ _ 7 (by omega)] at hv199_7
                      replace hv199_7 := Option.some.inj (hv199_7.symm.trans hx199_7)
                      rw [hv199_7] at ge199_7
                      have HL199_7 := aM (show Kd.R (Kd.int .i64) 3 _ _ _ _ ((rd_T32 t181 (rd t187 x33_3)).f6) from ge199_7)
                      clear hv199_7 ge199_7
                      have hv199_8 := hcc199 8 _ rfl
                      rw [add_field _ _ 8 (by omega)] at hv199_8
                      replace hv199_8 := Option.some.inj (hv199_8.symm.trans hx199_8)
                      rw [hv199_8] at ge199_8
                      have HL199_8 := aM (show Kd.R k69 69 _ _ _ _ ((rd_T32 t181 (rd t187 x33_3)).f7) from ge199_8)
                      clear hv199_8 ge199_8
                      clear hcc199 hce199
                      have HR199_7 := aM hi199_7
                      have HC199_7 := aM hl199_7
                      clear hi199_7 hl199_7
                      have HR199_8 := aM hi199_8
                      have HC199_8 := aM hl199_8
                      clear hi199_8 hl199_8
                      replace p199 := eq_true p199
                      replace q199 := eq_true q199
                      have ea_ := Option.some.inj (hx198_7.symm.trans hx199_7)
                      injection ea_ with ea_ en_ ec_
                      subst ea_
                      subst ec_
                      clear en_
                      have ea_ := Option.some.inj (hx198_8.symm.trans hx199_8)
                      injection ea_ with ea_ en_ ec_
                      subst ea_
                      subst ec_
                      clear en_
                      refine start_ (n := 48) (S := fun w' => w'.cell? (ad198.add (((rd t187 x33_3)).toNat * 9)) = some (.int .i64 ((rd_T32 t181 (rd t187 x33_3)).f0)) ∧ w'.cell? ⟨(ad198.add (((rd t187 x33_3)).toNat * 9)).block, (ad198.add (((rd t187 x33_3)).toNat * 9)).off + 1, none⟩ = some (.int .i64 ((rd_T32 t181 (rd t187 x33_3)).f1)) ∧ w'.cell? ⟨(ad198.add (((rd t187 x33_3)).toNat * 9)).block, (ad198.add (((rd t187 x33_3)).toNat * 9)).off + 2, none⟩ = some (.int .i64 ((rd_T32 t181 (rd t187 x33_3)).f2.f0)) ∧ w'.cell? ⟨(ad198.add (((rd t187 x33_3)).toNat * 9)).block, (ad198.add (((rd t187 x33_3)).toNat * 9)).off + 3, none⟩ = some (.int .i64 ((rd_T32 t181 (rd t187 x33_3)).f2.f1)) ∧ w'.cell? ⟨(ad198.add (((rd t187 x33_3)).toNat * 9)).block, (ad198.add (((rd t187 x33_3)).toNat * 9)).off + 4, none⟩ = some (.int .i64 ((rd_T32 t181 (rd t187 x33_3)).f3)) ∧ w'.cell? ⟨(ad198.add (((rd t187 x33_3)).toNat * 9)).block, (ad198.add (((rd t187 x33_3)).toNat * 9)).off + 5, none⟩ = some (.int .i64 ((rd_T32 t181 (rd t187 x33_3)).f4)) ∧ w'.cell? ⟨(ad198.add (((rd t187 x33_3)).toNat * 9)).block, (ad198.add (((rd t187 x33_3)).toNat * 9)).off + 6, none⟩ = some (.int .i64 ((rd_T32 t181 (rd t187 x33_3)).f5)) ∧ w'.cell? ⟨(ad198.add (((rd t187 x33_3)).toNat * 9)).block, (ad198.add (((rd t187 x33_3)).toNat * 9)).off + 7, none⟩ = some (.slice A198_7 ((rd_T32 t181 (rd t187 x33_3)).f6).length c198_7) ∧ w'.cell? ⟨(ad198.add (((rd t187 x33_3)).toNat * 9)).block, (ad198.add (((rd t187 x33_3)).toNat * 9)).off + 8, none⟩ = some (.slice A198_8 ((rd_T32 t181 (rd t187 x33_3)).f7).length c198_8) ∧ w'.cell? (ad198.add (((rd t187 x33_3)).toNat * 9)) = some (.int .i64 ((rd_T32 t181 (rd t187 x33_3)).f0)) ∧ w'.cell? ⟨(ad198.add (((rd t187 x33_3)).toNat * 9)).block, (ad198.add (((rd t187 x33_3)).toNat * 9)).off + 1, none⟩ = some (.int .i64 ((rd_T32 t181 (rd t187 x33_3)).f1)) ∧ w'.cell? ⟨(ad198.add (((rd t187 x33_3)).toNat * 9)).block, (ad198.add (((rd t187 x33_3)).toNat * 9)).off + 2, none⟩ = some (.int .i64 ((rd_T32 t181 (rd t187 x33_3)).f2.f0)) ∧ w'.cell? ⟨(ad198.add (((rd t187 x33_3)).toNat * 9)).block, (ad198.add (((rd t187 x33_3)).toNat * 9)).off + 3, none⟩ = some (.int .i64 ((rd_T32 t181 (rd t187 x33_3)).f2.f1)) ∧ w'.cell? ⟨(ad198.add (((rd t187 x33_3)).toNat * 9)).block, (ad198.add (((rd t187 x33_3)).toNat * 9)).off + 4, none⟩ = some (.int .i64 ((rd_T32 t181 (rd t187 x33_3)).f3)) ∧ w'.cell? ⟨(ad198.add (((rd t187 x33_3)).toNat * 9)).block, (ad198.add (((rd t187 x33_3)).toNat * 9)).off + 5, none⟩ = some (.int .i64 ((rd_T32 t181 (rd t187 x33_3)).f4)) ∧ w'.cell? ⟨(ad198.add (((rd t187 x33_3)).toNat * 9)).block, (ad198.add (((rd t187 x33_3)).toNat * 9)).off + 6, none⟩ = some (.int .i64 ((rd_T32 t181 (rd t187 x33_3)).f5)) ∧ w'.cell? ⟨(ad198.add (((rd t187 x33_3)).toNat * 9)).block, (ad198.add (((rd t187 x33_3)).toNat * 9)).off + 7, none⟩ = some (.slice A198_7 ((rd_T32 t181 (rd t187 x33_3)).f6).length c198_7) ∧ w'.cell? ⟨(ad198.add (((rd t187 x33_3)).toNat * 9)).block, (ad198.add (((rd t187 x33_3)).toNat * 9)).off + 8, none⟩ = some (.slice A198_8 ((rd_T32 t181 (rd t187 x33_3)).f7).length c198_8)) (ds := []) (rollbacknetlaw14_NetworkChannels.t48 0) (by kernel_rfl) rfl rfl ⟨hx198_0, hx198_1, hx198_2, hx198_3, hx198_4, hx198_5, hx198_6, hx198_7, hx198_8, hx199_0, hx199_1, hx199_2, hx199_3, hx199_4, hx199_5, hx199_6, hx199_7, hx199_8⟩ (fun hHeld => ?_); refine with_tabW rollbacknetlaw14_NetworkChannels.tab15 rollbacknetlaw14_NetworkChannels.bits15 (fun HT_ HW_ => ?_)
                      generalize wr.drew = w71 at HO_3 HO_4 HO_7 HO_31 HB HL198_7 HL198_8 HL199_7 HL199_8 HR198_7 HR198_8 HR199_7 HR199_8 hx198_0 hx198_1 hx198_2 hx198_3 hx198_4 hx198_5 hx198_6 hx198_7 hx198_8 hx199_0 hx199_1 hx199_2 hx199_3 hx199_4 hx199_5 hx199_6 hx199_7 hx199_8 hHeld ⊢
                      refine rollbacknetlaw14_NetworkChannels.in48 0 ?_; iterate 26 (first | (refine rollbacknetlaw14_NetworkChannels.p48 (d := 38) rfl rfl (any_of HT_.out (by kernel_rfl)) (fun _ _ _ h => h) (v := undef) (Or.inr ⟨by rfl, rfl⟩) (a' := ?_) ?_ ?_; rotate_left; (simp only [Act.put, List.setIfInBounds_toArray, List.set_cons_zero, List.set_cons_succ, i64_w, i32_w, Nat.reduceAdd]; rfl)) | (refine rollbacknetlaw14_NetworkChannels.p48 (d := 38) rfl rfl (any_of HT_.out (by kernel_rfl)) (fun _ _ _ h => h) (v := ?_) (Or.inl ⟨by rfl, ?_⟩) (a' := ?_) ?_ ?_; rotate_left; (intro w'; go_simp; with_reducible rfl); rotate_left; (simp only [Act.put, List.setIfInBounds_toArray, List.set_cons_zero, List.set_cons_succ, i64_w, i32_w, Nat.reduceAdd]; rfl)))
                      refine pure_ (i := 27) (N := some 65) (v := ?_) (a' := ?_) (rollbacknetlaw14_NetworkChannels.t48 201326591) rfl rfl (any_of HT_.out (by kernel_rfl)) (fun _ _ _ h => h) (Or.inl ⟨by rfl, ?_⟩) ?_ ?_; rotate_left; (intro w'; go_simp; with_reducible rfl); rotate_left; (simp only [Act.put, List.setIfInBounds_toArray, List.set_cons_zero, List.set_cons_succ, i64_w, i32_w]; rfl)
                      refine take_ (i := 26) (N := some 64) (v := ?_) (a' := ?_) (rollbacknetlaw14_NetworkChannels.t48 268435455) rfl rfl (take_ofW HT_.out HW_.out (by kernel_rfl)) (fun _ _ _ h => h) (Or.inl ⟨by rfl, ?_⟩) hHeld ?_ ?_; rotate_left; (rintro w' ⟨s0, s1, s2, s3, s4, s5, s6, s7, s8, s9, s10, s11, s12, s13, s14, s15, s16, s17⟩; go_simp; with_reducible rfl); rotate_left; (simp only [Act.put, List.setIfInBounds_toArray, List.set_cons_zero, List.set_cons_succ, i64_w, i32_w]; rfl)
                      refine rollbacknetlaw14_NetworkChannels.in48 28 ?_; iterate 7 (first | (refine rollbacknetlaw14_NetworkChannels.p48 (d := 38) rfl rfl (any_of HT_.out (by kernel_rfl)) (fun _ _ _ h => h) (v := undef) (Or.inr ⟨by rfl, rfl⟩) (a' := ?_) ?_ ?_; rotate_left; (simp only [Act.put, List.setIfInBounds_toArray, List.set_cons_zero, List.set_cons_succ, i64_w, i32_w, Nat.reduceAdd]; rfl)) | (refine rollbacknetlaw14_NetworkChannels.p48 (d := 38) rfl rfl (any_of HT_.out (by kernel_rfl)) (fun _ _ _ h => h) (v := ?_) (Or.inl ⟨by rfl, ?_⟩) (a' := ?_) ?_ ?_; rotate_left; (intro w'; go_simp; with_reducible rfl); rotate_left; (simp only [Act.put, List.setIfInBounds_toArray, List.set_cons_zero, List.set_cons_succ, i64_w, i32_w, Nat.reduceAdd]; rfl)))
                      refine pure_ (i := 36) (N := some 74) (v := ?_) (a' := ?_) (rollbacknetlaw14_NetworkChannels.t48 103079215103) rfl rfl (any_of HT_.out (by kernel_rfl)) (fun _ _ _ h => h) (Or.inl ⟨by rfl, ?_⟩) ?_ ?_; rotate_left; (intro w'; go_simp; with_reducible rfl); rotate_left; (simp only [Act.put, List.setIfInBounds_toArray, List.set_cons_zero, List.set_cons_succ, i64_w, i32_w]; rfl)
                      refine take_ (i := 35) (N := some 73) (v := ?_) (a' := ?_) (rollbacknetlaw14_NetworkChannels.t48 137438953471) rfl rfl (take_ofW HT_.out HW_.out (by kernel_rfl)) (fun _ _ _ h => h) (Or.inl ⟨by rfl, ?_⟩) hHeld ?_ ?_; rotate_left; (rintro w' ⟨s0, s1, s2, s3, s4, s5, s6, s7, s8, s9, s10, s11, s12, s13, s14, s15, s16, s17⟩; go_simp; with_reducible rfl); rotate_left; (simp only [Act.put, List.setIfInBounds_toArray, List.set_cons_zero, List.set_cons_succ, i64_w, i32_w]; rfl)
                      refine rollbacknetlaw14_NetworkChannels.in48 37 ?_; iterate 11 (first | (refine rollbacknetlaw14_NetworkChannels.p48 (d := 38) rfl rfl (any_of HT_.out (by kernel_rfl)) (fun _ _ _ h => h) (v := undef) (Or.inr ⟨by rfl, rfl⟩) (a' := ?_) ?_ ?_; rotate_left; (simp only [Act.put, List.setIfInBounds_toArray, List.set_cons_zero, List.set_cons_succ, i64_w, i32_w, Nat.reduceAdd]; rfl)) | (refine rollbacknetlaw14_NetworkChannels.p48 (d := 38) rfl rfl (any_of HT_.out (by kernel_rfl)) (fun _ _ _ h => h) (v := ?_) (Or.inl ⟨by rfl, ?_⟩) (a' := ?_) ?_ ?_; rotate_left; (intro w'; go_simp; with_reducible rfl); rotate_left; (simp only [Act.put, List.setIfInBounds_toArray, List.set_cons_zero, List.set_cons_succ, i64_w, i32_w, Nat.reduceAdd]; rfl)))
                      refine done_ (done_of HT_.out (by kernel_rfl)) ?_
                      try go_wp2
                      go_ret
                      exact ⟨by first | rfl | (simp [errW_none, errW_some] <;> rfl) | (simp [*, errW_none, errW_some] <;> rfl), by repeat (first | (with_reducible first | exact HB.out | apply wA | apply wN | apply wD) | exact HB.out)⟩
                    ·rw [if_neg c55] at H
                     have c55b0 : (((rd_T32 t181 (rd t187 x33_3)).f0) == x5_1) = false := beq_eq_false_iff_ne.mpr c55
                     have c55b1 : (((rd_T32 t181 (rd t187 x33_3)).f0) != x5_1) = true := bne_iff_ne.mpr c55
                     obtain rfl := Option.some.inj H
                     have p190 : 0 ≤ (x33_3 : Int) := of_decide_eq_true (by first | (with_reducible assumption) | assumption)
                     have q190 : x33_3 < (t187.length : Int) := of_decide_eq_true (by first | (with_reducible assumption) | assumption)
                     obtain ⟨ad190, e190, hx190_0⟩ := Kd.at_int (Kd.R_reads' HO_31.out).2.2 x33_3 p190 q190
                     cases e190
                     replace p190 := eq_true p190
                     replace q190 := eq_true q190
                     try go_wp2
                     have n0_ := aM (Kd.S_drew HO_3.out)
                     have n1_ := aM (Kd.R_drew HO_4.out)
                     have n2_ := aM (Kd.R_drew HO_7.out)
                     have n3_ := aM (Kd.R_drew HO_31.out)
                     have n4_ := aM (wD HB.out)
                     clear HO_3
                     clear HO_4
                     clear HO_7
                     clear HO_31
                     clear HB
                     have HO_3 := n0_
                     have HO_4 := n1_
                     have HO_7 := n2_
                     have HO_31 := n3_
                     have HB := n4_
                     clear n0_ n1_ n2_ n3_ n4_
                     have p198 : 0 ≤ ((rd t187 x33_3) : Int) := of_decide_eq_true (by first | (with_reducible assumption) | assumption)
                     have q198 : (rd t187 x33_3) < (t181.length : Int) := of_decide_eq_true (by first | (with_reducible assumption) | assumption)
                     obtain ⟨ad198, A198_7, c198_7, A198_8, c198_8, e198, hx198_0, hx198_1, hx198_2, hx198_3, hx198_4, hx198_5, hx198_6, hx198_7, hx198_8, hl198_7, hi198_7, hl198_8, hi198_8⟩ := at_T32 (Kd.S_reads' HO_3.out).2.2 (rd t187 x33_3) p198 q198
                     cases e198
                     obtain ⟨ce198, hce198, hMe198, hcc198⟩ := Kd.S_get HO_3.out z32 (rd t187 x33_3) p198 (by first | exact q198 | exact of_decide_eq_true (by first | (with_reducible assumption) | assumption) | (have e_ := (Kd.S_reads' HO_3.out).1; omega))
                     obtain ⟨ve198_7, ve198_8, rfl, ge198_7, ge198_8⟩ := k32_openM hMe198
                     have hv198_7 := hcc198 7 _ rfl
                     rw [add_field _ _ 7 (by omega)] at hv198_7
                     replace hv198_7 := Option.some.inj (hv198_7.symm.trans hx198_7)
                     rw [hv198_7] at ge198_7
                     have HL198_7 := aM (show Kd.R (Kd.int .i64) 3 _ _ _ _ ((rd_T32 t181 (rd t187 x33_3)).f6) from ge198_7)
                     clear hv198_7 ge198_7
                     have hv198_8 := hcc198 8 _ rfl
                     rw [add_field _ _ 8 (by omega)] at hv198_8
                     replace hv198_8 := Option.some.inj (hv198_8.symm.trans hx198_8)
                     rw [hv198_8] at ge198_8
                     have HL198_8 := aM (show Kd.R k69 69 _ _ _ _ ((rd_T32 t181 (rd t187 x33_3)).f7) from ge198_8)
                     clear hv198_8 ge198_8
                     clear hcc198 hce198
                     have HR198_7 := aM hi198_7
                     have HC198_7 := aM hl198_7
                     clear hi198_7 hl198_7
                     have HR198_8 := aM hi198_8
                     have HC198_8 := aM hl198_8
                     clear hi198_8 hl198_8
                     replace p198 := eq_true p198
                     replace q198 := eq_true q198
                     refine start_ (n := 48) (S := fun w' => w'.cell? (ad198.add (((rd t187 x33_3)).toNat * 9)) = some (.int .i64 ((rd_T32 t181 (rd t187 x33_3)).f0)) ∧ w'.cell? ⟨(ad198.add (((rd t187 x33_3)).toNat * 9)).block, (ad198.add (((rd t187 x33_3)).toNat * 9)).off + 1, none⟩ = some (.int .i64 ((rd_T32 t181 (rd t187 x33_3)).f1)) ∧ w'.cell? ⟨(ad198.add (((rd t187 x33_3)).toNat * 9)).block, (ad198.add (((rd t187 x33_3)).toNat * 9)).off + 2, none⟩ = some (.int .i64 ((rd_T32 t181 (rd t187 x33_3)).f2.f0)) ∧ w'.cell? ⟨(ad198.add (((rd t187 x33_3)).toNat * 9)).block, (ad198.add (((rd t187 x33_3)).toNat * 9)).off + 3, none⟩ = some (.int .i64 ((rd_T32 t181 (rd t187 x33_3)).f2.f1)) ∧ w'.cell? ⟨(ad198.add (((rd t187 x33_3)).toNat * 9)).block, (ad198.add (((rd t187 x33_3)).toNat * 9)).off + 4, none⟩ = some (.int .i64 ((rd_T32 t181 (rd t187 x33_3)).f3)) ∧ w'.cell? ⟨(ad198.add (((rd t187 x33_3)).toNat * 9)).block, (ad198.add (((rd t187 x33_3)).toNat * 9)).off + 5, none⟩ = some (.int .i64 ((rd_T32 t181 (rd t187 x33_3)).f4)) ∧ w'.cell? ⟨(ad198.add (((rd t187 x33_3)).toNat * 9)).block, (ad198.add (((rd t187 x33_3)).toNat * 9)).off + 6, none⟩ = some (.int .i64 ((rd_T32 t181 (rd t187 x33_3)).f5)) ∧ w'.cell? ⟨(ad198.add (((rd t187 x33_3)).toNat * 9)).block, (ad198.add (((rd t187 x33_3)).toNat * 9)).off + 7, none⟩ = some (.slice A198_7 ((rd_T32 t181 (rd t187 x33_3)).f6).length c198_7) ∧ w'.cell? ⟨(ad198.add (((rd t187 x33_3)).toNat * 9)).block, (ad198.add (((rd t187 x33_3)).toNat * 9)).off + 8, none⟩ = some (.slice A198_8 ((rd_T32 t181 (rd t187 x33_3)).f7).length c198_8)) (ds := []) (rollbacknetlaw14_NetworkChannels.t48 0) (by kernel_rfl) rfl rfl ⟨hx198_0, hx198_1, hx198_2, hx198_3, hx198_4, hx198_5, hx198_6, hx198_7, hx198_8⟩ (fun hHeld => ?_); refine with_tabW rollbacknetlaw14_NetworkChannels.tab15 rollbacknetlaw14_NetworkChannels.bits15 (fun HT_ HW_ => ?_)
                     generalize wr.drew = w72 at HO_3 HO_4 HO_7 HO_31 HB HL198_7 HL198_8 HR198_7 HR198_8 hx198_0 hx198_1 hx198_2 hx198_3 hx198_4 hx198_5 hx198_6 hx198_7 hx198_8 hHeld ⊢
                     refine rollbacknetlaw14_NetworkChannels.in48 0 ?_; iterate 26 (first | (refine rollbacknetlaw14_NetworkChannels.p48 (d := 38) rfl rfl (any_of HT_.out (by kernel_rfl)) (fun _ _ _ h => h) (v := undef) (Or.inr ⟨by rfl, rfl⟩) (a' := ?_) ?_ ?_; rotate_left; (simp only [Act.put, List.setIfInBounds_toArray, List.set_cons_zero, List.set_cons_succ, i64_w, i32_w, Nat.reduceAdd]; rfl)) | (refine rollbacknetlaw14_NetworkChannels.p48 (d := 38) rfl rfl (any_of HT_.out (by kernel_rfl)) (fun _ _ _ h => h) (v := ?_) (Or.inl ⟨by rfl, ?_⟩) (a' := ?_) ?_ ?_; rotate_left; (intro w'; go_simp; with_reducible rfl); rotate_left; (simp only [Act.put, List.setIfInBounds_toArray, List.set_cons_zero, List.set_cons_succ, i64_w, i32_w, Nat.reduceAdd]; rfl)))
                     refine pure_ (i := 27) (N := some 65) (v := ?_) (a' := ?_) (rollbacknetlaw14_NetworkChannels.t48 201326591) rfl rfl (any_of HT_.out (by kernel_rfl)) (fun _ _ _ h => h) (Or.inl ⟨by rfl, ?_⟩) ?_ ?_; rotate_left; (intro w'; go_simp; with_reducible rfl); rotate_left; (simp only [Act.put, List.setIfInBounds_toArray, List.set_cons_zero, List.set_cons_succ, i64_w, i32_w]; rfl)
                     refine take_ (i := 26) (N := some 64) (v := ?_) (a' := ?_) (rollbacknetlaw14_NetworkChannels.t48 268435455) rfl rfl (take_ofW HT_.out HW_.out (by kernel_rfl)) (fun _ _ _ h => h) (Or.inl ⟨by rfl, ?_⟩) hHeld ?_ ?_; rotate_left; (rintro w' ⟨s0, s1, s2, s3, s4, s5, s6, s7, s8⟩; go_simp; with_reducible rfl); rotate_left; (simp only [Act.put, List.setIfInBounds_toArray, List.set_cons_zero, List.set_cons_succ, i64_w, i32_w]; rfl)
                     refine rollbacknetlaw14_NetworkChannels.in48 28 ?_; iterate 20 (first | (refine rollbacknetlaw14_NetworkChannels.p48 (d := 38) rfl rfl (any_of HT_.out (by kernel_rfl)) (fun _ _ _ h => h) (v := undef) (Or.inr ⟨by rfl, rfl⟩) (a' := ?_) ?_ ?_; rotate_left; (simp only [Act.put, List.setIfInBounds_toArray, List.set_cons_zero, List.set_cons_succ, i64_w, i32_w, Nat.reduceAdd]; rfl)) | (refine rollbacknetlaw14_NetworkChannels.p48 (d := 38) rfl rfl (any_of HT_.out (by kernel_rfl)) (fun _ _ _ h => h) (v := ?_) (Or.inl ⟨by rfl, ?_⟩) (a' := ?_) ?_ ?_; rotate_left; (intro w'; go_simp; with_reducible rfl); rotate_left; (simp only [Act.put, List.setIfInBounds_toArray, List.set_cons_zero, List.set_cons_succ, i64_w, i32_w, Nat.reduceAdd]; rfl)))
                     refine done_ (done_of HT_.out (by kernel_rfl)) ?_
                     try go_wp2
                     go_ret
                     exact ⟨by first | rfl | (simp [errW_none, errW_some] <;> rfl) | (simp [*, errW_none, errW_some] <;> rfl), by repeat (first | (with_reducible first | exact HB.out | apply wA | apply wN | apply wD) | exact HB.out)⟩
                   ·rw [if_neg c54] at H
                    exact absurd H (by simp)
                  ·rw [if_neg c53] at H
                   exact absurd H (by simp)
              ·rw [if_neg c22] at H
               exact absurd H (by simp)
             ·rw [if_neg c21] at H
              exact absurd H (by simp)
            ·rw [if_neg c20] at H
             have c20b0 : decide (x33_3 < (t187.length : Int)) = false := decide_eq_false c20
             clear c20
             have H' := aM H
             clear H
             go_wp2
             go_roundg k3
             case measure => have := HK1.out; have := HK2.out; have := HK3.out; omega
             case rel => exact ⟨(x4_3), (wrap64 (x6_2 + 1)), (by first | rfl | (simp; done) | (simp [*]; done)), H', ⟨by have := HK1.out; have := HK2.out; have := HK3.out; omega⟩, ⟨by (with_reducible repeat (first | apply Kd.S_alloc | apply Kd.S_drewN | apply Kd.S_drew)); exact Kd.S_mono HO_3.out (fun _ hk => hk.1)⟩, ⟨by (with_reducible repeat (first | apply Kd.R_alloc | apply Kd.R_drewN | apply Kd.R_drew)); exact Kd.R_mono HO_4.out (fun _ hk => trivial)⟩, ⟨by repeat (first | (with_reducible first | exact HB.out | apply wA | apply wN | apply wD) | exact HB.out)⟩⟩
         ·rw [if_neg c15] at H
          have c15b0 : decide (x6_2 < 3) = false := decide_eq_false c15
          clear c15
          have H' := aM H
          clear H
          go_wp2
          go_roundg k2
          case measure => have := HK1.out; have := HK2.out; omega
          case rel => exact ⟨(x4_2), (wrap64 (x5_1 + 1)), (by first | rfl | (simp; done) | (simp [*]; done)), H', ⟨by have := HK1.out; have := HK2.out; omega⟩, ⟨by (with_reducible repeat (first | apply Kd.S_alloc | apply Kd.S_drewN | apply Kd.S_drew)); exact HO_3.out⟩, ⟨by (with_reducible repeat (first | apply Kd.R_alloc | apply Kd.R_drewN | apply Kd.R_drew)); exact HO_4.out⟩, ⟨by repeat (first | (with_reducible first | exact HB.out | apply wA | apply wN | apply wD) | exact HB.out)⟩⟩
      ·rw [if_neg c14] at H
       have c14b0 : decide (x5_1 < 3) = false := decide_eq_false c14
       clear c14
       have H' := aM H
       clear H
       obtain ⟨Ao73, co73, eo73⟩ := Kd.R_slice HO_4.out
       subst eo73
       go_wp2
       go_loopg [95] k1 (fun kq v95 w' => ∃ (x95_2 : Int), v95 = .int .i64 x95_2 ∧ Aside0 (rollbacknetlaw14_NetworkChannels.l3 kq x4_1 (x4_1.length : Int) x95_2 = some r) ∧ Aside0 (kq ≤ k1) ∧ Aside0 (Kd.R (Kd.int .i64) 3 w' w.heap.size (fun _ => True) (.slice Ao73 x4_1.length co73) x4_1) ∧ Aside0 (Below w.heap.size w w'))
       case atStart => exact ⟨(0), (by first | rfl | (simp; done) | (simp [*]; done)), H', ⟨Nat.le_refl _⟩, ⟨by (with_reducible repeat (first | apply Kd.R_alloc | apply Kd.R_drewN | apply Kd.R_drew)); exact HO_4.out⟩, ⟨by repeat (first | (with_reducible first | exact HB.out | apply wA | apply wN | apply wD) | exact HB.out)⟩⟩
       case round =>
        clear H'
        try clear c1
        try clear p1
        try clear q1
        try clear hx1
        try clear c2
        try clear p2
        try clear c5
        try clear p6
        try clear c14
        try clear c14b0
        try clear c15
        try clear c15b0
        try clear c19
        try clear p19
        try clear q19
        try clear hx19
        try clear c20
        try clear c20b0
        try clear c21
        try clear c22
        try clear c53
        try clear c54
        try clear c55
        try clear c55b0
        try clear c55b1
        try clear p64
        try clear hx190_0
        try clear hx198_0
        try clear hx198_1
        try clear hx198_2
        try clear hx198_3
        try clear hx198_4
        try clear hx198_5
        try clear hx198_6
        try clear hx198_7
        try clear hx198_8
        try clear p190
        try clear p198
        try clear q190
        try clear q198
        obtain ⟨x95_2, rfl, HA, HK2, HO_93, HB⟩ := hrel
        cases gk with
        | zero => exact absurd HA.out (by simp [rollbacknetlaw14_NetworkChannels.l3])
        | succ k2 =>
         have H := HA.out
         clear HA
         simp only [rollbacknetlaw14_NetworkChannels.l3] at H
         by_cases c74 : x95_2 < (x4_1.length : Int)
         ·rw [if_pos c74] at H
          have c74b0 : decide (x95_2 < (x4_1.length : Int)) = true := decide_eq_true c74
          clear c74
          by_cases c75 : 0 ≤ x95_2
          ·rw [if_pos c75] at H
           have c75b0 : decide (0 ≤ x95_2) = true := decide_eq_true c75
           clear c75
           by_cases c76 : x95_2 < (x4_1.length : Int)
           ·rw [if_pos c76] at H
            have c76b0 : decide (x95_2 < (x4_1.length : Int)) = true := decide_eq_true c76
            clear c76
            by_cases c77 : (rd x4_1 x95_2) = 1
            ·rw [if_pos c77] at H
             have c77b0 : ((rd x4_1 x95_2) == 1) = true := beq_iff_eq.mpr c77
             have c77b1 : ((rd x4_1 x95_2) != 1) = false := bne_eq_false_iff_eq.mpr c77
             clear c77
             have H' := aM H
             clear H
             have p204 : 0 ≤ (x95_2 : Int) := of_decide_eq_true (by first | (with_reducible assumption) | assumption)
             have q204 : x95_2 < (x4_1.length : Int) := of_decide_eq_true (by first | (with_reducible assumption) | assumption)
             obtain ⟨ad204, e204, hx204_0⟩ := Kd.at_int (Kd.R_reads' HO_93.out).2.2 x95_2 p204 q204
             cases e204
             replace p204 := eq_true p204
             replace q204 := eq_true q204
             go_wp2
             go_roundg k2
             case measure => have := HK1.out; have := HK2.out; omega
             case rel => exact ⟨(wrap64 (x95_2 + 1)), (by first | rfl | (simp; done) | (simp [*]; done)), H', ⟨by have := HK1.out; have := HK2.out; omega⟩, ⟨by (with_reducible repeat (first | apply Kd.R_alloc | apply Kd.R_drewN | apply Kd.R_drew)); exact HO_93.out⟩, ⟨by repeat (first | (with_reducible first | exact HB.out | apply wA | apply wN | apply wD) | exact HB.out)⟩⟩
            ·rw [if_neg c77] at H
             have c77b0 : ((rd x4_1 x95_2) == 1) = false := beq_eq_false_iff_ne.mpr c77
             have c77b1 : ((rd x4_1 x95_2) != 1) = true := bne_iff_ne.mpr c77
             obtain rfl := Option.some.inj H
             have p204 : 0 ≤ (x95_2 : Int) := of_decide_eq_true (by first | (with_reducible assumption) | assumption)
             have q204 : x95_2 < (x4_1.length : Int) := of_decide_eq_true (by first | (with_reducible assumption) | assumption)
             obtain ⟨ad204, e204, hx204_0⟩ := Kd.at_int (Kd.R_reads' HO_93.out).2.2 x95_2 p204 q204
             cases e204
             replace p204 := eq_true p204
             replace q204 := eq_true q204
             go_wp2
             go_ret
             exact ⟨by first | rfl | (simp [errW_none, errW_some] <;> rfl) | (simp [*, errW_none, errW_some] <;> rfl), by repeat (first | (with_reducible first | exact HB.out | apply wA | apply wN | apply wD) | exact HB.out)⟩
           ·rw [if_neg c76] at H
            exact absurd H (by simp)
          ·rw [if_neg c75] at H
           exact absurd H (by simp)
         ·rw [if_neg c74] at H
          have c74b0 : decide (x95_2 < (x4_1.length : Int)) = false := decide_eq_false c74
          clear c74
          obtain rfl := Option.some.inj H
          go_wp2
          go_ret
          exact ⟨by first | rfl | (simp [errW_none, errW_some] <;> rfl) | (simp [*, errW_none, errW_some] <;> rfl), by repeat (first | (with_reducible first | exact HB.out | apply wA | apply wN | apply wD) | exact HB.out)⟩
   ·rw [if_neg c10] at H
    exact absurd H (by simp)
  ·rw [if_neg c9] at H
   exact absurd H (by simp)
 ·replace c3 := Bool.eq_false_iff.mpr c3
  subst c3
  have H1 : (some false) = some r := by rw [if_neg (show ¬ (false = true) by decide)] at H; exact H
  clear H
  have H := H1
  clear H1
  have HC78 := aM H
  clear H
  go_enter Try.func4, Try.ntmps4
  go_upto_region 2 with (first | ((with_reducible refine gate_callee (f := 8) rfl ?_); refine goesL_ (some 12) rfl rfl Try.func8 (by kernel_rfl) rfl #[] rfl (by (try simp only [List.map_toArray, List.map_cons, List.map_nil]); first | done | rfl | (simp only [List.length_drop, List.length_take]; rfl)) ?_; (with_reducible refine (rollbacknetlaw14_awake.calls  false _ A2.out).mono ?_); rintro e w79 ⟨rfl, hb⟩; refine ⟨_, rfl, ?_⟩; have n0_ := aM (below_step (by repeat (first | (with_reducible first | exact HB.out | apply wA | apply wN | apply wD) | exact HB.out)) hb); clear HB; have HB := n0_; clear n0_; (try clear hb); (try clear hb2); (try clear hk); (try clear hi); (try clear hge_)))
  (try simp only [Act.put, List.setIfInBounds_toArray, List.set_cons_zero, List.set_cons_succ])
  have H := HC78.out
  clear HC78
  obtain rfl := Option.some.inj H
  go_wp2
  go_ret
  exact ⟨by first | rfl | (simp [errW_none, errW_some] <;> rfl) | (simp [*, errW_none, errW_some] <;> rfl), by repeat (first | (with_reducible first | exact HB.out | apply wA | apply wN | apply wD) | exact HB.out)⟩

end Go.Proofs.Ytiflebfnhjlfdaa.PNk
