-- Laid by wip/tools/xprint.py, a program of this session over the kit's print: functions as Lean functions, each with its contract.
import Derived.Test.YtkjnledamamniaaPImx0
import Derived.Test.YtkjnledamamniaaPImx1
import Derived.Test.YtkjnledamamniaaPImx4
import Derived.Test.YtkjnledamamniaaPImx10
import Derived.Test.YtkjnledamamniaaPImx16
import Derived.Test.YtkjnledamamniaaPImx17
namespace Go.Proofs.Ytkjnledamamniaa.PIm
open Go.RowKit Go.Proofs.YtkjnledamamniaaW.PrintWords Go.Proofs.YtkjnledamamniaaW.PrintLast Go.Proofs.YtkjnledamamniaaW.PrintMore
attribute [local go_sem] max2_int min2_int max_two min_two max_three min_three max_four min_four   -- for this text's walks alone
set_option linter.unusedVariables false
set_option linter.unusedSimpArgs false

/-! ### rollbacknetlaw07_ImageApplies: function 5 -/
mutual
def rollbacknetlaw07_ImageApplies.j0 : Nat → List Int → List (S28) → Bool → Option (Bool)
 | 0, _, _, _ => none
 | k + 1, x0, x1, x22 => if x22 = true then (some true) else (if ([] : List (S28)).length + x1.length < 4398046511104 then ((some (([] : List (S28)) ++ x1 : List (S28))).bind fun y252 => (rollbacknetlaw07_ImageApplies.l0 k x0 x1 y252 (y252.length : Int) 0)) else (none))
def rollbacknetlaw07_ImageApplies.l0 : Nat → List Int → List (S28) → List (S28) → Int → Int → Option (Bool)
 | 0, _, _, _, _, _ => none
 | k + 1, x0, x1, x5, x26, x27 => if x27 < x26 then (if (Int.tmod x27 2) = 0 then ((image_Count.f x0).bind fun t255 => (rollbacknetlaw07_ImageApplies.j2 k x0 x1 x5 x27 x26 x27 (decide (t255 > 0)))) else (rollbacknetlaw07_ImageApplies.j2 k x0 x1 x5 x27 x26 x27 false)) else ((some (([x1, x5] : List (List (S28))) : List (List (S28)))).bind fun y260 => (rollbacknetlaw07_ImageApplies.l1 k x0 y260 (y260.length : Int) 0))
def rollbacknetlaw07_ImageApplies.j2 : Nat → List Int → List (S28) → List (S28) → Int → Int → Int → Bool → Option (Bool)
 | 0, _, _, _, _, _, _, _ => none
 | k + 1, x0, x1, x5, x6, x26, x27, x37 => if x37 = true then (if 0 ≤ x6 then (if x6 < (x5.length : Int) then ((image_Count.f x0).bind fun t257 => ((rollbacknetmake_Mod.f ((rd_T28 x5 x6).f0) t257).bind fun t258 => (rollbacknetlaw07_ImageApplies.l0 k x0 x1 (x5.set (x6 : Int).toNat (⟨t258, (rd_T28 x5 x6).f1⟩ : S28)) x26 (wrap64 (x27 + 1))))) else (none)) else (none)) else (rollbacknetlaw07_ImageApplies.l0 k x0 x1 x5 x26 (wrap64 (x27 + 1)))
def rollbacknetlaw07_ImageApplies.l1 : Nat → List Int → List (List (S28)) → Int → Int → Option (Bool)
 | 0, _, _, _, _ => none
 | k + 1, x0, x53, x54, x55 => if x55 < x54 then (if 0 ≤ x55 then (if x55 < (x53.length : Int) then ((image_Apply.f x0 (rd_L4 x53 x55)).bind fun bt264 => ((rollbacknetref07_Apply.f k x0 (rd_L4 x53 x55)).bind fun bt268 => (if bt264.2 = bt268.2 then ((rollbacknetref03_SameInts.f k bt264.1 bt268.1).bind fun t272 => (if t272 = true then (rollbacknetlaw07_ImageApplies.l1 k x0 x53 x54 (wrap64 (x55 + 1))) else (some false))) else (some false)))) else (none)) else (none)) else (some true)
end
def rollbacknetlaw07_ImageApplies.f (k : Nat) (l0 : List Int) (l1 : List (S28)) : Option (Bool) := (rollbacknetlaw07_awake.f k).bind fun t251 => (if t251 = true then (if (l0.length : Int) > 200 then (rollbacknetlaw07_ImageApplies.j0 k l0 l1 true) else (rollbacknetlaw07_ImageApplies.j0 k l0 l1 (decide ((l1.length : Int) > 50)))) else (some false))
theorem rollbacknetlaw07_ImageApplies.mono_l : ∀ k, (∀ y0 y1 y2, LeO (rollbacknetlaw07_ImageApplies.j0 k y0 y1 y2) (rollbacknetlaw07_ImageApplies.j0 (k + 1) y0 y1 y2)) ∧ (∀ y0 y1 y2 y3 y4, LeO (rollbacknetlaw07_ImageApplies.l0 k y0 y1 y2 y3 y4) (rollbacknetlaw07_ImageApplies.l0 (k + 1) y0 y1 y2 y3 y4)) ∧ (∀ y0 y1 y2 y3 y4 y5 y6, LeO (rollbacknetlaw07_ImageApplies.j2 k y0 y1 y2 y3 y4 y5 y6) (rollbacknetlaw07_ImageApplies.j2 (k + 1) y0 y1 y2 y3 y4 y5 y6)) ∧ (∀ y0 y1 y2 y3, LeO (rollbacknetlaw07_ImageApplies.l1 k y0 y1 y2 y3) (rollbacknetlaw07_ImageApplies.l1 (k + 1) y0 y1 y2 y3))
 | 0 => ⟨fun _ _ _ r h => by simp [rollbacknetlaw07_ImageApplies.j0] at h, fun _ _ _ _ _ r h => by simp [rollbacknetlaw07_ImageApplies.l0] at h, fun _ _ _ _ _ _ _ r h => by simp [rollbacknetlaw07_ImageApplies.j2] at h, fun _ _ _ _ r h => by simp [rollbacknetlaw07_ImageApplies.l1] at h⟩
 | k + 1 => by
  obtain ⟨ih0, ih1, ih2, ih3⟩ := rollbacknetlaw07_ImageApplies.mono_l k
  refine ⟨?_, ?_, ?_, ?_⟩
  ·intro y0 y1 y2
   unfold rollbacknetlaw07_ImageApplies.j0
   repeat' first
   | (with_reducible exact ih0 _ _ _)
   | (with_reducible exact ih1 _ _ _ _ _)
   | (with_reducible exact ih2 _ _ _ _ _ _ _)
   | (with_reducible exact ih3 _ _ _ _)
   | (with_reducible exact rollbacknetlaw07_awake.mono _)
   | (with_reducible exact rollbacknetref03_SameInts.mono _ _ _)
   | (with_reducible exact rollbacknetref07_Apply.mono _ _ _)
   | (with_reducible exact LeO.refl _)
   | (with_reducible exact LeO.none _)
   | (with_reducible refine LeO.ite ?_ ?_)
   | (with_reducible refine LeO.bind ?_ (fun _ => ?_))
   | exact ih0 _ _ _
   | exact ih1 _ _ _ _ _
   | exact ih2 _ _ _ _ _ _ _
   | exact ih3 _ _ _ _
   | exact rollbacknetlaw07_awake.mono _
   | exact rollbacknetref03_SameInts.mono _ _ _
   | exact rollbacknetref07_Apply.mono _ _ _
   | exact LeO.none _
   | refine LeO.ite ?_ ?_
   | refine LeO.bind ?_ (fun _ => ?_)
  ·intro y0 y1 y2 y3 y4
   unfold rollbacknetlaw07_ImageApplies.l0
   repeat' first
   | (with_reducible exact ih0 _ _ _)
   | (with_reducible exact ih1 _ _ _ _ _)
   | (with_reducible exact ih2 _ _ _ _ _ _ _)
   | (with_reducible exact ih3 _ _ _ _)
   | (with_reducible exact rollbacknetlaw07_awake.mono _)
   | (with_reducible exact rollbacknetref03_SameInts.mono _ _ _)
   | (with_reducible exact rollbacknetref07_Apply.mono _ _ _)
   | (with_reducible exact LeO.refl _)
   | (with_reducible exact LeO.none _)
   | (with_reducible refine LeO.ite ?_ ?_)
   | (with_reducible refine LeO.bind ?_ (fun _ => ?_))
   | exact ih0 _ _ _
   | exact ih1 _ _ _ _ _
   | exact ih2 _ _ _ _ _ _ _
   | exact ih3 _ _ _ _
   | exact rollbacknetlaw07_awake.mono _
   | exact rollbacknetref03_SameInts.mono _ _ _
   | exact rollbacknetref07_Apply.mono _ _ _
   | exact LeO.none _
   | refine LeO.ite ?_ ?_
   | refine LeO.bind ?_ (fun _ => ?_)
  ·intro y0 y1 y2 y3 y4 y5 y6
   unfold rollbacknetlaw07_ImageApplies.j2
   repeat' first
   | (with_reducible exact ih0 _ _ _)
   | (with_reducible exact ih1 _ _ _ _ _)
   | (with_reducible exact ih2 _ _ _ _ _ _ _)
   | (with_reducible exact ih3 _ _ _ _)
   | (with_reducible exact rollbacknetlaw07_awake.mono _)
   | (with_reducible exact rollbacknetref03_SameInts.mono _ _ _)
   | (with_reducible exact rollbacknetref07_Apply.mono _ _ _)
   | (with_reducible exact LeO.refl _)
   | (with_reducible exact LeO.none _)
   | (with_reducible refine LeO.ite ?_ ?_)
   | (with_reducible refine LeO.bind ?_ (fun _ => ?_))
   | exact ih0 _ _ _
   | exact ih1 _ _ _ _ _
   | exact ih2 _ _ _ _ _ _ _
   | exact ih3 _ _ _ _
   | exact rollbacknetlaw07_awake.mono _
   | exact rollbacknetref03_SameInts.mono _ _ _
   | exact rollbacknetref07_Apply.mono _ _ _
   | exact LeO.none _
   | refine LeO.ite ?_ ?_
   | refine LeO.bind ?_ (fun _ => ?_)
  ·intro y0 y1 y2 y3
   unfold rollbacknetlaw07_ImageApplies.l1
   repeat' first
   | (with_reducible exact ih0 _ _ _)
   | (with_reducible exact ih1 _ _ _ _ _)
   | (with_reducible exact ih2 _ _ _ _ _ _ _)
   | (with_reducible exact ih3 _ _ _ _)
   | (with_reducible exact rollbacknetlaw07_awake.mono _)
   | (with_reducible exact rollbacknetref03_SameInts.mono _ _ _)
   | (with_reducible exact rollbacknetref07_Apply.mono _ _ _)
   | (with_reducible exact LeO.refl _)
   | (with_reducible exact LeO.none _)
   | (with_reducible refine LeO.ite ?_ ?_)
   | (with_reducible refine LeO.bind ?_ (fun _ => ?_))
   | exact ih0 _ _ _
   | exact ih1 _ _ _ _ _
   | exact ih2 _ _ _ _ _ _ _
   | exact ih3 _ _ _ _
   | exact rollbacknetlaw07_awake.mono _
   | exact rollbacknetref03_SameInts.mono _ _ _
   | exact rollbacknetref07_Apply.mono _ _ _
   | exact LeO.none _
   | refine LeO.ite ?_ ?_
   | refine LeO.bind ?_ (fun _ => ?_)
theorem rollbacknetlaw07_ImageApplies.mono : ∀ a0 a1 k, LeO (rollbacknetlaw07_ImageApplies.f k a0 a1) (rollbacknetlaw07_ImageApplies.f (k + 1) a0 a1) := by
 intro a0 a1 k
 obtain ⟨ih0, ih1, ih2, ih3⟩ := rollbacknetlaw07_ImageApplies.mono_l k
 unfold rollbacknetlaw07_ImageApplies.f
 repeat' first
   | (with_reducible exact ih0 _ _ _)
   | (with_reducible exact ih1 _ _ _ _ _)
   | (with_reducible exact ih2 _ _ _ _ _ _ _)
   | (with_reducible exact ih3 _ _ _ _)
   | (with_reducible exact rollbacknetlaw07_awake.mono _)
   | (with_reducible exact rollbacknetref03_SameInts.mono _ _ _)
   | (with_reducible exact rollbacknetref07_Apply.mono _ _ _)
   | (with_reducible exact LeO.refl _)
   | (with_reducible exact LeO.none _)
   | (with_reducible refine LeO.ite ?_ ?_)
   | (with_reducible refine LeO.bind ?_ (fun _ => ?_))
   | exact ih0 _ _ _
   | exact ih1 _ _ _ _ _
   | exact ih2 _ _ _ _ _ _ _
   | exact ih3 _ _ _ _
   | exact rollbacknetlaw07_awake.mono _
   | exact rollbacknetref03_SameInts.mono _ _ _
   | exact rollbacknetref07_Apply.mono _ _ _
   | exact LeO.none _
   | refine LeO.ite ?_ ?_
   | refine LeO.bind ?_ (fun _ => ?_)
def rollbacknetlaw07_ImageApplies.T10 : Bool × List (List Nat × List Nat) := (true, [([], []), ([], []), ([], []), ([], []), ([2, 3], [2, 3]), ([4], [4]), ([5], [5]), ([], []), ([7], [7]), ([6, 8, 8], [6, 8]), ([0, 1, 0, 1, 2, 3, 4, 5, 6, 7, 8, 9], [0, 1]), ([10, 0, 1, 2, 3, 4, 5, 6, 7, 8, 9], [10]), ([11, 9, 9, 0, 1, 2, 3, 4, 5, 6, 7, 8, 9], [9, 11])])
def rollbacknetlaw07_ImageApplies.B10 : List Nat := [0, 0, 0, 0, 12, 28, 60, 0, 128, 508, 1023, 2047, 4095]
theorem rollbacknetlaw07_ImageApplies.tab10 : rtab .any (opsOf Try.f5 10) = rollbacknetlaw07_ImageApplies.T10 := by kernel_rfl
theorem rollbacknetlaw07_ImageApplies.bits10 : waitsOk rollbacknetlaw07_ImageApplies.T10.2 rollbacknetlaw07_ImageApplies.B10 = true := by kernel_rfl
set_option maxHeartbeats 8000000 in
set_option maxRecDepth 100000 in
theorem rollbacknetlaw07_ImageApplies.calls (k : Nat) (A0 : Option Addr) (c0 : Nat) (l0 : List Int) (P1_ : Nat → Prop) (A1 : Option Addr) (c1 : Nat) (l1 : List (S28)) (r : Bool) (w : World) (hr0 : Kd.C (Kd.int .i64) w A0 l0.length l0) (hc0 : l0.length ≤ c0) (hs1 : Kd.V k28 28 w w.heap.size (fun k_ => P1_ k_) (.slice A1 l1.length c1) l1) (h : rollbacknetlaw07_ImageApplies.f k l0 l1 = some r) :
  Calls Try.prog 5 #[.slice A0 l0.length c0, .slice A1 l1.length c1] w fun e w' => e = .returned (.bool r) ∧ Below w.heap.size w w' := by
 have HR0 := aM hr0
 have HC0 := aM hc0
 clear hr0 hc0
 have HO1 := aM (show Kd.V k28 28 w w.heap.size (fun k_ => (P1_ k_ ∨ w.heap.size ≤ k_)) (.slice A1 l1.length c1) l1 from Kd.V_mono hs1 (fun k_ hk => .inl hk))
 have HB := aM (Below.refl w.heap.size w)
 have H : ((rollbacknetlaw07_awake.f k).bind fun t251 => (if t251 = true then (if (l0.length : Int) > 200 then (rollbacknetlaw07_ImageApplies.j0 k l0 l1 true) else (rollbacknetlaw07_ImageApplies.j0 k l0 l1 (decide ((l1.length : Int) > 50)))) else (some false))) = some r := h
 clear h
 replace H := Option.bind_eq_some_iff.mp H
 obtain ⟨t251, A30, H⟩ := H
 replace H : (if t251 = true then (if (l0.length : Int) > 200 then (rollbacknetlaw07_ImageApplies.j0 k l0 l1 true) else (rollbacknetlaw07_ImageApplies.j0 k l0 l1 (decide ((l1.length : Int) > 50)))) else (some false)) = some r := H
 have A3 := aM A30
 clear A30
 by_cases c4 : t251 = true
 ·subst c4
  have H1 : (if (l0.length : Int) > 200 then (rollbacknetlaw07_ImageApplies.j0 k l0 l1 true) else (rollbacknetlaw07_ImageApplies.j0 k l0 l1 (decide ((l1.length : Int) > 50)))) = some r := by rw [if_pos rfl] at H; exact H
  clear H
  have H := H1
  clear H1
  have HC5 := aM H
  clear H
  go_enter Try.func5, Try.ntmps5
  go_upto_region 3 with (first | ((with_reducible refine gate_callee (f := 9) rfl ?_); refine goesL_ (some 13) rfl rfl Try.func9 (by kernel_rfl) rfl #[] rfl (by (try simp only [List.map_toArray, List.map_cons, List.map_nil]); first | done | rfl | (simp only [List.length_drop, List.length_take]; rfl)) ?_; (with_reducible refine (rollbacknetlaw07_awake.calls k  true _ A3.out).mono ?_); rintro e w6 ⟨rfl, hb⟩; refine ⟨_, rfl, ?_⟩; have n0_ := aM (Kd.V_below (by (with_reducible repeat (first | apply Kd.V_alloc | apply Kd.V_drewN | apply Kd.V_drew)); exact HO1.out) hb); have n1_ := aM (below_step (by repeat (first | (with_reducible first | exact HB.out | apply wA | apply wN | apply wD) | exact HB.out)) hb); clear HO1; clear HB; have HO1 := n0_; have HB := n1_; clear n0_ n1_; (try clear hb); (try clear hb2); (try clear hk); (try clear hi); (try clear hge_)))
  (try simp only [Act.put, List.setIfInBounds_toArray, List.set_cons_zero, List.set_cons_succ])
  go_cut [22] (fun v22 wc => ∃ (kq : Nat) (x22_4 : Bool), v22 = .bool x22_4 ∧ Aside0 (rollbacknetlaw07_ImageApplies.j0 kq l0 l1 x22_4 = some r) ∧ Aside0 (kq ≤ k) ∧ Aside0 (Kd.V k28 28 wc w.heap.size (fun k_ => (P1_ k_ ∨ w.heap.size ≤ k_)) (.slice A1 l1.length c1) l1) ∧ Aside0 (Below w.heap.size w wc))
  case first =>
   have H := HC5.out
   clear HC5
   by_cases c7 : (l0.length : Int) > 200
   ·rw [if_pos c7] at H
    have c7b0 : decide (200 < (l0.length : Int)) = true := decide_eq_true c7
    have c7b1 : decide (200 < l0.length) = true := decide_eq_true (by omega)
    clear c7
    (first | rw [c7b0] | (simp only [i64_w, i32_w]; rw [c7b0]) | skip)
    have H' := aM H
    clear H
    go_wp2
    go_meet
    case rel => exact ⟨_, (true), (by first | rfl | (simp; done) | (simp [*]; done)), H', ⟨by first | omega | exact Nat.le_refl _⟩, ⟨by (with_reducible repeat (first | apply Kd.V_alloc | apply Kd.V_drewN | apply Kd.V_drew)); exact HO1.out⟩, ⟨by repeat (first | (with_reducible first | exact HB.out | apply wA | apply wN | apply wD) | exact HB.out)⟩⟩
   ·rw [if_neg c7] at H
    have c7b0 : decide (200 < (l0.length : Int)) = false := decide_eq_false c7
    have c7b1 : decide (200 < l0.length) = false := decide_eq_false (by omega)
    clear c7
    (first | rw [c7b0] | (simp only [i64_w, i32_w]; rw [c7b0]) | skip)
    have H' := aM H
    clear H
    go_wp2
    go_meet
    case rel => exact ⟨_, (decide ((l1.length : Int) > 50)), (by first | rfl | (simp; done) | (simp [*]; done)), H', ⟨by first | omega | exact Nat.le_refl _⟩, ⟨by (with_reducible repeat (first | apply Kd.V_alloc | apply Kd.V_drewN | apply Kd.V_drew)); exact HO1.out⟩, ⟨by repeat (first | (with_reducible first | exact HB.out | apply wA | apply wN | apply wD) | exact HB.out)⟩⟩
  case rest =>
   clear HC5
   try clear c1
   try clear p2
   try clear c4
   try clear c5
   try clear c7
   try clear c7b0
   try clear c7b1
   obtain ⟨kq, x22_4, rfl, HA, HJ4, HO_1, HB⟩ := hcut
   cases kq with
   | zero => exact absurd HA.out (by simp [rollbacknetlaw07_ImageApplies.j0])
   | succ kj4 =>
    have H := HA.out
    clear HA
    simp only [rollbacknetlaw07_ImageApplies.j0] at H
    by_cases c8 : x22_4 = true
    ·subst c8
     have H1 : (some true) = some r := by rw [if_pos rfl] at H; exact H
     clear H
     have H := H1
     clear H1
     obtain rfl := Option.some.inj H
     go_wp2
     go_ret
     exact ⟨by first | rfl | (simp [errW_none, errW_some] <;> rfl) | (simp [*, errW_none, errW_some] <;> rfl), by repeat (first | (with_reducible first | exact HB.out | apply wA | apply wN | apply wD) | exact HB.out)⟩
    ·replace c8 := Bool.eq_false_iff.mpr c8
     subst c8
     have H1 : (if ([] : List (S28)).length + l1.length < 4398046511104 then ((some (([] : List (S28)) ++ l1 : List (S28))).bind fun y252 => (rollbacknetlaw07_ImageApplies.l0 kj4 l0 l1 y252 (y252.length : Int) 0)) else (none)) = some r := by rw [if_neg (show ¬ (false = true) by decide)] at H; exact H
     clear H
     have H := H1
     clear H1
     by_cases c9 : ([] : List (S28)).length + l1.length < 4398046511104
     ·rw [if_pos c9] at H
      have LMc9 := aM c9
      clear c9
      obtain ⟨y252, hy252⟩ : ∃ y_ : List (S28), y_ = (([] : List (S28)) ++ l1) := ⟨_, rfl⟩
      replace H : (rollbacknetlaw07_ImageApplies.l0 kj4 l0 l1 y252 (y252.length : Int) 0) = some r := by first | (rw [hy252]; with_reducible exact H) | (have H2_ := (Option.bind_some _ _).symm.trans H; rw [hy252]; with_reducible exact H2_) | (have H2_ := (Option.bind_some _ _).symm.trans H; with_reducible exact H2_) | with_reducible exact H | (rw [hy252]; exact H) | exact H
      have Ny252 := aM hy252
      clear hy252
      have H' := aM H
      clear H
      go_wp2_with (first | ((with_reducible refine gate_builtin (b := .append) (xs := #[(.const (.slice none 0 0)), .tmp 23]) rfl ?_); (try (refine gate_guard (by rfl) ?_; dsimp only)); at_builtin; refine Kd.N_append_rows k28 (w0 := w) w.heap.size rfl (.const (.slice none 0 0)) (.tmp 23) 25 28 (.agg #[(.int .i64 0), (.slice none 0 0)]) 32 rfl Try.underlying25 info28 rfl (by decide) (by omega) (.slice none 0 0) ([] : List (S28)) l1 _ _ _ (fun k_ => (P1_ k_ ∨ w.heap.size ≤ k_)) (fun k_ => ((fun k_ => (P1_ k_ ∨ w.heap.size ≤ k_))) k_ ∧ some k_ ≠ (.slice none 0 0 : Value).ownBlock) rfl rfl ?aO ?aR (fun _ hk => hk) ?aF ?aB ?aS ?aL ?_; (case aR => exact (by skip; exact Kd.V_F (Kd.V_mono (ok' := (fun k_ => ((fun k_ => (P1_ k_ ∨ w.heap.size ≤ k_))) k_ ∧ some k_ ≠ (.slice none 0 0 : Value).ownBlock)) (HO_1.out) (fun k_ hk => ⟨hk, (by simp [Value.ownBlock])⟩)))); (case aB => exact (by repeat (first | (with_reducible first | exact HB.out | apply wA | apply wN | apply wD) | exact HB.out))); (case aF => exact (fun k_ hk => (.inr (Nat.le_trans (below_size (by repeat (first | (with_reducible first | exact HB.out | apply wA | apply wN | apply wD) | exact HB.out))) hk)))); (case aO => exact ((Kd.N_nil _ _ _ _ (fun k_ => (P1_ k_ ∨ w.heap.size ≤ k_))))); (case aS => exact (below_size (by repeat (first | (with_reducible first | exact HB.out | apply wA | apply wN | apply wD) | exact HB.out)))); (case aL => have := LMc9.out; omega); intro v253 w10 ho hb hg hat; rw [← Ny252.out] at ho; have n0_ := aM (Kd.V_afterv (Kd.V_apart_nil (by (with_reducible repeat (first | apply Kd.V_alloc | apply Kd.V_drewN | apply Kd.V_drew)); exact HO_1.out)) hg hat); have n1_ := aM (hb); have n2_ := aM (ho); clear HO_1; clear HB; have HO_1 := n0_; have HB := n1_; have HO254 := n2_; clear n0_ n1_ n2_; clear ho hb hg hat; obtain ⟨Ao11, co11, eo11⟩ := Kd.N_slice HO254.out; subst eo11))
      go_loopg [27] kj4 (fun kq v27 w' => ∃ (x5_2 : List (S28)) (x27_2 : Int), v27 = .int .i64 x27_2 ∧ Aside0 (rollbacknetlaw07_ImageApplies.l0 kq l0 l1 x5_2 (y252.length : Int) x27_2 = some r) ∧ Aside0 (kq ≤ kj4) ∧ Aside0 (Kd.V k28 28 w' w.heap.size (fun k_ => (P1_ k_ ∨ w.heap.size ≤ k_) ∧ some k_ ≠ ((.slice Ao11 y252.length co11) : Value).ownBlock) (.slice A1 l1.length c1) l1) ∧ Aside0 (Kd.N k28 28 w' w.heap.size (fun k_ => (P1_ k_ ∨ w.heap.size ≤ k_)) (.slice Ao11 y252.length co11) x5_2) ∧ Aside0 (Below w.heap.size w w'))
      case atStart => exact ⟨(y252), (0), (by first | rfl | (simp; done) | (simp [*]; done)), H', ⟨Nat.le_refl _⟩, ⟨by (with_reducible repeat (first | apply Kd.V_alloc | apply Kd.V_drewN | apply Kd.V_drew)); exact HO_1.out⟩, ⟨by (with_reducible repeat (first | apply Kd.N_alloc | apply Kd.N_drewN | apply Kd.N_drew)); exact HO254.out⟩, ⟨by repeat (first | (with_reducible first | exact HB.out | apply wA | apply wN | apply wD) | exact HB.out)⟩⟩
      case round =>
       clear H'
       try clear c1
       try clear p2
       try clear c4
       try clear c5
       try clear c7
       try clear c7b0
       try clear c7b1
       try clear c8
       try clear c9
       try clear p2
       obtain ⟨x5_2, x27_2, rfl, HA, HK2, HO_1, HO_5, HB⟩ := hrel
       have hl5_2 := (Kd.N_reads' HO_5.out).1
       rw [hl5_2] at HO_5
       (try simp only [hl5_2])
       (try simp only [hl5_2] at HO_1)
       cases gk with
       | zero => exact absurd HA.out (by simp [rollbacknetlaw07_ImageApplies.l0])
       | succ k2 =>
        have H := HA.out
        clear HA
        simp only [rollbacknetlaw07_ImageApplies.l0] at H
        by_cases c12 : x27_2 < (y252.length : Int)
        ·rw [if_pos c12] at H
         have c12b0 : decide (x27_2 < (y252.length : Int)) = true := decide_eq_true c12
         (try simp only [hl5_2] at c12b0)
         clear c12
         have HC13 := aM H
         clear H
         go_upto_region 9 with (fail)
         go_cut [37] (fun v37 wc => ∃ (kq : Nat) (x37_12 : Bool), v37 = .bool x37_12 ∧ Aside0 (rollbacknetlaw07_ImageApplies.j2 kq l0 l1 x5_2 x27_2 (y252.length : Int) x27_2 x37_12 = some r) ∧ Aside0 (kq ≤ k2) ∧ Aside0 (Kd.V k28 28 wc w.heap.size (fun k_ => (P1_ k_ ∨ w.heap.size ≤ k_) ∧ some k_ ≠ ((.slice Ao11 x5_2.length co11) : Value).ownBlock) (.slice A1 l1.length c1) l1) ∧ Aside0 (Kd.N k28 28 wc w.heap.size (fun k_ => (P1_ k_ ∨ w.heap.size ≤ k_)) (.slice Ao11 x5_2.length co11) x5_2) ∧ Aside0 (Below w.heap.size w wc))
         case first =>
          have H := HC13.out
          clear HC13
          by_cases c14 : (Int.tmod x27_2 2) = 0
          ·rw [if_pos c14] at H
           have c14b0 : ((Int.tmod x27_2 2) == 0) = true := beq_iff_eq.mpr c14
           (try simp only [hl5_2] at c14b0)
           have c14b1 : ((Int.tmod x27_2 2) != 0) = false := bne_eq_false_iff_eq.mpr c14
           (try simp only [hl5_2] at c14b1)
           clear c14
           (first | rw [c14b0] | (simp only [i64_w, i32_w]; rw [c14b0]) | skip)
           replace H := Option.bind_eq_some_iff.mp H
           obtain ⟨t255, A150, H⟩ := H
           replace H : (rollbacknetlaw07_ImageApplies.j2 k2 l0 l1 x5_2 x27_2 (y252.length : Int) x27_2 (decide (t255 > 0))) = some r := H
           have A15 := aM A150
           clear A150
           have H' := aM H
           clear H
           go_wp2_with (first | (go_at_call 18; (with_reducible refine (image_Count.calls _ _ l0 t255 _ ?side1 ?side2 A15.out).mono ?_); (case side1 => repeat (first | exact (Kd.C_below HR0.out HB.out) | (with_reducible refine Kd.C_alloc ?_ _) | (with_reducible refine Kd.C_drewN ?_ _) | (with_reducible refine Kd.C_drew ?_))); (case side2 => exact HC0.out); rintro e w' ⟨rfl, ⟨nd, rfl⟩⟩))
           go_meet
           case rel => exact ⟨_, (decide (t255 > 0)), (by first | rfl | (simp; done) | (simp [*]; done)), H', ⟨by have := HJ4.out; have := HK2.out; first | omega | exact Nat.le_refl _⟩, ⟨by (try simp only [hl5_2]); (with_reducible repeat (first | apply Kd.V_alloc | apply Kd.V_drewN | apply Kd.V_drew)); exact HO_1.out⟩, ⟨by (try simp only [hl5_2]); (with_reducible repeat (first | apply Kd.N_alloc | apply Kd.N_drewN | apply Kd.N_drew)); exact HO_5.out⟩, ⟨by repeat (first | (with_reducible first | exact HB.out | apply wA | apply wN | apply wD) | exact HB.out)⟩⟩
          ·rw [if_neg c14] at H
           have c14b0 : ((Int.tmod x27_2 2) == 0) = false := beq_eq_false_iff_ne.mpr c14
           (try simp only [hl5_2] at c14b0)
           have c14b1 : ((Int.tmod x27_2 2) != 0) = true := bne_iff_ne.mpr c14
           (try simp only [hl5_2] at c14b1)
           (first | rw [c14b0] | (simp only [i64_w, i32_w]; rw [c14b0]) | skip)
           have H' := aM H
           clear H
           go_wp2
           go_meet
           case rel => exact ⟨_, (false), (by first | rfl | (simp; done) | (simp [*]; done)), H', ⟨by have := HJ4.out; have := HK2.out; first | omega | exact Nat.le_refl _⟩, ⟨by (try simp only [hl5_2]); (with_reducible repeat (first | apply Kd.V_alloc | apply Kd.V_drewN | apply Kd.V_drew)); exact HO_1.out⟩, ⟨by (try simp only [hl5_2]); (with_reducible repeat (first | apply Kd.N_alloc | apply Kd.N_drewN | apply Kd.N_drew)); exact HO_5.out⟩, ⟨by repeat (first | (with_reducible first | exact HB.out | apply wA | apply wN | apply wD) | exact HB.out)⟩⟩
         case rest =>
          clear HC13
          try clear c1
          try clear p2
          try clear c4
          try clear c5
          try clear c7
          try clear c7b0
          try clear c7b1
          try clear c8
          try clear c9
          try clear c12
          try clear c12b0
          try clear c14
          try clear c14b0
          try clear c14b1
          try clear p2
          obtain ⟨kq, x37_12, rfl, HA, HJ12, HO_1, HO_5, HB⟩ := hcut
          cases kq with
          | zero => exact absurd HA.out (by simp [rollbacknetlaw07_ImageApplies.j2])
          | succ kj12 =>
           have H := HA.out
           clear HA
           simp only [rollbacknetlaw07_ImageApplies.j2] at H
           by_cases c16 : x37_12 = true
           ·subst c16
            have H1 : (if 0 ≤ x27_2 then (if x27_2 < (x5_2.length : Int) then ((image_Count.f l0).bind fun t257 => ((rollbacknetmake_Mod.f ((rd_T28 x5_2 x27_2).f0) t257).bind fun t258 => (rollbacknetlaw07_ImageApplies.l0 kj12 l0 l1 (x5_2.set (x27_2 : Int).toNat (⟨t258, (rd_T28 x5_2 x27_2).f1⟩ : S28)) (y252.length : Int) (wrap64 (x27_2 + 1))))) else (none)) else (none)) = some r := by rw [if_pos rfl] at H; exact H
            clear H
            have H := H1
            clear H1
            by_cases c17 : 0 ≤ x27_2
            ·rw [if_pos c17] at H
             have c17b0 : decide (0 ≤ x27_2) = true := decide_eq_true c17
             (try simp only [hl5_2] at c17b0)
             clear c17
             by_cases c18 : x27_2 < (x5_2.length : Int)
             ·rw [if_pos c18] at H
              have c18b0 : decide (x27_2 < (x5_2.length : Int)) = true := decide_eq_true c18
              (try simp only [hl5_2] at c18b0)
              clear c18
              replace H := Option.bind_eq_some_iff.mp H
              obtain ⟨t257, A190, H⟩ := H
              replace H : ((rollbacknetmake_Mod.f ((rd_T28 x5_2 x27_2).f0) t257).bind fun t258 => (rollbacknetlaw07_ImageApplies.l0 kj12 l0 l1 (x5_2.set (x27_2 : Int).toNat (⟨t258, (rd_T28 x5_2 x27_2).f1⟩ : S28)) (y252.length : Int) (wrap64 (x27_2 + 1)))) = some r := H
              have A19 := aM A190
              clear A190
              replace H := Option.bind_eq_some_iff.mp H
              obtain ⟨t258, A200, H⟩ := H
              replace H : (rollbacknetlaw07_ImageApplies.l0 kj12 l0 l1 (x5_2.set (x27_2 : Int).toNat (⟨t258, (rd_T28 x5_2 x27_2).f1⟩ : S28)) (y252.length : Int) (wrap64 (x27_2 + 1))) = some r := H
              have A20 := aM A200
              clear A200
              obtain ⟨y259, hy259⟩ : ∃ y_ : List (S28), y_ = (x5_2.set (x27_2 : Int).toNat (⟨t258, (rd_T28 x5_2 x27_2).f1⟩ : S28)) := ⟨_, rfl⟩
              replace H : (rollbacknetlaw07_ImageApplies.l0 kj12 l0 l1 y259 (y252.length : Int) (wrap64 (x27_2 + 1))) = some r := by first | (rw [hy259]; with_reducible exact H) | (have H2_ := (Option.bind_some _ _).symm.trans H; rw [hy259]; with_reducible exact H2_) | (have H2_ := (Option.bind_some _ _).symm.trans H; with_reducible exact H2_) | with_reducible exact H | (rw [hy259]; exact H) | exact H
              have Ny259 := aM hy259
              clear hy259
              have H' := aM H
              clear H
              try go_wp2
              have n0_ := aM (Kd.V_drew HO_1.out)
              have n1_ := aM (Kd.N_drew HO_5.out)
              have n2_ := aM (wD HB.out)
              clear HO_1
              clear HO_5
              clear HB
              have HO_1 := n0_
              have HO_5 := n1_
              have HB := n2_
              clear n0_ n1_ n2_
              have p256 : 0 ≤ (x27_2 : Int) := of_decide_eq_true (by first | (with_reducible assumption) | assumption)
              have q256 : x27_2 < (x5_2.length : Int) := of_decide_eq_true (by first | (with_reducible assumption) | assumption)
              obtain ⟨ad256, A256_1, c256_1, e256, hx256_0, hx256_1, hl256_1, hi256_1⟩ := at_T28 (Kd.N_reads' HO_5.out).2.2 x27_2 p256 q256
              cases e256
              obtain ⟨ce256, hce256, hMe256, hcc256⟩ := Kd.N_get HO_5.out z28 x27_2 p256 (by first | exact q256 | exact of_decide_eq_true (by first | (with_reducible assumption) | assumption) | (have e_ := (Kd.N_reads' HO_5.out).1; omega))
              obtain ⟨ua256_1, uc256_1, rfl, ul256_1, ge256_1⟩ := k28_openF hMe256
              have hv256_1 := hcc256 1 _ rfl
              rw [add_field _ _ 1 (by omega)] at hv256_1
              replace hv256_1 := Option.some.inj (hv256_1.symm.trans hx256_1)
              injection hv256_1 with hva_ hvn_ hvc_
              rw [hva_] at ge256_1
              rw [hvc_] at ul256_1
              have HL256_1 := aM (show Kd.V (Kd.int .i64) 3 _ w.heap.size _ _ ((rd_T28 x5_2 x27_2).f1) from Kd.V_mk ul256_1 ge256_1)
              clear hva_ hvn_ hvc_ ge256_1 ul256_1
              clear hcc256 hce256
              have HR256_1 := aM hi256_1
              have HC256_1 := aM hl256_1
              clear hi256_1 hl256_1
              replace p256 := eq_true p256
              replace q256 := eq_true q256
              refine start_ (n := 13) (S := fun w' => w'.cell? (ad256.add ((x27_2).toNat * 2)) = some (.int .i64 ((rd_T28 x5_2 x27_2).f0)) ∧ w'.cell? ⟨(ad256.add ((x27_2).toNat * 2)).block, (ad256.add ((x27_2).toNat * 2)).off + 1, none⟩ = some (.slice A256_1 ((rd_T28 x5_2 x27_2).f1).length c256_1)) (ds := [12]) #[false, false, false, false, false, false, false, false, false, false, false, false, false] (by kernel_rfl) rfl rfl ⟨hx256_0, hx256_1⟩ (fun hHeld => ?_); refine with_tabW rollbacknetlaw07_ImageApplies.tab10 rollbacknetlaw07_ImageApplies.bits10 (fun HT_ HW_ => ?_)
              generalize wc.drew = w22 at HO_1 HO_5 HB HL256_1 HR256_1 hx256_0 hx256_1 hHeld ⊢
              refine pure_ (i := 0) (N := some 38) (v := ?_) (a' := ?_) #[true, false, false, false, false, false, false, false, false, false, false, false, false] rfl rfl (any_of HT_.out (by kernel_rfl)) (fun _ _ _ h => h) (Or.inl ⟨by rfl, ?_⟩) ?_ ?_
              rotate_left
              ·intro w'
               go_simp
               with_reducible rfl
              rotate_left
              ·simp only [Act.put, List.setIfInBounds_toArray, List.set_cons_zero, List.set_cons_succ, i64_w, i32_w]
               rfl
              refine pure_ (i := 1) (N := some 39) (v := ?_) (a' := ?_) #[true, true, false, false, false, false, false, false, false, false, false, false, false] rfl rfl (any_of HT_.out (by kernel_rfl)) (fun _ _ _ h => h) (Or.inl ⟨by rfl, ?_⟩) ?_ ?_
              rotate_left
              ·intro w'
               go_simp
               with_reducible rfl
              rotate_left
              ·simp only [Act.put, List.setIfInBounds_toArray, List.set_cons_zero, List.set_cons_succ, i64_w, i32_w]
               rfl
              refine pure_ (i := 2) (N := some 40) (v := ?_) (a' := ?_) #[true, true, true, false, false, false, false, false, false, false, false, false, false] rfl rfl (any_of HT_.out (by kernel_rfl)) (fun _ _ _ h => h) (Or.inl ⟨by rfl, ?_⟩) ?_ ?_
              rotate_left
              ·intro w'
               go_simp
               with_reducible rfl
              rotate_left
              ·simp only [Act.put, List.setIfInBounds_toArray, List.set_cons_zero, List.set_cons_succ, i64_w, i32_w]
               rfl
              refine pure_ (i := 3) (N := some 41) (v := ?_) (a' := ?_) #[true, true, true, true, false, false, false, false, false, false, false, false, false] rfl rfl (any_of HT_.out (by kernel_rfl)) (fun _ _ _ h => h) (Or.inl ⟨by rfl, ?_⟩) ?_ ?_
              rotate_left
              ·intro w'
               go_simp
               with_reducible rfl
              rotate_left
              ·simp only [Act.put, List.setIfInBounds_toArray, List.set_cons_zero, List.set_cons_succ, i64_w, i32_w]
               rfl
              refine pure_ (i := 4) (N := some 42) (v := ?_) (a' := ?_) #[true, true, true, true, true, false, false, false, false, false, false, false, false] rfl rfl (any_of HT_.out (by kernel_rfl)) (fun _ _ _ h => h) (Or.inl ⟨by rfl, ?_⟩) ?_ ?_
              rotate_left
              ·intro w'
               go_simp
               with_reducible rfl
              rotate_left
              ·simp only [Act.put, List.setIfInBounds_toArray, List.set_cons_zero, List.set_cons_succ, i64_w, i32_w]
               rfl
              refine pure_ (i := 5) (N := some 43) (v := ?_) (a' := ?_) #[true, true, true, true, true, true, false, false, false, false, false, false, false] rfl rfl (any_of HT_.out (by kernel_rfl)) (fun _ _ _ h => h) (Or.inl ⟨by rfl, ?_⟩) ?_ ?_
              rotate_left
              ·intro w'
               go_simp
               with_reducible rfl
              rotate_left
              ·simp only [Act.put, List.setIfInBounds_toArray, List.set_cons_zero, List.set_cons_succ, i64_w, i32_w]
               rfl
              refine pure_ (i := 7) (N := some 45) (v := ?_) (a' := ?_) #[true, true, true, true, true, true, false, true, false, false, false, false, false] rfl rfl (any_of HT_.out (by kernel_rfl)) (fun _ _ _ h => h) (Or.inl ⟨by rfl, ?_⟩) ?_ ?_
              rotate_left
              ·intro w'
               go_simp
               with_reducible rfl
              rotate_left
              ·simp only [Act.put, List.setIfInBounds_toArray, List.set_cons_zero, List.set_cons_succ, i64_w, i32_w]
               rfl
              refine take_ (i := 6) (N := some 44) (v := ?_) (a' := ?_) #[true, true, true, true, true, true, true, true, false, false, false, false, false] rfl rfl (take_ofW HT_.out HW_.out (by kernel_rfl)) (fun _ _ _ h => h) (Or.inl ⟨by rfl, ?_⟩) hHeld ?_ ?_
              rotate_left
              ·rintro w' ⟨s0, s1⟩
               go_simp
               with_reducible rfl
              rotate_left
              ·simp only [Act.put, List.setIfInBounds_toArray, List.set_cons_zero, List.set_cons_succ, i64_w, i32_w]
               rfl
              refine one_ (i := 8) (N := some 46) #[true, true, true, true, true, true, true, true, true, false, false, false, false] rfl rfl (one_of HT_.out (by kernel_rfl)) (by decide) (fun K hK => ?_)
              refine goes_ Try.func18 (by kernel_rfl) rfl #[.slice A0 l0.length c0] (by rfl) rfl rfl (by (try simp only [List.map_toArray, List.map_cons, List.map_nil]); first | done | rfl | (simp only [List.length_drop, List.length_take]; rfl)) ?_
              with_reducible refine (image_Count.calls _ _ l0 t257 _ ?side1 ?side2 A19.out).mono ?_
              (case side1 => repeat (first | exact (Kd.C_below HR0.out HB.out) | (with_reducible refine Kd.C_alloc ?_ _) | (with_reducible refine Kd.C_drewN ?_ _) | (with_reducible refine Kd.C_drew ?_)))
              (case side2 => exact HC0.out)
              rintro e w' ⟨rfl, ⟨nd, rfl⟩⟩
              refine ⟨_, rfl, ?_⟩
              refine hK.out _ _ ⟨hHeld.1, hHeld.2⟩ (fun hHeld => ?_)
              clear hK K
              refine norm_ (a' := ?_) ?_ ?_
              rotate_left
              ·show Act.put _ (some 46) _ = _
               simp only [Act.put, List.setIfInBounds_toArray, List.set_cons_zero, List.set_cons_succ, i64_w, i32_w]
               rfl
              refine one_ (i := 9) (N := some 47) #[true, true, true, true, true, true, true, true, true, true, false, false, false] rfl rfl (one_of HT_.out (by kernel_rfl)) (by decide) (fun K hK => ?_)
              refine goes_ Try.func10 (by kernel_rfl) rfl #[.int .i64 ((rd_T28 x5_2 x27_2).f0), .int .i64 t257] (by rfl) rfl rfl (by (try simp only [List.map_toArray, List.map_cons, List.map_nil]); first | done | rfl | (simp only [List.length_drop, List.length_take]; rfl)) ?_
              with_reducible refine (rollbacknetmake_Mod.calls ((rd_T28 x5_2 x27_2).f0) t257 t258 _ A20.out).mono ?_
              rintro e w' ⟨rfl, ⟨nd, rfl⟩⟩
              refine ⟨_, rfl, ?_⟩
              have p21 : 0 ≤ (x27_2 : Int) := of_decide_eq_true (by first | (with_reducible assumption) | assumption)
              have q21 : (x27_2 : Int) < ((x5_2.length : Int) : Int) := of_decide_eq_true (by first | (with_reducible assumption) | assumption)
              obtain ⟨go21, co21, eo21, gb21, gl21, cl21, HG21⟩ := Kd.N_form HO_5.out (by omega)
              (first | cases eo21 | (injection eo21 with ea_ en_ ec_; (first | subst ea_ | (injection ea_ with ea_; subst ea_)); subst ec_; clear en_))
              have GB21 := aM gb21
              have GG21 := aM HG21
              clear gb21 gl21 HG21
              (first | simp only [add_plain] at hx256_0 | skip)
              (first | simp only [add_plain] at hx256_1 | skip)
              obtain ⟨ce21, hcl21, hM21, hcc21, hfr21⟩ := Kd.N_elem HO_5.out z28 (x27_2 : Int) p21 q21
              obtain ⟨ua21_1, uc21_1, rfl, ul21_1, ge21_1⟩ := k28_openF hM21
              have hx21_0 : World.cell? _ ⟨go21, (x27_2 : Int).toNat * 2, none⟩ = some (.int .i64 ((rd_T28 x5_2 x27_2).f0)) := hcc21 0 _ rfl
              have hx21_1 : World.cell? _ ⟨go21, (x27_2 : Int).toNat * 2 + 1, none⟩ = some (.slice ua21_1 ((rd_T28 x5_2 x27_2).f1).length uc21_1) := hcc21 1 _ rfl
              have hf21_0 : World.frozen? _ ⟨go21, (x27_2 : Int).toNat * 2, none⟩ = false := hfr21 0
              have hf21_1 : World.frozen? _ ⟨go21, (x27_2 : Int).toNat * 2 + 1, none⟩ = false := hfr21 1
              clear hcl21 hcc21 hfr21 hM21
              replace p21 := eq_true p21
              replace q21 := eq_true q21
              have HX23 := aM (show Kd.N k28 28 _ w.heap.size (fun k_ => (P1_ k_ ∨ w.heap.size ≤ k_)) (.slice (some ⟨go21, 0, none⟩) x5_2.length co11) x5_2 from (Kd.N_mono (HO_5.out) (fun k_ hk => hk)))
              obtain ⟨ce23, hcl23, hM23, hcc23, hfr23⟩ := Kd.N_elem HX23.out z28 (x27_2 : Int) (of_decide_eq_true (by first | (with_reducible assumption) | assumption)) (by have h_ : (x27_2 : Int) < ((x5_2.length : Int) : Int) := of_decide_eq_true (by first | (with_reducible assumption) | assumption); first | exact h_ | (have e_ := (Kd.N_reads' HO_5.out).1; omega) | simpa using h_)
              obtain ⟨ua23_1, uc23_1, rfl, ul23_1, ge23_1⟩ := k28_openF hM23
              have HP23 := (Kd.N_seg HX23.out (x27_2 : Int) (of_decide_eq_true (by first | (with_reducible assumption) | assumption)) (by have h_ : (x27_2 : Int) < ((x5_2.length : Int) : Int) := of_decide_eq_true (by first | (with_reducible assumption) | assumption); first | exact h_ | (have e_ := (Kd.N_reads' HO_5.out).1; omega) | simpa using h_) (seg := [.int .i64 t258]) (j := 0) hcl23 hcc23 (show 1 ≤ 2 from by decide) (x' := (⟨t258, (rd_T28 x5_2 x27_2).f1⟩ : S28)) (k28_mkF _ _ (⟨t258, (rd_T28 x5_2 x27_2).f1⟩ : S28) ul23_1 ge23_1) (fun _ hk => hk)).1
              rw [← Ny259.out] at HP23
              have HQ23 := aM HP23
              clear hcl23 hcc23 hfr23 hM23 HP23
              refine hK.out _ _ ⟨hHeld.1, hHeld.2⟩ (fun hHeld => ?_)
              clear hK K
              refine norm_ (a' := ?_) ?_ ?_
              rotate_left
              ·show Act.put _ (some 47) _ = _
               simp only [Act.put, List.setIfInBounds_toArray, List.set_cons_zero, List.set_cons_succ, i64_w, i32_w]
               rfl
              refine pure_ (i := 10) (N := some 48) (v := ?_) (a' := ?_) #[true, true, true, true, true, true, true, true, true, true, true, false, false] rfl rfl (any_of HT_.out (by kernel_rfl)) (fun _ _ _ h => h) (Or.inl ⟨by rfl, ?_⟩) ?_ ?_
              rotate_left
              ·intro w'
               go_simp
               with_reducible rfl
              rotate_left
              ·simp only [Act.put, List.setIfInBounds_toArray, List.set_cons_zero, List.set_cons_succ, i64_w, i32_w]
               rfl
              refine pure_ (i := 11) (N := some 49) (v := ?_) (a' := ?_) #[true, true, true, true, true, true, true, true, true, true, true, true, false] rfl rfl (any_of HT_.out (by kernel_rfl)) (fun _ _ _ h => h) (Or.inl ⟨by rfl, ?_⟩) ?_ ?_
              rotate_left
              ·intro w'
               go_simp
               with_reducible rfl
              rotate_left
              ·simp only [Act.put, List.setIfInBounds_toArray, List.set_cons_zero, List.set_cons_succ, i64_w, i32_w]
               rfl
              refine last_ (i := 12) (N := none) #[true, true, true, true, true, true, true, true, true, true, true, true, true] rfl rfl (one_of HT_.out (by kernel_rfl)) (by decide) (fun K hK => ?_)
              refine skip_ (w1 := ?_) (by rfl) rfl ?_ ?_
              rotate_left
              ·go_simp
               rfl
              refine hK.out _ _ ?_
              clear hK K
              refine done_ (done_of HT_.out (by kernel_rfl)) ?_
              try go_wp2
              (try simp only [← hl5_2])
              go_roundg kj12
              case measure => have := HJ4.out; have := HK2.out; have := HJ12.out; omega
              case rel => exact ⟨(y259), (wrap64 (x27_2 + 1)), (by first | rfl | (simp; done) | (simp [*]; done)), H', ⟨by have := HJ4.out; have := HK2.out; have := HJ12.out; omega⟩, ⟨by (try simp only [hl5_2]); (with_reducible repeat (first | apply Kd.V_alloc | apply Kd.V_drewN | apply Kd.V_drew)); exact Kd.V_mono (Kd.V_far (p := ⟨go21, (x27_2 : Int).toNat * 2, none⟩) (Kd.V_mono HO_1.out (fun k_ hk => (⟨hk, fun e_ => hk.2 (by rw [e_]; rfl)⟩ : _ ∧ k_ ≠ go21))) (fun _ hk => hk.2) (.int .i64 t258)) (fun _ hk => ⟨hk.1.1, hk.1.2⟩)⟩, ⟨by (try simp only [hl5_2]); (with_reducible repeat (first | apply Kd.N_alloc | apply Kd.N_drewN | apply Kd.N_drew)); exact HQ23.out⟩, ⟨by repeat (first | (with_reducible first | exact HB.out | apply wA | apply wN | apply wD | refine below_set ?_ GB21.out) | exact HB.out)⟩⟩
             ·rw [if_neg c18] at H
              exact absurd H (by simp)
            ·rw [if_neg c17] at H
             exact absurd H (by simp)
           ·replace c16 := Bool.eq_false_iff.mpr c16
            subst c16
            have H1 : (rollbacknetlaw07_ImageApplies.l0 kj12 l0 l1 x5_2 (y252.length : Int) (wrap64 (x27_2 + 1))) = some r := by rw [if_neg (show ¬ (false = true) by decide)] at H; exact H
            clear H
            have H := H1
            clear H1
            have H' := aM H
            clear H
            go_wp2
            (try simp only [← hl5_2])
            go_roundg kj12
            case measure => have := HJ4.out; have := HK2.out; have := HJ12.out; omega
            case rel => exact ⟨(x5_2), (wrap64 (x27_2 + 1)), (by first | rfl | (simp; done) | (simp [*]; done)), H', ⟨by have := HJ4.out; have := HK2.out; have := HJ12.out; omega⟩, ⟨by (try simp only [hl5_2]); (with_reducible repeat (first | apply Kd.V_alloc | apply Kd.V_drewN | apply Kd.V_drew)); exact HO_1.out⟩, ⟨by (try simp only [hl5_2]); (with_reducible repeat (first | apply Kd.N_alloc | apply Kd.N_drewN | apply Kd.N_drew)); exact HO_5.out⟩, ⟨by repeat (first | (with_reducible first | exact HB.out | apply wA | apply wN | apply wD) | exact HB.out)⟩⟩
        ·rw [if_neg c12] at H
         have c12b0 : decide (x27_2 < (y252.length : Int)) = false := decide_eq_false c12
         (try simp only [hl5_2] at c12b0)
         clear c12
         obtain ⟨y260, hy260⟩ : ∃ y_ : List (List (S28)), y_ = (([l1, x5_2] : List (List (S28)))) := ⟨_, rfl⟩
         replace H : (rollbacknetlaw07_ImageApplies.l1 k2 l0 y260 (y260.length : Int) 0) = some r := by first | (rw [hy260]; with_reducible exact H) | (have H2_ := (Option.bind_some _ _).symm.trans H; rw [hy260]; with_reducible exact H2_) | (have H2_ := (Option.bind_some _ _).symm.trans H; with_reducible exact H2_) | with_reducible exact H | (rw [hy260]; exact H) | exact H
         have Ny260 := aM hy260
         clear hy260
         have H' := aM H
         clear H
         go_wp2_with (first | ((with_reducible refine gate_dst (N := 53) rfl ?_); (try (refine gate_guard (by rfl) ?_; dsimp only)); refine Kd.N_lit (Kd.slice 28 k28) _ 25 ?hg (N' := 53) ?hd (xs := ([l1, x5_2] : List (List (S28)))) (inner := [.slice A1 l1.length c1, .slice Ao11 x5_2.length co11]) (ok := (fun k_ => (P1_ k_ ∨ w.heap.size ≤ k_))) (okp := (fun k_ => (P1_ k_ ∨ w.heap.size ≤ k_))) ?hr ?hp (fun _ hk => hk) ((show ∀ k_, wr.heap.size ≤ k_ → (fun k_ => (P1_ k_ ∨ w.heap.size ≤ k_)) k_ from fun k_ hk => (.inr (Nat.le_trans (below_size (by repeat (first | (with_reducible first | exact HB.out | apply wA | apply wN | apply wD) | exact HB.out))) hk))) _ (Nat.le_refl _)) (Below.refl _ _) (Nat.le_refl _) (by simp) ?_; (case hd => rfl); (case hg => rfl); (case hr => first | (go_simp; done) | (go_simp; rfl)); (case hp => exact (Reps.one (show Kd.FK (Kd.slice 28 k28) _ _ l1 [.slice A1 l1.length c1] from (Kd.FK_slice_mk (Kd.V_reads' (Kd.V_mono (ok' := (fun k_ => (P1_ k_ ∨ w.heap.size ≤ k_))) (HO_1.out) (fun k_ hk => hk.1))).2.1 (Kd.V_F (Kd.V_mono (ok' := (fun k_ => (P1_ k_ ∨ w.heap.size ≤ k_))) (HO_1.out) (fun k_ hk => hk.1))))) (Reps.one (show Kd.FK (Kd.slice 28 k28) _ _ x5_2 [.slice Ao11 x5_2.length co11] from (Kd.FK_slice_mk (Kd.N_reads' (Kd.N_mono (ok' := (fun k_ => (P1_ k_ ∨ w.heap.size ≤ k_))) (HO_5.out) (fun k_ hk => hk))).2.1 (Kd.N_F (Kd.N_mono (ok' := (fun k_ => (P1_ k_ ∨ w.heap.size ≤ k_))) (HO_5.out) (fun k_ hk => hk))))) (Reps.none _ _)))); intro v261 w24 ho25 hb hg_ hnew_; clear hg_ hnew_; (first | rw [← Ny260.out] at ho25 | (simp only [Int.reduceToNat] at ho25; rw [← Ny260.out] at ho25)); have n0_ := aM (Kd.V_elder' (by (with_reducible repeat (first | apply Kd.V_alloc | apply Kd.V_drewN | apply Kd.V_drew)); exact HO_1.out) (by first | exact Kd.N_base ho25 | exact Kd.N_base (Kd.S_N ho25)) hb); have n1_ := aM (Kd.N_lower ho25 (below_size (by repeat (first | (with_reducible first | exact HB.out | apply wA | apply wN | apply wD) | exact HB.out)))); have n2_ := aM (below_step (by repeat (first | (with_reducible first | exact HB.out | apply wA | apply wN | apply wD) | exact HB.out)) hb); clear HO_1; clear HB; clear HO_5; have HO_1 := n0_; have HO262 := n1_; have HB := n2_; clear n0_ n1_ n2_; clear hb ho25; obtain ⟨Ao26, co26, eo26⟩ := Kd.N_slice HO262.out; subst eo26))
         go_loopg [55] k2 (fun kq v55 w' => ∃ (x55_3 : Int), v55 = .int .i64 x55_3 ∧ Aside0 (rollbacknetlaw07_ImageApplies.l1 kq l0 y260 (y260.length : Int) x55_3 = some r) ∧ Aside0 (kq ≤ k2) ∧ Aside0 (Kd.N (Kd.slice 28 k28) 25 w' w.heap.size (fun k_ => (P1_ k_ ∨ w.heap.size ≤ k_)) (.slice Ao26 y260.length co26) y260) ∧ Aside0 (Below w.heap.size w w'))
         case atStart => exact ⟨(0), (by first | rfl | (simp; done) | (simp [*]; done)), H', ⟨Nat.le_refl _⟩, ⟨by (try simp only [hl5_2]); (with_reducible repeat (first | apply Kd.N_alloc | apply Kd.N_drewN | apply Kd.N_drew)); exact HO262.out⟩, ⟨by repeat (first | (with_reducible first | exact HB.out | apply wA | apply wN | apply wD) | exact HB.out)⟩⟩
         case round =>
          clear H'
          try clear c1
          try clear c2
          try clear p2
          try clear q2
          try clear hx2
          try clear hf2
          try clear c4
          try clear c5
          try clear p6
          try clear c7
          try clear c7b0
          try clear c7b1
          try clear c8
          try clear c9
          try clear c10
          try clear c12
          try clear c12b0
          try clear c14
          try clear c14b0
          try clear c14b1
          try clear c16
          try clear c17
          try clear c17b0
          try clear c18
          try clear c18b0
          try clear c21
          try clear p21
          try clear q21
          try clear hx21
          try clear hf21
          try clear c23
          try clear c25
          try clear p25
          try clear q25
          try clear hx25
          try clear hx21_0
          try clear hx21_1
          try clear hx256_0
          try clear hx256_1
          try clear p2
          try clear p21
          try clear p256
          try clear q21
          try clear q256
          obtain ⟨x55_3, rfl, HA, HK3, HO_53, HB⟩ := hrel
          cases gk with
          | zero => exact absurd HA.out (by simp [rollbacknetlaw07_ImageApplies.l1])
          | succ k3 =>
           have H := HA.out
           clear HA
           simp only [rollbacknetlaw07_ImageApplies.l1] at H
           by_cases c27 : x55_3 < (y260.length : Int)
           ·rw [if_pos c27] at H
            have c27b0 : decide (x55_3 < (y260.length : Int)) = true := decide_eq_true c27
            (try simp only [hl5_2] at c27b0)
            clear c27
            by_cases c28 : 0 ≤ x55_3
            ·rw [if_pos c28] at H
             have c28b0 : decide (0 ≤ x55_3) = true := decide_eq_true c28
             (try simp only [hl5_2] at c28b0)
             clear c28
             by_cases c29 : x55_3 < (y260.length : Int)
             ·rw [if_pos c29] at H
              have c29b0 : decide (x55_3 < (y260.length : Int)) = true := decide_eq_true c29
              (try simp only [hl5_2] at c29b0)
              clear c29
              replace H := Option.bind_eq_some_iff.mp H
              obtain ⟨⟨t264, t265⟩, A300, H⟩ := H
              replace H : ((rollbacknetref07_Apply.f k3 l0 (rd_L4 y260 x55_3)).bind fun bt268 => (if t265 = bt268.2 then ((rollbacknetref03_SameInts.f k3 t264 bt268.1).bind fun t272 => (if t272 = true then (rollbacknetlaw07_ImageApplies.l1 k3 l0 y260 (y260.length : Int) (wrap64 (x55_3 + 1))) else (some false))) else (some false))) = some r := H
              have A30 := aM A300
              clear A300
              replace H := Option.bind_eq_some_iff.mp H
              obtain ⟨⟨t268, t269⟩, A310, H⟩ := H
              replace H : (if t265 = t269 then ((rollbacknetref03_SameInts.f k3 t264 t268).bind fun t272 => (if t272 = true then (rollbacknetlaw07_ImageApplies.l1 k3 l0 y260 (y260.length : Int) (wrap64 (x55_3 + 1))) else (some false))) else (some false)) = some r := H
              have A31 := aM A310
              clear A310
              by_cases c32 : t265 = t269
              ·rw [if_pos c32] at H
               have c32b0 : (t265 == t269) = true := beq_iff_eq.mpr c32
               (try simp only [hl5_2] at c32b0)
               have c32b1 : (t265 != t269) = false := bne_eq_false_iff_eq.mpr c32
               (try simp only [hl5_2] at c32b1)
               clear c32
               replace H := Option.bind_eq_some_iff.mp H
               obtain ⟨t272, A330, H⟩ := H
               replace H : (if t272 = true then (rollbacknetlaw07_ImageApplies.l1 k3 l0 y260 (y260.length : Int) (wrap64 (x55_3 + 1))) else (some false)) = some r := H
               have A33 := aM A330
               clear A330
               by_cases c34 : t272 = true
               ·subst c34
                have H1 : (rollbacknetlaw07_ImageApplies.l1 k3 l0 y260 (y260.length : Int) (wrap64 (x55_3 + 1))) = some r := by rw [if_pos rfl] at H; exact H
                clear H
                have H := H1
                clear H1
                have H' := aM H
                clear H
                have p263 : 0 ≤ (x55_3 : Int) := of_decide_eq_true (by first | (with_reducible assumption) | assumption)
                have q263 : x55_3 < (y260.length : Int) := of_decide_eq_true (by first | (with_reducible assumption) | assumption)
                obtain ⟨ad263, A263_0, c263_0, e263, hx263_0, hl263_0, hi263_0⟩ := at_L4 (Kd.N_reads' HO_53.out).2.2 x55_3 p263 q263
                cases e263
                obtain ⟨ce263, hce263, hMe263, hcc263⟩ := Kd.N_get HO_53.out [] x55_3 p263 (by first | exact q263 | exact of_decide_eq_true (by first | (with_reducible assumption) | assumption) | (have e_ := (Kd.N_reads' HO_53.out).1; omega))
                obtain ⟨ua263_0, uc263_0, rfl, ul263_0, ge263_0⟩ := Kd.FK_slice_open hMe263
                have hv263_0 := hcc263 0 _ rfl
                rw [Nat.add_zero, show ((Kd.slice 28 k28)).sz = 1 from rfl, Nat.mul_one] at hv263_0
                replace hv263_0 := Option.some.inj (hv263_0.symm.trans hx263_0)
                injection hv263_0 with hva_ hvn_ hvc_
                rw [hva_] at ge263_0
                rw [hvc_] at ul263_0
                have HL263_0 := aM (show Kd.V k28 28 _ w.heap.size _ _ (rd_L4 y260 x55_3) from Kd.V_mk ul263_0 ge263_0)
                clear hva_ hvn_ hvc_ ge263_0 ul263_0
                clear hcc263 hce263
                have HR263_0 := aM hi263_0
                have HC263_0 := aM hl263_0
                clear hi263_0 hl263_0
                replace p263 := eq_true p263
                replace q263 := eq_true q263
                go_wp2_with (first | ((with_reducible refine gate_callee (f := 20) rfl ?_); refine goesL_ (some 62) rfl rfl Try.func20 (by kernel_rfl) rfl #[.slice A0 l0.length c0, .slice A263_0 (rd_L4 y260 x55_3).length c263_0] rfl (by (try simp only [List.map_toArray, List.map_cons, List.map_nil]); first | done | rfl | (simp only [List.length_drop, List.length_take]; rfl)) ?_; (with_reducible refine (image_Apply.calls _ _ l0 _ _ (rd_L4 y260 x55_3) t264 t265 _ ?side1 ?side2 ?side3 ?side4 A30.out).mono ?_); (case side1 => repeat (first | exact (Kd.C_below HR0.out HB.out) | (with_reducible refine Kd.C_alloc ?_ _) | (with_reducible refine Kd.C_drewN ?_ _) | (with_reducible refine Kd.C_drew ?_))); (case side2 => exact HC0.out); (case side3 => repeat (first | exact (by repeat (first | (with_reducible exact HR263_0.out) | (with_reducible refine Kd.C_alloc ?_ _) | (with_reducible refine Kd.C_drewN ?_ _) | (with_reducible refine Kd.C_drew ?_) | exact HR263_0.out)) | (with_reducible refine Kd.C_alloc ?_ _) | (with_reducible refine Kd.C_drewN ?_ _) | (with_reducible refine Kd.C_drew ?_))); (case side4 => exact HC263_0.out); rintro e w35 ⟨v266, rfl, ho0, hb⟩; refine ⟨_, rfl, ?_⟩; have n0_ := aM (Kd.N_elder' (by (with_reducible repeat (first | apply Kd.N_alloc | apply Kd.N_drewN | apply Kd.N_drew)); exact HO_53.out) (Kd.R_base ho0) hb); have n1_ := aM (Kd.V_elder' (by (with_reducible repeat (first | apply Kd.V_alloc | apply Kd.V_drewN | apply Kd.V_drew)); exact HL263_0.out) (Kd.R_base ho0) hb); have n2_ := aM (Kd.R_lower (Kd.R_newM (M := fun k_ => (w.heap.size ≤ k_)) ho0 (below_size (by repeat (first | (with_reducible first | exact HB.out | apply wA | apply wN | apply wD) | exact HB.out))) (fun k_ h_ => h_)) (below_size (by repeat (first | (with_reducible first | exact HB.out | apply wA | apply wN | apply wD) | exact HB.out)))); have n3_ := aM (Kd.C_below (by repeat (first | (with_reducible exact HR263_0.out) | (with_reducible refine Kd.C_alloc ?_ _) | (with_reducible refine Kd.C_drewN ?_ _) | (with_reducible refine Kd.C_drew ?_) | exact HR263_0.out)) hb); have n4_ := aM (below_step (by repeat (first | (with_reducible first | exact HB.out | apply wA | apply wN | apply wD) | exact HB.out)) hb); clear HO_53; clear HL263_0; clear HR263_0; clear HB; have HO_53 := n0_; have HL263_0 := n1_; have HO267 := n2_; have HR263_0 := n3_; have HB := n4_; clear n0_ n1_ n2_ n3_ n4_; (try clear hb); (try clear hb2); (try clear hk); (try clear hi); (try clear hge_); (try clear ho0)) | ((with_reducible refine gate_callee (f := 21) rfl ?_); refine goesL_ (some 68) rfl rfl Try.func21 (by kernel_rfl) rfl #[.slice A0 l0.length c0, .slice A263_0 (rd_L4 y260 x55_3).length c263_0] rfl (by (try simp only [List.map_toArray, List.map_cons, List.map_nil]); first | done | rfl | (simp only [List.length_drop, List.length_take]; rfl)) ?_; (with_reducible refine (rollbacknetref07_Apply.calls k3 _ _ l0 _ _ (rd_L4 y260 x55_3) t268 t269 _ ?side1 ?side2 ?side3 ?side4 A31.out).mono ?_); (case side1 => repeat (first | exact (Kd.C_below HR0.out HB.out) | (with_reducible refine Kd.C_alloc ?_ _) | (with_reducible refine Kd.C_drewN ?_ _) | (with_reducible refine Kd.C_drew ?_))); (case side2 => exact HC0.out); (case side3 => repeat (first | exact (by repeat (first | (with_reducible exact HR263_0.out) | (with_reducible refine Kd.C_alloc ?_ _) | (with_reducible refine Kd.C_drewN ?_ _) | (with_reducible refine Kd.C_drew ?_) | exact HR263_0.out)) | (with_reducible refine Kd.C_alloc ?_ _) | (with_reducible refine Kd.C_drewN ?_ _) | (with_reducible refine Kd.C_drew ?_))); (case side4 => exact HC263_0.out); rintro e w36 ⟨v270, rfl, ho0, hb⟩; refine ⟨_, rfl, ?_⟩; have n0_ := aM (Kd.N_elder' (by (with_reducible repeat (first | apply Kd.N_alloc | apply Kd.N_drewN | apply Kd.N_drew)); exact HO_53.out) (Kd.R_base ho0) hb); have n1_ := aM (Kd.V_elder' (by (with_reducible repeat (first | apply Kd.V_alloc | apply Kd.V_drewN | apply Kd.V_drew)); exact HL263_0.out) (Kd.R_base ho0) hb); have n2_ := aM (Kd.R_elder' (by (with_reducible repeat (first | apply Kd.R_alloc | apply Kd.R_drewN | apply Kd.R_drew)); exact HO267.out) (Kd.R_base ho0) hb); have n3_ := aM (Kd.R_lower (Kd.R_new' (Kd.R_newM (M := fun k_ => (w.heap.size ≤ k_)) ho0 (below_size (by repeat (first | (with_reducible first | exact HB.out | apply wA | apply wN | apply wD) | exact HB.out))) (fun k_ h_ => h_)) (Kd.R_lt (by (with_reducible repeat (first | apply Kd.R_alloc | apply Kd.R_drewN | apply Kd.R_drew)); exact HO267.out))) (below_size (by repeat (first | (with_reducible first | exact HB.out | apply wA | apply wN | apply wD) | exact HB.out)))); have n4_ := aM (Kd.C_below (by repeat (first | (with_reducible exact HR263_0.out) | (with_reducible refine Kd.C_alloc ?_ _) | (with_reducible refine Kd.C_drewN ?_ _) | (with_reducible refine Kd.C_drew ?_) | exact HR263_0.out)) hb); have n5_ := aM (below_step (by repeat (first | (with_reducible first | exact HB.out | apply wA | apply wN | apply wD) | exact HB.out)) hb); clear HO_53; clear HL263_0; clear HO267; clear HR263_0; clear HB; have HO_53 := n0_; have HL263_0 := n1_; have HO267 := n2_; have HO271 := n3_; have HR263_0 := n4_; have HB := n5_; clear n0_ n1_ n2_ n3_ n4_ n5_; (try clear hb); (try clear hb2); (try clear hk); (try clear hi); (try clear hge_); (try clear ho0); obtain ⟨Ao37, co37, eo37⟩ := Kd.R_slice HO267.out; subst eo37; obtain ⟨Ao38, co38, eo38⟩ := Kd.R_slice HO271.out; subst eo38) | (go_at_call 22; (with_reducible refine (rollbacknetref03_SameInts.calls k3 _ _ t264 _ _ t268 true _ ?side1 ?side2 ?side3 ?side4 A33.out).mono ?_); (case side1 => repeat (first | exact (Kd.R_reads' HO267.out).2.2 | (with_reducible refine Kd.C_alloc ?_ _) | (with_reducible refine Kd.C_drewN ?_ _) | (with_reducible refine Kd.C_drew ?_))); (case side2 => exact (Kd.R_reads' HO267.out).2.1); (case side3 => repeat (first | exact (Kd.R_reads' HO271.out).2.2 | (with_reducible refine Kd.C_alloc ?_ _) | (with_reducible refine Kd.C_drewN ?_ _) | (with_reducible refine Kd.C_drew ?_))); (case side4 => exact (Kd.R_reads' HO271.out).2.1); rintro e w' ⟨rfl, ⟨nd, rfl⟩⟩))
                go_roundg k3
                case measure => have := HJ4.out; have := HK2.out; have := HK3.out; omega
                case rel => exact ⟨(wrap64 (x55_3 + 1)), (by first | rfl | (simp; done) | (simp [*]; done)), H', ⟨by have := HJ4.out; have := HK2.out; have := HK3.out; omega⟩, ⟨by (try simp only [hl5_2]); (with_reducible repeat (first | apply Kd.N_alloc | apply Kd.N_drewN | apply Kd.N_drew)); exact Kd.N_mono HO_53.out (fun _ hk => hk.1.1)⟩, ⟨by repeat (first | (with_reducible first | exact HB.out | apply wA | apply wN | apply wD) | exact HB.out)⟩⟩
               ·replace c34 := Bool.eq_false_iff.mpr c34
                subst c34
                have H1 : (some false) = some r := by rw [if_neg (show ¬ (false = true) by decide)] at H; exact H
                clear H
                have H := H1
                clear H1
                obtain rfl := Option.some.inj H
                have p263 : 0 ≤ (x55_3 : Int) := of_decide_eq_true (by first | (with_reducible assumption) | assumption)
                have q263 : x55_3 < (y260.length : Int) := of_decide_eq_true (by first | (with_reducible assumption) | assumption)
                obtain ⟨ad263, A263_0, c263_0, e263, hx263_0, hl263_0, hi263_0⟩ := at_L4 (Kd.N_reads' HO_53.out).2.2 x55_3 p263 q263
                cases e263
                obtain ⟨ce263, hce263, hMe263, hcc263⟩ := Kd.N_get HO_53.out [] x55_3 p263 (by first | exact q263 | exact of_decide_eq_true (by first | (with_reducible assumption) | assumption) | (have e_ := (Kd.N_reads' HO_53.out).1; omega))
                obtain ⟨ua263_0, uc263_0, rfl, ul263_0, ge263_0⟩ := Kd.FK_slice_open hMe263
                have hv263_0 := hcc263 0 _ rfl
                rw [Nat.add_zero, show ((Kd.slice 28 k28)).sz = 1 from rfl, Nat.mul_one] at hv263_0
                replace hv263_0 := Option.some.inj (hv263_0.symm.trans hx263_0)
                injection hv263_0 with hva_ hvn_ hvc_
                rw [hva_] at ge263_0
                rw [hvc_] at ul263_0
                have HL263_0 := aM (show Kd.V k28 28 _ w.heap.size _ _ (rd_L4 y260 x55_3) from Kd.V_mk ul263_0 ge263_0)
                clear hva_ hvn_ hvc_ ge263_0 ul263_0
                clear hcc263 hce263
                have HR263_0 := aM hi263_0
                have HC263_0 := aM hl263_0
                clear hi263_0 hl263_0
                replace p263 := eq_true p263
                replace q263 := eq_true q263
                go_wp2_with (first | ((with_reducible refine gate_callee (f := 20) rfl ?_); refine goesL_ (some 62) rfl rfl Try.func20 (by kernel_rfl) rfl #[.slice A0 l0.length c0, .slice A263_0 (rd_L4 y260 x55_3).length c263_0] rfl (by (try simp only [List.map_toArray, List.map_cons, List.map_nil]); first | done | rfl | (simp only [List.length_drop, List.length_take]; rfl)) ?_; (with_reducible refine (image_Apply.calls _ _ l0 _ _ (rd_L4 y260 x55_3) t264 t265 _ ?side1 ?side2 ?side3 ?side4 A30.out).mono ?_); (case side1 => repeat (first | exact (Kd.C_below HR0.out HB.out) | (with_reducible refine Kd.C_alloc ?_ _) | (with_reducible refine Kd.C_drewN ?_ _) | (with_reducible refine Kd.C_drew ?_))); (case side2 => exact HC0.out); (case side3 => repeat (first | exact (by repeat (first | (with_reducible exact HR263_0.out) | (with_reducible refine Kd.C_alloc ?_ _) | (with_reducible refine Kd.C_drewN ?_ _) | (with_reducible refine Kd.C_drew ?_) | exact HR263_0.out)) | (with_reducible refine Kd.C_alloc ?_ _) | (with_reducible refine Kd.C_drewN ?_ _) | (with_reducible refine Kd.C_drew ?_))); (case side4 => exact HC263_0.out); rintro e w39 ⟨v266, rfl, ho0, hb⟩; refine ⟨_, rfl, ?_⟩; have n0_ := aM (Kd.N_elder' (by (with_reducible repeat (first | apply Kd.N_alloc | apply Kd.N_drewN | apply Kd.N_drew)); exact HO_53.out) (Kd.R_base ho0) hb); have n1_ := aM (Kd.V_elder' (by (with_reducible repeat (first | apply Kd.V_alloc | apply Kd.V_drewN | apply Kd.V_drew)); exact HL263_0.out) (Kd.R_base ho0) hb); have n2_ := aM (Kd.R_lower (Kd.R_newM (M := fun k_ => (w.heap.size ≤ k_)) ho0 (below_size (by repeat (first | (with_reducible first | exact HB.out | apply wA | apply wN | apply wD) | exact HB.out))) (fun k_ h_ => h_)) (below_size (by repeat (first | (with_reducible first | exact HB.out | apply wA | apply wN | apply wD) | exact HB.out)))); have n3_ := aM (Kd.C_below (by repeat (first | (with_reducible exact HR263_0.out) | (with_reducible refine Kd.C_alloc ?_ _) | (with_reducible refine Kd.C_drewN ?_ _) | (with_reducible refine Kd.C_drew ?_) | exact HR263_0.out)) hb); have n4_ := aM (below_step (by repeat (first | (with_reducible first | exact HB.out | apply wA | apply wN | apply wD) | exact HB.out)) hb); clear HO_53; clear HL263_0; clear HR263_0; clear HB; have HO_53 := n0_; have HL263_0 := n1_; have HO267 := n2_; have HR263_0 := n3_; have HB := n4_; clear n0_ n1_ n2_ n3_ n4_; (try clear hb); (try clear hb2); (try clear hk); (try clear hi); (try clear hge_); (try clear ho0)) | ((with_reducible refine gate_callee (f := 21) rfl ?_); refine goesL_ (some 68) rfl rfl Try.func21 (by kernel_rfl) rfl #[.slice A0 l0.length c0, .slice A263_0 (rd_L4 y260 x55_3).length c263_0] rfl (by (try simp only [List.map_toArray, List.map_cons, List.map_nil]); first | done | rfl | (simp only [List.length_drop, List.length_take]; rfl)) ?_; (with_reducible refine (rollbacknetref07_Apply.calls k3 _ _ l0 _ _ (rd_L4 y260 x55_3) t268 t269 _ ?side1 ?side2 ?side3 ?side4 A31.out).mono ?_); (case side1 => repeat (first | exact (Kd.C_below HR0.out HB.out) | (with_reducible refine Kd.C_alloc ?_ _) | (with_reducible refine Kd.C_drewN ?_ _) | (with_reducible refine Kd.C_drew ?_))); (case side2 => exact HC0.out); (case side3 => repeat (first | exact (by repeat (first | (with_reducible exact HR263_0.out) | (with_reducible refine Kd.C_alloc ?_ _) | (with_reducible refine Kd.C_drewN ?_ _) | (with_reducible refine Kd.C_drew ?_) | exact HR263_0.out)) | (with_reducible refine Kd.C_alloc ?_ _) | (with_reducible refine Kd.C_drewN ?_ _) | (with_reducible refine Kd.C_drew ?_))); (case side4 => exact HC263_0.out); rintro e w40 ⟨v270, rfl, ho0, hb⟩; refine ⟨_, rfl, ?_⟩; have n0_ := aM (Kd.N_elder' (by (with_reducible repeat (first | apply Kd.N_alloc | apply Kd.N_drewN | apply Kd.N_drew)); exact HO_53.out) (Kd.R_base ho0) hb); have n1_ := aM (Kd.V_elder' (by (with_reducible repeat (first | apply Kd.V_alloc | apply Kd.V_drewN | apply Kd.V_drew)); exact HL263_0.out) (Kd.R_base ho0) hb); have n2_ := aM (Kd.R_elder' (by (with_reducible repeat (first | apply Kd.R_alloc | apply Kd.R_drewN | apply Kd.R_drew)); exact HO267.out) (Kd.R_base ho0) hb); have n3_ := aM (Kd.R_lower (Kd.R_new' (Kd.R_newM (M := fun k_ => (w.heap.size ≤ k_)) ho0 (below_size (by repeat (first | (with_reducible first | exact HB.out | apply wA | apply wN | apply wD) | exact HB.out))) (fun k_ h_ => h_)) (Kd.R_lt (by (with_reducible repeat (first | apply Kd.R_alloc | apply Kd.R_drewN | apply Kd.R_drew)); exact HO267.out))) (below_size (by repeat (first | (with_reducible first | exact HB.out | apply wA | apply wN | apply wD) | exact HB.out)))); have n4_ := aM (Kd.C_below (by repeat (first | (with_reducible exact HR263_0.out) | (with_reducible refine Kd.C_alloc ?_ _) | (with_reducible refine Kd.C_drewN ?_ _) | (with_reducible refine Kd.C_drew ?_) | exact HR263_0.out)) hb); have n5_ := aM (below_step (by repeat (first | (with_reducible first | exact HB.out | apply wA | apply wN | apply wD) | exact HB.out)) hb); clear HO_53; clear HL263_0; clear HO267; clear HR263_0; clear HB; have HO_53 := n0_; have HL263_0 := n1_; have HO267 := n2_; have HO271 := n3_; have HR263_0 := n4_; have HB := n5_; clear n0_ n1_ n2_ n3_ n4_ n5_; (try clear hb); (try clear hb2); (try clear hk); (try clear hi); (try clear hge_); (try clear ho0); obtain ⟨Ao41, co41, eo41⟩ := Kd.R_slice HO267.out; subst eo41; obtain ⟨Ao42, co42, eo42⟩ := Kd.R_slice HO271.out; subst eo42) | (go_at_call 22; (with_reducible refine (rollbacknetref03_SameInts.calls k3 _ _ t264 _ _ t268 false _ ?side1 ?side2 ?side3 ?side4 A33.out).mono ?_); (case side1 => repeat (first | exact (Kd.R_reads' HO267.out).2.2 | (with_reducible refine Kd.C_alloc ?_ _) | (with_reducible refine Kd.C_drewN ?_ _) | (with_reducible refine Kd.C_drew ?_))); (case side2 => exact (Kd.R_reads' HO267.out).2.1); (case side3 => repeat (first | exact (Kd.R_reads' HO271.out).2.2 | (with_reducible refine Kd.C_alloc ?_ _) | (with_reducible refine Kd.C_drewN ?_ _) | (with_reducible refine Kd.C_drew ?_))); (case side4 => exact (Kd.R_reads' HO271.out).2.1); rintro e w' ⟨rfl, ⟨nd, rfl⟩⟩))
                go_ret
                exact ⟨by first | rfl | (simp [errW_none, errW_some] <;> rfl) | (simp [*, errW_none, errW_some] <;> rfl), by repeat (first | (with_reducible first | exact HB.out | apply wA | apply wN | apply wD) | exact HB.out)⟩
              ·rw [if_neg c32] at H
               have c32b0 : (t265 == t269) = false := beq_eq_false_iff_ne.mpr c32
               (try simp only [hl5_2] at c32b0)
               have c32b1 : (t265 != t269) = true := bne_iff_ne.mpr c32
               (try simp only [hl5_2] at c32b1)
               obtain rfl := Option.some.inj H
               have p263 : 0 ≤ (x55_3 : Int) := of_decide_eq_true (by first | (with_reducible assumption) | assumption)
               have q263 : x55_3 < (y260.length : Int) := of_decide_eq_true (by first | (with_reducible assumption) | assumption)
               obtain ⟨ad263, A263_0, c263_0, e263, hx263_0, hl263_0, hi263_0⟩ := at_L4 (Kd.N_reads' HO_53.out).2.2 x55_3 p263 q263
               cases e263
               obtain ⟨ce263, hce263, hMe263, hcc263⟩ := Kd.N_get HO_53.out [] x55_3 p263 (by first | exact q263 | exact of_decide_eq_true (by first | (with_reducible assumption) | assumption) | (have e_ := (Kd.N_reads' HO_53.out).1; omega))
               obtain ⟨ua263_0, uc263_0, rfl, ul263_0, ge263_0⟩ := Kd.FK_slice_open hMe263
               have hv263_0 := hcc263 0 _ rfl
               rw [Nat.add_zero, show ((Kd.slice 28 k28)).sz = 1 from rfl, Nat.mul_one] at hv263_0
               replace hv263_0 := Option.some.inj (hv263_0.symm.trans hx263_0)
               injection hv263_0 with hva_ hvn_ hvc_
               rw [hva_] at ge263_0
               rw [hvc_] at ul263_0
               have HL263_0 := aM (show Kd.V k28 28 _ w.heap.size _ _ (rd_L4 y260 x55_3) from Kd.V_mk ul263_0 ge263_0)
               clear hva_ hvn_ hvc_ ge263_0 ul263_0
               clear hcc263 hce263
               have HR263_0 := aM hi263_0
               have HC263_0 := aM hl263_0
               clear hi263_0 hl263_0
               replace p263 := eq_true p263
               replace q263 := eq_true q263
               go_wp2_with (first | ((with_reducible refine gate_callee (f := 20) rfl ?_); refine goesL_ (some 62) rfl rfl Try.func20 (by kernel_rfl) rfl #[.slice A0 l0.length c0, .slice A263_0 (rd_L4 y260 x55_3).length c263_0] rfl (by (try simp only [List.map_toArray, List.map_cons, List.map_nil]); first | done | rfl | (simp only [List.length_drop, List.length_take]; rfl)) ?_; (with_reducible refine (image_Apply.calls _ _ l0 _ _ (rd_L4 y260 x55_3) t264 t265 _ ?side1 ?side2 ?side3 ?side4 A30.out).mono ?_); (case side1 => repeat (first | exact (Kd.C_below HR0.out HB.out) | (with_reducible refine Kd.C_alloc ?_ _) | (with_reducible refine Kd.C_drewN ?_ _) | (with_reducible refine Kd.C_drew ?_))); (case side2 => exact HC0.out); (case side3 => repeat (first | exact (by repeat (first | (with_reducible exact HR263_0.out) | (with_reducible refine Kd.C_alloc ?_ _) | (with_reducible refine Kd.C_drewN ?_ _) | (with_reducible refine Kd.C_drew ?_) | exact HR263_0.out)) | (with_reducible refine Kd.C_alloc ?_ _) | (with_reducible refine Kd.C_drewN ?_ _) | (with_reducible refine Kd.C_drew ?_))); (case side4 => exact HC263_0.out); rintro e w43 ⟨v266, rfl, ho0, hb⟩; refine ⟨_, rfl, ?_⟩; have n0_ := aM (Kd.N_elder' (by (with_reducible repeat (first | apply Kd.N_alloc | apply Kd.N_drewN | apply Kd.N_drew)); exact HO_53.out) (Kd.R_base ho0) hb); have n1_ := aM (Kd.V_elder' (by (with_reducible repeat (first | apply Kd.V_alloc | apply Kd.V_drewN | apply Kd.V_drew)); exact HL263_0.out) (Kd.R_base ho0) hb); have n2_ := aM (Kd.R_lower (Kd.R_newM (M := fun k_ => (w.heap.size ≤ k_)) ho0 (below_size (by repeat (first | (with_reducible first | exact HB.out | apply wA | apply wN | apply wD) | exact HB.out))) (fun k_ h_ => h_)) (below_size (by repeat (first | (with_reducible first | exact HB.out | apply wA | apply wN | apply wD) | exact HB.out)))); have n3_ := aM (Kd.C_below (by repeat (first | (with_reducible exact HR263_0.out) | (with_reducible refine Kd.C_alloc ?_ _) | (with_reducible refine Kd.C_drewN ?_ _) | (with_reducible refine Kd.C_drew ?_) | exact HR263_0.out)) hb); have n4_ := aM (below_step (by repeat (first | (with_reducible first | exact HB.out | apply wA | apply wN | apply wD) | exact HB.out)) hb); clear HO_53; clear HL263_0; clear HR263_0; clear HB; have HO_53 := n0_; have HL263_0 := n1_; have HO267 := n2_; have HR263_0 := n3_; have HB := n4_; clear n0_ n1_ n2_ n3_ n4_; (try clear hb); (try clear hb2); (try clear hk); (try clear hi); (try clear hge_); (try clear ho0)) | ((with_reducible refine gate_callee (f := 21) rfl ?_); refine goesL_ (some 68) rfl rfl Try.func21 (by kernel_rfl) rfl #[.slice A0 l0.length c0, .slice A263_0 (rd_L4 y260 x55_3).length c263_0] rfl (by (try simp only [List.map_toArray, List.map_cons, List.map_nil]); first | done | rfl | (simp only [List.length_drop, List.length_take]; rfl)) ?_; (with_reducible refine (rollbacknetref07_Apply.calls k3 _ _ l0 _ _ (rd_L4 y260 x55_3) t268 t269 _ ?side1 ?side2 ?side3 ?side4 A31.out).mono ?_); (case side1 => repeat (first | exact (Kd.C_below HR0.out HB.out) | (with_reducible refine Kd.C_alloc ?_ _) | (with_reducible refine Kd.C_drewN ?_ _) | (with_reducible refine Kd.C_drew ?_))); (case side2 => exact HC0.out); (case side3 => repeat (first | exact (by repeat (first | (with_reducible exact HR263_0.out) | (with_reducible refine Kd.C_alloc ?_ _) | (with_reducible refine Kd.C_drewN ?_ _) | (with_reducible refine Kd.C_drew ?_) | exact HR263_0.out)) | (with_reducible refine Kd.C_alloc ?_ _) | (with_reducible refine Kd.C_drewN ?_ _) | (with_reducible refine Kd.C_drew ?_))); (case side4 => exact HC263_0.out); rintro e w44 ⟨v270, rfl, ho0, hb⟩; refine ⟨_, rfl, ?_⟩; have n0_ := aM (Kd.N_elder' (by (with_reducible repeat (first | apply Kd.N_alloc | apply Kd.N_drewN | apply Kd.N_drew)); exact HO_53.out) (Kd.R_base ho0) hb); have n1_ := aM (Kd.V_elder' (by (with_reducible repeat (first | apply Kd.V_alloc | apply Kd.V_drewN | apply Kd.V_drew)); exact HL263_0.out) (Kd.R_base ho0) hb); have n2_ := aM (Kd.R_elder' (by (with_reducible repeat (first | apply Kd.R_alloc | apply Kd.R_drewN | apply Kd.R_drew)); exact HO267.out) (Kd.R_base ho0) hb); have n3_ := aM (Kd.R_lower (Kd.R_new' (Kd.R_newM (M := fun k_ => (w.heap.size ≤ k_)) ho0 (below_size (by repeat (first | (with_reducible first | exact HB.out | apply wA | apply wN | apply wD) | exact HB.out))) (fun k_ h_ => h_)) (Kd.R_lt (by (with_reducible repeat (first | apply Kd.R_alloc | apply Kd.R_drewN | apply Kd.R_drew)); exact HO267.out))) (below_size (by repeat (first | (with_reducible first | exact HB.out | apply wA | apply wN | apply wD) | exact HB.out)))); have n4_ := aM (Kd.C_below (by repeat (first | (with_reducible exact HR263_0.out) | (with_reducible refine Kd.C_alloc ?_ _) | (with_reducible refine Kd.C_drewN ?_ _) | (with_reducible refine Kd.C_drew ?_) | exact HR263_0.out)) hb); have n5_ := aM (below_step (by repeat (first | (with_reducible first | exact HB.out | apply wA | apply wN | apply wD) | exact HB.out)) hb); clear HO_53; clear HL263_0; clear HO267; clear HR263_0; clear HB; have HO_53 := n0_; have HL263_0 := n1_; have HO267 := n2_; have HO271 := n3_; have HR263_0 := n4_; have HB := n5_; clear n0_ n1_ n2_ n3_ n4_ n5_; (try clear hb); (try clear hb2); (try clear hk); (try clear hi); (try clear hge_); (try clear ho0)))
               go_ret
               exact ⟨by first | rfl | (simp [errW_none, errW_some] <;> rfl) | (simp [*, errW_none, errW_some] <;> rfl), by repeat (first | (with_reducible first | exact HB.out | apply wA | apply wN | apply wD) | exact HB.out)⟩
             ·rw [if_neg c29] at H
              exact absurd H (by simp)
            ·rw [if_neg c28] at H
             exact absurd H (by simp)
           ·rw [if_neg c27] at H
            have c27b0 : decide (x55_3 < (y260.length : Int)) = false := decide_eq_false c27
            (try simp only [hl5_2] at c27b0)
            clear c27
            obtain rfl := Option.some.inj H
            go_wp2
            go_ret
            exact ⟨by first | rfl | (simp [errW_none, errW_some] <;> rfl) | (simp [*, errW_none, errW_some] <;> rfl), by repeat (first | (with_reducible first | exact HB.out | apply wA | apply wN | apply wD) | exact HB.out)⟩
     ·rw [if_neg c9] at H
      exact absurd H (by simp)
 ·replace c4 := Bool.eq_false_iff.mpr c4
  subst c4
  have H1 : (some false) = some r := by rw [if_neg (show ¬ (false = true) by decide)] at H; exact H
  clear H
  have H := H1
  clear H1
  obtain rfl := Option.some.inj H
  go_enter Try.func5, Try.ntmps5
  go_wp2_with (first | ((with_reducible refine gate_callee (f := 9) rfl ?_); refine goesL_ (some 13) rfl rfl Try.func9 (by kernel_rfl) rfl #[] rfl (by (try simp only [List.map_toArray, List.map_cons, List.map_nil]); first | done | rfl | (simp only [List.length_drop, List.length_take]; rfl)) ?_; (with_reducible refine (rollbacknetlaw07_awake.calls k  false _ A3.out).mono ?_); rintro e w45 ⟨rfl, hb⟩; refine ⟨_, rfl, ?_⟩; have n0_ := aM (Kd.V_below (by (with_reducible repeat (first | apply Kd.V_alloc | apply Kd.V_drewN | apply Kd.V_drew)); exact HO1.out) hb); have n1_ := aM (below_step (by repeat (first | (with_reducible first | exact HB.out | apply wA | apply wN | apply wD) | exact HB.out)) hb); clear HO1; clear HB; have HO1 := n0_; have HB := n1_; clear n0_ n1_; (try clear hb); (try clear hb2); (try clear hk); (try clear hi); (try clear hge_)))
  go_ret
  exact ⟨by first | rfl | (simp [errW_none, errW_some] <;> rfl) | (simp [*, errW_none, errW_some] <;> rfl), by repeat (first | (with_reducible first | exact HB.out | apply wA | apply wN | apply wD) | exact HB.out)⟩

end Go.Proofs.Ytkjnledamamniaa.PIm
