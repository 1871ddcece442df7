-- Laid by wip/tools/xprint.py, a program of this session over the kit's print: functions as Lean functions, each with its contract.
import Derived.Test.YtkjnledamamniaaPImx0
import Derived.Test.YtkjnledamamniaaPImx12
namespace Go.Proofs.Ytkjnledamamniaa.PIm
open Go.RowKit Go.Proofs.YtkjnledamamniaaW.PrintWords Go.Proofs.YtkjnledamamniaaW.PrintLast Go.Proofs.YtkjnledamamniaaW.PrintMore
attribute [local go_sem] max2_int min2_int max_two min_two max_three min_three max_four min_four   -- for this text's walks alone
set_option linter.unusedVariables false
set_option linter.unusedSimpArgs false

/-! ### rollbacknetref07_Apply: function 21 -/
mutual
def rollbacknetref07_Apply.l0 : Nat → List Int → List (S28) → List Int → Int → Option (List Int × Int)
 | 0, _, _, _, _ => none
 | k + 1, x0, x1, x6, x7 => if x7 < (x1.length : Int) then (if 0 ≤ x7 then (if ((rd_T28 x1 x7).f0) < 0 then (rollbacknetref07_Apply.j1 k x0 x1 x6 x7 ((rd_T28 x1 x7).f0) true) else ((rollbacknetref07_Count.f x0).bind fun t242 => (rollbacknetref07_Apply.j1 k x0 x1 x6 x7 ((rd_T28 x1 x7).f0) (decide (((rd_T28 x1 x7).f0) ≥ t242))))) else (none)) else (some (x6, 0))
def rollbacknetref07_Apply.j1 : Nat → List Int → List (S28) → List Int → Int → Int → Bool → Option (List Int × Int)
 | 0, _, _, _, _, _, _ => none
 | k + 1, x0, x1, x6, x7, x8, x30 => if x30 = true then (some (([] : List Int), 3)) else (if 0 ≤ x7 then (if x7 < (x1.length : Int) then ((rollbacknetref07_page.f x0 x8).bind fun t244 => (if (((rd_T28 x1 x7).f1).length : Int) = (t244.length : Int) then (rollbacknetref07_Apply.l1 k x0 x1 x6 x7 x8 0) else (some (([] : List Int), 7)))) else (none)) else (none))
def rollbacknetref07_Apply.l1 : Nat → List Int → List (S28) → List Int → Int → Int → Int → Option (List Int × Int)
 | 0, _, _, _, _, _, _ => none
 | k + 1, x0, x1, x6, x7, x8, x9 => if 0 ≤ x7 then (if x7 < (x1.length : Int) then (if x9 < (((rd_T28 x1 x7).f1).length : Int) then (if 0 ≤ x9 then (if 0 ≤ (wrap64 ((wrap64 (x8 * 4)) + x9)) then (if (wrap64 ((wrap64 (x8 * 4)) + x9)) < (x6.length : Int) then (rollbacknetref07_Apply.l1 k x0 x1 (x6.set ((wrap64 ((wrap64 (x8 * 4)) + x9)) : Int).toNat (rd ((rd_T28 x1 x7).f1) x9)) x7 x8 (wrap64 (x9 + 1))) else (none)) else (none)) else (none)) else (rollbacknetref07_Apply.l0 k x0 x1 x6 (wrap64 (x7 + 1)))) else (none)) else (none)
end
def rollbacknetref07_Apply.f (k : Nat) (l0 : List Int) (l1 : List (S28)) : Option (List Int × Int) := if ([] : List Int).length + l0.length < 17592186044416 then (rollbacknetref07_Apply.l0 k l0 l1 (([] : List Int) ++ l0) 0) else (none)
theorem rollbacknetref07_Apply.mono_l : ∀ k, (∀ y0 y1 y2 y3, LeO (rollbacknetref07_Apply.l0 k y0 y1 y2 y3) (rollbacknetref07_Apply.l0 (k + 1) y0 y1 y2 y3)) ∧ (∀ y0 y1 y2 y3 y4 y5, LeO (rollbacknetref07_Apply.j1 k y0 y1 y2 y3 y4 y5) (rollbacknetref07_Apply.j1 (k + 1) y0 y1 y2 y3 y4 y5)) ∧ (∀ y0 y1 y2 y3 y4 y5, LeO (rollbacknetref07_Apply.l1 k y0 y1 y2 y3 y4 y5) (rollbacknetref07_Apply.l1 (k + 1) y0 y1 y2 y3 y4 y5))
 | 0 => ⟨fun _ _ _ _ r h => by simp [rollbacknetref07_Apply.l0] at h, fun _ _ _ _ _ _ r h => by simp [rollbacknetref07_Apply.j1] at h, fun _ _ _ _ _ _ r h => by simp [rollbacknetref07_Apply.l1] at h⟩
 | k + 1 => by
  obtain ⟨ih0, ih1, ih2⟩ := rollbacknetref07_Apply.mono_l k
  refine ⟨?_, ?_, ?_⟩
  ·intro y0 y1 y2 y3
   unfold rollbacknetref07_Apply.l0
   repeat' first
   | (with_reducible exact ih0 _ _ _ _)
   | (with_reducible exact ih1 _ _ _ _ _ _)
   | (with_reducible exact ih2 _ _ _ _ _ _)
   | (with_reducible exact LeO.refl _)
   | (with_reducible exact LeO.none _)
   | (with_reducible refine LeO.ite ?_ ?_)
   | (with_reducible refine LeO.bind ?_ (fun _ => ?_))
   | exact ih0 _ _ _ _
   | exact ih1 _ _ _ _ _ _
   | exact ih2 _ _ _ _ _ _
   | exact LeO.none _
   | refine LeO.ite ?_ ?_
   | refine LeO.bind ?_ (fun _ => ?_)
  ·intro y0 y1 y2 y3 y4 y5
   unfold rollbacknetref07_Apply.j1
   repeat' first
   | (with_reducible exact ih0 _ _ _ _)
   | (with_reducible exact ih1 _ _ _ _ _ _)
   | (with_reducible exact ih2 _ _ _ _ _ _)
   | (with_reducible exact LeO.refl _)
   | (with_reducible exact LeO.none _)
   | (with_reducible refine LeO.ite ?_ ?_)
   | (with_reducible refine LeO.bind ?_ (fun _ => ?_))
   | exact ih0 _ _ _ _
   | exact ih1 _ _ _ _ _ _
   | exact ih2 _ _ _ _ _ _
   | exact LeO.none _
   | refine LeO.ite ?_ ?_
   | refine LeO.bind ?_ (fun _ => ?_)
  ·intro y0 y1 y2 y3 y4 y5
   unfold rollbacknetref07_Apply.l1
   repeat' first
   | (with_reducible exact ih0 _ _ _ _)
   | (with_reducible exact ih1 _ _ _ _ _ _)
   | (with_reducible exact ih2 _ _ _ _ _ _)
   | (with_reducible exact LeO.refl _)
   | (with_reducible exact LeO.none _)
   | (with_reducible refine LeO.ite ?_ ?_)
   | (with_reducible refine LeO.bind ?_ (fun _ => ?_))
   | exact ih0 _ _ _ _
   | exact ih1 _ _ _ _ _ _
   | exact ih2 _ _ _ _ _ _
   | exact LeO.none _
   | refine LeO.ite ?_ ?_
   | refine LeO.bind ?_ (fun _ => ?_)
theorem rollbacknetref07_Apply.mono : ∀ a0 a1 k, LeO (rollbacknetref07_Apply.f k a0 a1) (rollbacknetref07_Apply.f (k + 1) a0 a1) := by
 intro a0 a1 k
 obtain ⟨ih0, ih1, ih2⟩ := rollbacknetref07_Apply.mono_l k
 unfold rollbacknetref07_Apply.f
 repeat' first
   | (with_reducible exact ih0 _ _ _ _)
   | (with_reducible exact ih1 _ _ _ _ _ _)
   | (with_reducible exact ih2 _ _ _ _ _ _)
   | (with_reducible exact LeO.refl _)
   | (with_reducible exact LeO.none _)
   | (with_reducible refine LeO.ite ?_ ?_)
   | (with_reducible refine LeO.bind ?_ (fun _ => ?_))
   | exact ih0 _ _ _ _
   | exact ih1 _ _ _ _ _ _
   | exact ih2 _ _ _ _ _ _
   | exact LeO.none _
   | refine LeO.ite ?_ ?_
   | refine LeO.bind ?_ (fun _ => ?_)
def rollbacknetref07_Apply.T8 : Bool × List (List Nat × List Nat) := (true, [([], []), ([], []), ([0, 1], [0, 1]), ([2], [2]), ([3], [3]), ([4], [4]), ([], []), ([], []), ([6, 7], [6, 7]), ([8], [8]), ([5, 9], [5, 9])])
def rollbacknetref07_Apply.B8 : List Nat := [0, 0, 3, 7, 15, 31, 0, 0, 192, 448, 1023]
theorem rollbacknetref07_Apply.tab8 : rtab .any (opsOf Try.f21 8) = rollbacknetref07_Apply.T8 := by kernel_rfl
theorem rollbacknetref07_Apply.bits8 : waitsOk rollbacknetref07_Apply.T8.2 rollbacknetref07_Apply.B8 = true := by kernel_rfl
set_option maxHeartbeats 8000000 in
set_option maxRecDepth 100000 in
theorem rollbacknetref07_Apply.calls (k : Nat) (A0 : Option Addr) (c0 : Nat) (l0 : List Int) (A1 : Option Addr) (c1 : Nat) (l1 : List (S28)) (r1 : List Int) (r2 : Int) (w : World) (hr0 : Kd.C (Kd.int .i64) w A0 l0.length l0) (hc0 : l0.length ≤ c0) (hr1 : Kd.C k28 w A1 l1.length l1) (hc1 : l1.length ≤ c1) (h : rollbacknetref07_Apply.f k l0 l1 = some (r1, r2)) :
  Calls Try.prog 21 #[.slice A0 l0.length c0, .slice A1 l1.length c1] w fun e w' => ∃ v0_ : Value, e = .returned (.tuple #[v0_, .int .i64 r2]) ∧ Kd.R (Kd.int .i64) 3 w' w.heap.size (fun _ => True) v0_ r1 ∧ Below w.heap.size w w' := by
 have HR0 := aM hr0
 have HC0 := aM hc0
 clear hr0 hc0
 have HR1 := aM hr1
 have HC1 := aM hc1
 clear hr1 hc1
 have HB := aM (Below.refl w.heap.size w)
 have H : (if ([] : List Int).length + l0.length < 17592186044416 then (rollbacknetref07_Apply.l0 k l0 l1 (([] : List Int) ++ l0) 0) else (none)) = some (r1, r2) := h
 clear h
 by_cases c3 : ([] : List Int).length + l0.length < 17592186044416
 ·rw [if_pos c3] at H
  have LMc3 := aM c3
  clear c3
  obtain ⟨y238, hy238⟩ : ∃ y_ : List Int, y_ = (([] : List Int) ++ l0) := ⟨_, rfl⟩
  replace H : (rollbacknetref07_Apply.l0 k l0 l1 y238 0) = some (r1, r2) := by first | (rw [hy238]; with_reducible exact H) | (have H2_ := (Option.bind_some _ _).symm.trans H; rw [hy238]; with_reducible exact H2_) | (have H2_ := (Option.bind_some _ _).symm.trans H; with_reducible exact H2_) | with_reducible exact H | (rw [hy238]; exact H) | exact H
  have Ny238 := aM hy238
  clear hy238
  have H' := aM H
  clear H
  go_enter Try.func21, Try.ntmps21
  go_wp2_with (first | ((with_reducible refine gate_builtin (b := .append) (xs := #[(.const (.slice none 0 0)), .tmp 10]) rfl ?_); at_builtin; refine Kd.R_append_rows (Kd.int .i64) (w0 := w) w.heap.size rfl (.const (.slice none 0 0)) (.tmp 10) 22 3 (.int .i64 0) 8 rfl Try.underlying22 info3 rfl (by decide) (by omega) (.slice none 0 0) ([] : List Int) l0 _ _ _ (fun _ => True) (fun _ => False) rfl rfl ?aO ?aR (fun _ _ h => h) (fun _ h => h.elim) ?aF ?aB ?aS ?aL ?_; (case aR => repeat (first | exact HR0.out | (with_reducible refine Kd.C_alloc ?_ _) | (with_reducible refine Kd.C_drewN ?_ _) | (with_reducible refine Kd.C_drew ?_))); (case aB => exact (by repeat (first | (with_reducible first | exact HB.out | apply wA | apply wN | apply wD) | exact HB.out))); (case aF => exact (fun _ _ => trivial)); (case aO => exact ((Kd.R_nil _ _ _ _ (fun _ => True)))); (case aS => exact (below_size (by repeat (first | (with_reducible first | exact HB.out | apply wA | apply wN | apply wD) | exact HB.out)))); (case aL => have := LMc3.out; omega); intro v239 w4 ho hb hg hat; rw [← Ny238.out] at ho; have n0_ := aM (hb); have n1_ := aM (ho); clear HB; have HB := n0_; have HO240 := n1_; clear n0_ n1_; clear ho hb hg hat))
  go_loopg [7] k (fun kq v7 w' => ∃ (x6_1 : List Int) (x7_1 : Int), v7 = .int .i64 x7_1 ∧ Aside0 (rollbacknetref07_Apply.l0 kq l0 l1 x6_1 x7_1 = some (r1, r2)) ∧ Aside0 (kq ≤ k) ∧ Aside0 (Kd.R (Kd.int .i64) 3 w' w.heap.size (fun _ => True) v239 x6_1) ∧ Aside0 (Below w.heap.size w w'))
  case atStart => exact ⟨(y238), (0), (by first | rfl | (simp; done) | (simp [*]; done)), H', ⟨Nat.le_refl _⟩, ⟨by (with_reducible repeat (first | apply Kd.R_alloc | apply Kd.R_drewN | apply Kd.R_drew)); exact HO240.out⟩, ⟨by repeat (first | (with_reducible first | exact HB.out | apply wA | apply wN | apply wD) | exact HB.out)⟩⟩
  case round =>
   clear H'
   try clear c1
   try clear c2
   try clear p2
   try clear c3
   obtain ⟨x6_1, x7_1, rfl, HA, HK1, HO_6, HB⟩ := hrel
   cases gk with
   | zero => exact absurd HA.out (by simp [rollbacknetref07_Apply.l0])
   | succ k1 =>
    have H := HA.out
    clear HA
    simp only [rollbacknetref07_Apply.l0] at H
    by_cases c5 : x7_1 < (l1.length : Int)
    ·rw [if_pos c5] at H
     have c5b0 : decide (x7_1 < (l1.length : Int)) = true := decide_eq_true c5
     clear c5
     by_cases c6 : 0 ≤ x7_1
     ·rw [if_pos c6] at H
      have c6b0 : decide (0 ≤ x7_1) = true := decide_eq_true c6
      clear c6
      have HC7 := aM H
      clear H
      have p241 : 0 ≤ (x7_1 : Int) := of_decide_eq_true (by first | (with_reducible assumption) | assumption)
      have q241 : x7_1 < (l1.length : Int) := of_decide_eq_true (by first | (with_reducible assumption) | assumption)
      obtain ⟨ad241, A241_1, c241_1, e241, hx241_0, hx241_1, hl241_1, hi241_1⟩ := at_T28 HR1.out x7_1 p241 q241
      cases e241
      replace hx241_0 := (HB.out.cell (World.block_lt_of_cell? w _ hx241_0)).trans hx241_0
      replace hx241_1 := (HB.out.cell (World.block_lt_of_cell? w _ hx241_1)).trans hx241_1
      have HR241_1 := aM hi241_1
      have HC241_1 := aM hl241_1
      clear hi241_1 hl241_1
      replace p241 := eq_true p241
      replace q241 := eq_true q241
      go_upto_region 6 with (fail)
      go_cut [30] (fun v30 wc => ∃ (kq : Nat) (x30_6 : Bool), v30 = .bool x30_6 ∧ Aside0 (rollbacknetref07_Apply.j1 kq l0 l1 x6_1 x7_1 ((rd_T28 l1 x7_1).f0) x30_6 = some (r1, r2)) ∧ Aside0 (kq ≤ k1) ∧ Aside0 (Kd.R (Kd.int .i64) 3 wc w.heap.size (fun _ => True) v239 x6_1) ∧ Aside0 (Below w.heap.size w wc))
      case first =>
       have H := HC7.out
       clear HC7
       by_cases c8 : ((rd_T28 l1 x7_1).f0) < 0
       ·rw [if_pos c8] at H
        have c8b0 : decide (((rd_T28 l1 x7_1).f0) < 0) = true := decide_eq_true c8
        clear c8
        (first | rw [c8b0] | (simp only [i64_w, i32_w]; rw [c8b0]) | skip)
        have H' := aM H
        clear H
        go_wp2
        go_meet
        case rel => exact ⟨_, (true), (by first | rfl | (simp; done) | (simp [*]; done)), H', ⟨by have := HK1.out; first | omega | exact Nat.le_refl _⟩, ⟨by (with_reducible repeat (first | apply Kd.R_alloc | apply Kd.R_drewN | apply Kd.R_drew)); exact HO_6.out⟩, ⟨by repeat (first | (with_reducible first | exact HB.out | apply wA | apply wN | apply wD) | exact HB.out)⟩⟩
       ·rw [if_neg c8] at H
        have c8b0 : decide (((rd_T28 l1 x7_1).f0) < 0) = false := decide_eq_false c8
        clear c8
        (first | rw [c8b0] | (simp only [i64_w, i32_w]; rw [c8b0]) | skip)
        replace H := Option.bind_eq_some_iff.mp H
        obtain ⟨t242, A90, H⟩ := H
        replace H : (rollbacknetref07_Apply.j1 k1 l0 l1 x6_1 x7_1 ((rd_T28 l1 x7_1).f0) (decide (((rd_T28 l1 x7_1).f0) ≥ t242))) = some (r1, r2) := H
        have A9 := aM A90
        clear A90
        have H' := aM H
        clear H
        go_wp2_with (first | (go_at_call 19; (with_reducible refine (rollbacknetref07_Count.calls _ _ l0 t242 _ ?side1 ?side2 A9.out).mono ?_); (case side1 => repeat (first | exact (Kd.C_below HR0.out HB.out) | (with_reducible refine Kd.C_alloc ?_ _) | (with_reducible refine Kd.C_drewN ?_ _) | (with_reducible refine Kd.C_drew ?_))); (case side2 => exact HC0.out); rintro e w' ⟨rfl, ⟨nd, rfl⟩⟩))
        go_meet
        case rel => exact ⟨_, (decide (((rd_T28 l1 x7_1).f0) ≥ t242)), (by first | rfl | (simp; done) | (simp [*]; done)), H', ⟨by have := HK1.out; first | omega | exact Nat.le_refl _⟩, ⟨by (with_reducible repeat (first | apply Kd.R_alloc | apply Kd.R_drewN | apply Kd.R_drew)); exact HO_6.out⟩, ⟨by repeat (first | (with_reducible first | exact HB.out | apply wA | apply wN | apply wD) | exact HB.out)⟩⟩
      case rest =>
       clear HC7
       try clear c1
       try clear c2
       try clear p2
       try clear q2
       try clear hx2
       try clear c3
       try clear c5
       try clear c5b0
       try clear c6
       try clear c6b0
       try clear c8
       try clear c8b0
       try clear hx241_0
       try clear hx241_1
       try clear p2
       try clear p241
       try clear q241
       obtain ⟨kq, x30_6, rfl, HA, HJ6, HO_6, HB⟩ := hcut
       cases kq with
       | zero => exact absurd HA.out (by simp [rollbacknetref07_Apply.j1])
       | succ kj6 =>
        have H := HA.out
        clear HA
        simp only [rollbacknetref07_Apply.j1] at H
        by_cases c10 : x30_6 = true
        ·subst c10
         have H1 : (some (([] : List Int), 3)) = some (r1, r2) := by rw [if_pos rfl] at H; exact H
         clear H
         have H := H1
         clear H1
         simp only [Option.some.injEq, Prod.mk.injEq] at H
         obtain ⟨rfl, rfl⟩ := H
         go_wp2
         go_ret2
         exact ⟨_, by first | rfl | (simp [errW_none, errW_some] <;> rfl) | (simp [*, errW_none, errW_some] <;> rfl), by first | exact Kd.R_nil _ _ _ _ _ | exact Kd.N_nil _ _ _ _ _ | exact Kd.V_nil _ _ _ _ _ | exact Kd.Q_nil _ _ _ _ _ | exact Kd.S_nil _ _ _ _ _, by repeat (first | (with_reducible first | exact HB.out | apply wA | apply wN | apply wD) | exact HB.out)⟩
        ·replace c10 := Bool.eq_false_iff.mpr c10
         subst c10
         have H1 : (if 0 ≤ x7_1 then (if x7_1 < (l1.length : Int) then ((rollbacknetref07_page.f l0 ((rd_T28 l1 x7_1).f0)).bind fun t244 => (if (((rd_T28 l1 x7_1).f1).length : Int) = (t244.length : Int) then (rollbacknetref07_Apply.l1 kj6 l0 l1 x6_1 x7_1 ((rd_T28 l1 x7_1).f0) 0) else (some (([] : List Int), 7)))) else (none)) else (none)) = some (r1, r2) := by rw [if_neg (show ¬ (false = true) by decide)] at H; exact H
         clear H
         have H := H1
         clear H1
         by_cases c11 : 0 ≤ x7_1
         ·rw [if_pos c11] at H
          have c11b0 : decide (0 ≤ x7_1) = true := decide_eq_true c11
          clear c11
          by_cases c12 : x7_1 < (l1.length : Int)
          ·rw [if_pos c12] at H
           have c12b0 : decide (x7_1 < (l1.length : Int)) = true := decide_eq_true c12
           clear c12
           replace H := Option.bind_eq_some_iff.mp H
           obtain ⟨t244, A130, H⟩ := H
           replace H : (if (((rd_T28 l1 x7_1).f1).length : Int) = (t244.length : Int) then (rollbacknetref07_Apply.l1 kj6 l0 l1 x6_1 x7_1 ((rd_T28 l1 x7_1).f0) 0) else (some (([] : List Int), 7))) = some (r1, r2) := H
           have A13 := aM A130
           clear A130
           by_cases c14 : (((rd_T28 l1 x7_1).f1).length : Int) = (t244.length : Int)
           ·rw [if_pos c14] at H
            have c14b0 : ((((rd_T28 l1 x7_1).f1).length : Int) == (t244.length : Int)) = true := beq_iff_eq.mpr c14
            have c14b1 : ((((rd_T28 l1 x7_1).f1).length : Int) != (t244.length : Int)) = false := bne_eq_false_iff_eq.mpr c14
            have c14b2 : (((rd_T28 l1 x7_1).f1).length == t244.length) = true := by first | simpa using c14 | (simp at c14 ⊢; omega)
            clear c14
            have H' := aM H
            clear H
            try go_wp2
            have n0_ := aM (Kd.R_drew HO_6.out)
            have n1_ := aM (wD HB.out)
            clear HO_6
            clear HB
            have HO_6 := n0_
            have HB := n1_
            clear n0_ n1_
            have p243 : 0 ≤ (x7_1 : Int) := of_decide_eq_true (by first | (with_reducible assumption) | assumption)
            have q243 : x7_1 < (l1.length : Int) := of_decide_eq_true (by first | (with_reducible assumption) | assumption)
            obtain ⟨ad243, A243_1, c243_1, e243, hx243_0, hx243_1, hl243_1, hi243_1⟩ := at_T28 HR1.out x7_1 p243 q243
            have hw243_1 := hx243_1
            have hw243_0 := hx243_0
            obtain rfl : ad241 = ad243 := (by injection e243)
            replace hx243_0 := (HB.out.cell (World.block_lt_of_cell? w _ hx243_0)).trans hx243_0
            replace hx243_1 := (HB.out.cell (World.block_lt_of_cell? w _ hx243_1)).trans hx243_1
            have HR243_1 := aM hi243_1
            have HC243_1 := aM hl243_1
            clear hi243_1 hl243_1
            replace p243 := eq_true p243
            replace q243 := eq_true q243
            refine start_ (n := 11) (S := fun w' => w'.cell? (ad241.add ((x7_1).toNat * 2)) = some (.int .i64 ((rd_T28 l1 x7_1).f0)) ∧ w'.cell? ⟨(ad241.add ((x7_1).toNat * 2)).block, (ad241.add ((x7_1).toNat * 2)).off + 1, none⟩ = some (.slice A243_1 ((rd_T28 l1 x7_1).f1).length c243_1)) (ds := []) #[false, false, false, false, false, false, false, false, false, false, false] (by kernel_rfl) rfl rfl ⟨((HB.out.cell (World.block_lt_of_cell? w _ hw243_0)).trans hw243_0), ((HB.out.cell (World.block_lt_of_cell? w _ hw243_1)).trans hw243_1)⟩ (fun hHeld => ?_); refine with_tabW rollbacknetref07_Apply.tab8 rollbacknetref07_Apply.bits8 (fun HT_ HW_ => ?_)
            generalize wc.drew = w15 at HO_6 HB HR243_1 hx243_0 hx243_1 hHeld ⊢
            refine pure_ (i := 0) (N := some 31) (v := ?_) (a' := ?_) #[true, false, false, false, false, false, false, false, false, false, false] rfl rfl (any_of HT_.out (by kernel_rfl)) (fun _ _ _ h => h) (Or.inl ⟨by rfl, ?_⟩) ?_ ?_
            rotate_left
            ·intro w'
             go_simp
             with_reducible rfl
            rotate_left
            ·simp only [Act.put, List.setIfInBounds_toArray, List.set_cons_zero, List.set_cons_succ, i64_w, i32_w]
             rfl
            refine pure_ (i := 1) (N := some 32) (v := ?_) (a' := ?_) #[true, true, false, false, false, false, false, false, false, false, false] rfl rfl (any_of HT_.out (by kernel_rfl)) (fun _ _ _ h => h) (Or.inl ⟨by rfl, ?_⟩) ?_ ?_
            rotate_left
            ·intro w'
             go_simp
             with_reducible rfl
            rotate_left
            ·simp only [Act.put, List.setIfInBounds_toArray, List.set_cons_zero, List.set_cons_succ, i64_w, i32_w]
             rfl
            refine pure_ (i := 2) (N := some 33) (v := ?_) (a' := ?_) #[true, true, true, false, false, false, false, false, false, false, false] rfl rfl (any_of HT_.out (by kernel_rfl)) (fun _ _ _ h => h) (Or.inl ⟨by rfl, ?_⟩) ?_ ?_
            rotate_left
            ·intro w'
             go_simp
             with_reducible rfl
            rotate_left
            ·simp only [Act.put, List.setIfInBounds_toArray, List.set_cons_zero, List.set_cons_succ, i64_w, i32_w]
             rfl
            refine pure_ (i := 3) (N := some 34) (v := ?_) (a' := ?_) #[true, true, true, true, false, false, false, false, false, false, false] rfl rfl (any_of HT_.out (by kernel_rfl)) (fun _ _ _ h => h) (Or.inl ⟨by rfl, ?_⟩) ?_ ?_
            rotate_left
            ·intro w'
             go_simp
             with_reducible rfl
            rotate_left
            ·simp only [Act.put, List.setIfInBounds_toArray, List.set_cons_zero, List.set_cons_succ, i64_w, i32_w]
             rfl
            refine pure_ (i := 6) (N := some 37) (v := ?_) (a' := ?_) #[true, true, true, true, false, false, true, false, false, false, false] rfl rfl (any_of HT_.out (by kernel_rfl)) (fun _ _ _ h => h) (Or.inl ⟨by rfl, ?_⟩) ?_ ?_
            rotate_left
            ·intro w'
             go_simp
             with_reducible rfl
            rotate_left
            ·simp only [Act.put, List.setIfInBounds_toArray, List.set_cons_zero, List.set_cons_succ, i64_w, i32_w]
             rfl
            refine pure_ (i := 7) (N := some 38) (v := ?_) (a' := ?_) #[true, true, true, true, false, false, true, true, false, false, false] rfl rfl (any_of HT_.out (by kernel_rfl)) (fun _ _ _ h => h) (Or.inl ⟨by rfl, ?_⟩) ?_ ?_
            rotate_left
            ·intro w'
             go_simp
             with_reducible rfl
            rotate_left
            ·simp only [Act.put, List.setIfInBounds_toArray, List.set_cons_zero, List.set_cons_succ, i64_w, i32_w]
             rfl
            refine take_ (i := 4) (N := some 35) (v := ?_) (a' := ?_) #[true, true, true, true, true, false, true, true, false, false, false] rfl rfl (take_ofW HT_.out HW_.out (by kernel_rfl)) (fun _ _ _ h => h) (Or.inl ⟨by rfl, ?_⟩) hHeld ?_ ?_
            rotate_left
            ·rintro w' ⟨s0, s1⟩
             go_simp
             with_reducible rfl
            rotate_left
            ·simp only [Act.put, List.setIfInBounds_toArray, List.set_cons_zero, List.set_cons_succ, i64_w, i32_w]
             rfl
            refine pure_ (i := 5) (N := some 36) (v := ?_) (a' := ?_) #[true, true, true, true, true, true, true, true, false, false, false] rfl rfl (any_of HT_.out (by kernel_rfl)) (fun _ _ _ h => h) (Or.inl ⟨by rfl, ?_⟩) ?_ ?_
            rotate_left
            ·intro w'
             go_simp
             with_reducible rfl
            rotate_left
            ·simp only [Act.put, List.setIfInBounds_toArray, List.set_cons_zero, List.set_cons_succ, i64_w, i32_w]
             rfl
            refine one_ (i := 8) (N := some 39) #[true, true, true, true, true, true, true, true, true, false, false] rfl rfl (one_of HT_.out (by kernel_rfl)) (by decide) (fun K hK => ?_)
            refine goes_ Try.func30 (by kernel_rfl) rfl #[.slice A0 l0.length c0, .int .i64 ((rd_T28 l1 x7_1).f0)] (by rfl) rfl rfl (by (try simp only [List.map_toArray, List.map_cons, List.map_nil]); first | done | rfl | (simp only [List.length_drop, List.length_take]; rfl)) ?_
            with_reducible refine (rollbacknetref07_page.calls (fun k_ => k_ < w.heap.size) _ _ l0 ((rd_T28 l1 x7_1).f0) t244 _ ?side1 A13.out).mono ?_
            (case side1 => exact Kd.V_mk HC0.out (Kd.F_below (Kd.C_F (Kd.heap_int .i64) HR0.out) (by repeat (first | (with_reducible first | exact HB.out | apply wA | apply wN | apply wD) | exact HB.out))))
            rintro e w16 ⟨v245, rfl, ho0, hb⟩
            refine ⟨_, rfl, ?_⟩
            have n0_ := aM (Kd.R_below (by (with_reducible repeat (first | apply Kd.R_alloc | apply Kd.R_drewN | apply Kd.R_drew)); exact HO_6.out) hb)
            have n1_ := aM (Kd.V_lower (Kd.V_mono (ok' := fun k_ => some k_ ≠ (v239 : Value).ownBlock) ho0 (fun k_ hk_ => Or.elim hk_ (fun hs_ => fun e_ => Nat.not_le.2 hs_ (Kd.R_base HO_6.out k_ e_.symm)) (fun hn_ => (Kd.fresh' (Kd.R_lt (by (with_reducible repeat (first | apply Kd.R_alloc | apply Kd.R_drewN | apply Kd.R_drew)); exact HO_6.out)) k_ hn_)))) (below_size (by repeat (first | (with_reducible first | exact HB.out | apply wA | apply wN | apply wD) | exact HB.out))))
            have n2_ := aM (below_step (by repeat (first | (with_reducible first | exact HB.out | apply wA | apply wN | apply wD) | exact HB.out)) hb)
            clear HO_6
            clear HB
            have HO_6 := n0_
            have HO246 := n1_
            have HB := n2_
            clear n0_ n1_ n2_
            (try clear hb)
            (try clear hb2)
            (try clear hk)
            (try clear hi)
            (try clear hge_)
            (try clear ho0)
            obtain ⟨Ao17, co17, eo17⟩ := Kd.V_slice HO246.out
            (first | subst eo17 | (injection eo17 with f1_ f2_ f3_; have f4_ := f1_.symm; have f5_ := f3_.symm; clear f1_ f2_ f3_; subst f4_; subst f5_))
            refine hK.out _ _ ⟨((HB.out.cell (World.block_lt_of_cell? w _ hw243_0)).trans hw243_0), ((HB.out.cell (World.block_lt_of_cell? w _ hw243_1)).trans hw243_1)⟩ (fun hHeld => ?_)
            clear hK K
            refine norm_ (a' := ?_) ?_ ?_
            rotate_left
            ·show Act.put _ (some 39) _ = _
             simp only [Act.put, List.setIfInBounds_toArray, List.set_cons_zero, List.set_cons_succ, i64_w, i32_w]
             rfl
            refine pure_ (i := 9) (N := some 40) (v := ?_) (a' := ?_) #[true, true, true, true, true, true, true, true, true, true, false] rfl rfl (any_of HT_.out (by kernel_rfl)) (fun _ _ _ h => h) (Or.inl ⟨by rfl, ?_⟩) ?_ ?_
            rotate_left
            ·intro w'
             go_simp
             with_reducible rfl
            rotate_left
            ·simp only [Act.put, List.setIfInBounds_toArray, List.set_cons_zero, List.set_cons_succ, i64_w, i32_w]
             rfl
            refine pure_ (i := 10) (N := some 41) (v := ?_) (a' := ?_) #[true, true, true, true, true, true, true, true, true, true, true] rfl rfl (any_of HT_.out (by kernel_rfl)) (fun _ _ _ h => h) (Or.inl ⟨by rfl, ?_⟩) ?_ ?_
            rotate_left
            ·intro w'
             go_simp
             with_reducible rfl
            rotate_left
            ·simp only [Act.put, List.setIfInBounds_toArray, List.set_cons_zero, List.set_cons_succ, i64_w, i32_w]
             rfl
            refine done_ (done_of HT_.out (by kernel_rfl)) ?_
            try go_wp2
            go_loopg [9] kj6 (fun kq v9 w' => ∃ (x6_3 : List Int) (x9_3 : Int), v9 = .int .i64 x9_3 ∧ Aside0 (rollbacknetref07_Apply.l1 kq l0 l1 x6_3 x7_1 ((rd_T28 l1 x7_1).f0) x9_3 = some (r1, r2)) ∧ Aside0 (kq ≤ kj6) ∧ Aside0 (Kd.R (Kd.int .i64) 3 w' w.heap.size (fun _ => True) v239 x6_3) ∧ Aside0 (Below w.heap.size w w'))
            case atStart => exact ⟨(x6_1), (0), (by first | rfl | (simp; done) | (simp [*]; done)), H', ⟨Nat.le_refl _⟩, ⟨by (with_reducible repeat (first | apply Kd.R_alloc | apply Kd.R_drewN | apply Kd.R_drew)); exact HO_6.out⟩, ⟨by repeat (first | (with_reducible first | exact HB.out | apply wA | apply wN | apply wD) | exact HB.out)⟩⟩
            case round =>
             clear H'
             try clear c1
             try clear c2
             try clear p2
             try clear q2
             try clear hx2
             try clear c3
             try clear c5
             try clear c5b0
             try clear c6
             try clear c6b0
             try clear c8
             try clear c8b0
             try clear c10
             try clear c11
             try clear c11b0
             try clear c12
             try clear c12b0
             try clear c14
             try clear c14b0
             try clear c14b1
             try clear c14b2
             try clear hx241_0
             try clear hx241_1
             try clear hx243_0
             try clear hx243_1
             try clear p2
             try clear p241
             try clear p243
             try clear q2
             try clear q241
             try clear q243
             obtain ⟨x6_3, x9_3, rfl, HA, HK3, HO_6, HB⟩ := hrel
             cases gk with
             | zero => exact absurd HA.out (by simp [rollbacknetref07_Apply.l1])
             | succ k3 =>
              have H := HA.out
              clear HA
              simp only [rollbacknetref07_Apply.l1] at H
              by_cases c18 : 0 ≤ x7_1
              ·rw [if_pos c18] at H
               have c18b0 : decide (0 ≤ x7_1) = true := decide_eq_true c18
               clear c18
               by_cases c19 : x7_1 < (l1.length : Int)
               ·rw [if_pos c19] at H
                have c19b0 : decide (x7_1 < (l1.length : Int)) = true := decide_eq_true c19
                clear c19
                by_cases c20 : x9_3 < (((rd_T28 l1 x7_1).f1).length : Int)
                ·rw [if_pos c20] at H
                 have c20b0 : decide (x9_3 < (((rd_T28 l1 x7_1).f1).length : Int)) = true := decide_eq_true c20
                 clear c20
                 by_cases c21 : 0 ≤ x9_3
                 ·rw [if_pos c21] at H
                  have c21b0 : decide (0 ≤ x9_3) = true := decide_eq_true c21
                  clear c21
                  obtain ⟨ji22, hji22⟩ : ∃ j_ : Int, (wrap64 ((wrap64 (((rd_T28 l1 x7_1).f0) * 4)) + x9_3)) = j_ := ⟨_, rfl⟩
                  replace H : (if 0 ≤ (ji22) then (if (ji22) < (x6_3.length : Int) then (rollbacknetref07_Apply.l1 k3 l0 l1 (x6_3.set ((ji22) : Int).toNat (rd ((rd_T28 l1 x7_1).f1) x9_3)) x7_1 ((rd_T28 l1 x7_1).f0) (wrap64 (x9_3 + 1))) else (none)) else (none)) = some (r1, r2) := by first | (rw [hji22] at H; exact H) | (simp only [hji22] at H ⊢; exact H)
                  have hji22w : (IntKind.i64.wrap ((wrap64 (((rd_T28 l1 x7_1).f0) * 4)) + x9_3)) = ji22 := (i64_w _).trans hji22
                  by_cases c23 : 0 ≤ (ji22)
                  ·rw [if_pos c23] at H
                   have c23b0 : decide (0 ≤ (ji22)) = true := decide_eq_true c23
                   clear c23
                   by_cases c24 : (ji22) < (x6_3.length : Int)
                   ·rw [if_pos c24] at H
                    have c24b0 : decide ((ji22) < (x6_3.length : Int)) = true := decide_eq_true c24
                    clear c24
                    obtain ⟨y250, hy250⟩ : ∃ y_ : List Int, y_ = (x6_3.set ((ji22) : Int).toNat (rd ((rd_T28 l1 x7_1).f1) x9_3)) := ⟨_, rfl⟩
                    replace H : (rollbacknetref07_Apply.l1 k3 l0 l1 y250 x7_1 ((rd_T28 l1 x7_1).f0) (wrap64 (x9_3 + 1))) = some (r1, r2) := by first | (rw [hy250]; with_reducible exact H) | (have H2_ := (Option.bind_some _ _).symm.trans H; rw [hy250]; with_reducible exact H2_) | (have H2_ := (Option.bind_some _ _).symm.trans H; with_reducible exact H2_) | with_reducible exact H | (rw [hy250]; exact H) | exact H
                    have Ny250 := aM hy250
                    clear hy250
                    have H' := aM H
                    clear H
                    have p247 : 0 ≤ (x7_1 : Int) := of_decide_eq_true (by first | (with_reducible assumption) | assumption)
                    have q247 : x7_1 < (l1.length : Int) := of_decide_eq_true (by first | (with_reducible assumption) | assumption)
                    obtain ⟨ad247, A247_1, c247_1, e247, hx247_0, hx247_1, hl247_1, hi247_1⟩ := at_T28 HR1.out x7_1 p247 q247
                    obtain rfl : ad241 = ad247 := (by injection e247)
                    replace hx247_0 := (HB.out.cell (World.block_lt_of_cell? w _ hx247_0)).trans hx247_0
                    replace hx247_1 := (HB.out.cell (World.block_lt_of_cell? w _ hx247_1)).trans hx247_1
                    have HR247_1 := aM hi247_1
                    have HC247_1 := aM hl247_1
                    clear hi247_1 hl247_1
                    replace p247 := eq_true p247
                    replace q247 := eq_true q247
                    have p248 : 0 ≤ (x7_1 : Int) := of_decide_eq_true (by first | (with_reducible assumption) | assumption)
                    have q248 : x7_1 < (l1.length : Int) := of_decide_eq_true (by first | (with_reducible assumption) | assumption)
                    obtain ⟨ad248, A248_1, c248_1, e248, hx248_0, hx248_1, hl248_1, hi248_1⟩ := at_T28 HR1.out x7_1 p248 q248
                    obtain rfl : ad241 = ad248 := (by injection e248)
                    replace hx248_0 := (HB.out.cell (World.block_lt_of_cell? w _ hx248_0)).trans hx248_0
                    replace hx248_1 := (HB.out.cell (World.block_lt_of_cell? w _ hx248_1)).trans hx248_1
                    have HR248_1 := aM hi248_1
                    have HC248_1 := aM hl248_1
                    clear hi248_1 hl248_1
                    replace p248 := eq_true p248
                    replace q248 := eq_true q248
                    have ea_ := Option.some.inj (hx247_1.symm.trans hx248_1)
                    injection ea_ with ea_ en_ ec_
                    subst ea_
                    subst ec_
                    clear en_
                    have p249 : 0 ≤ (x9_3 : Int) := of_decide_eq_true (by first | (with_reducible assumption) | assumption)
                    have q249 : x9_3 < (((rd_T28 l1 x7_1).f1).length : Int) := of_decide_eq_true (by first | (with_reducible assumption) | assumption)
                    obtain ⟨ad249, e249, hx249_0⟩ := Kd.at_int HR248_1.out x9_3 p249 q249
                    cases e249
                    replace hx249_0 := (HB.out.cell (World.block_lt_of_cell? w _ hx249_0)).trans hx249_0
                    replace p249 := eq_true p249
                    replace q249 := eq_true q249
                    have p25 : 0 ≤ ((ji22) : Int) := of_decide_eq_true (by first | (with_reducible assumption) | assumption)
                    have q25 : ((ji22) : Int) < ((x6_3.length : Int) : Int) := of_decide_eq_true (by first | (with_reducible assumption) | assumption)
                    obtain ⟨go25, co25, eo25, gb25, gl25, cl25, HG25⟩ := Kd.R_form HO_6.out (by omega)
                    (first | cases eo25 | (injection eo25 with ea_ en_ ec_; (first | subst ea_ | (injection ea_ with ea_; subst ea_)); subst ec_; clear en_))
                    have GB25 := aM gb25
                    have GG25 := aM HG25
                    clear gb25 gl25 HG25
                    obtain ⟨hx25_0, hf25_0⟩ := Kd.R_celln 0 HO_6.out ((ji22) : Int) p25 q25
                    replace p25 := eq_true p25
                    replace q25 := eq_true q25
                    have HP26 := Kd.R_putg HO_6.out ((ji22) : Int) (rd ((rd_T28 l1 x7_1).f1) x9_3)
                    go_wp2_with (first | ((with_reducible refine gate_store (t := 3) (p := 65) rfl ?_); refine store_event (t := 3) (p := 65) (v := ?vo_w27) (w1 := (wr.setCell ⟨go25, ((ji22) : Int).toNat, none⟩ (.int .i64 (rd ((rd_T28 l1 x7_1).f1) x9_3)))) ?hg ?ho ?hn ?hr ?_; (case ho => rfl); (case hg => rfl); (case hn => rfl); (case hr => first | (go_simp; done) | (go_simp; rfl)); intro w27 hw; have hg : wr.grownBy w27 (some go25) := (by rw [hw]; exact HP26.2); have hp_ : Kd.R (Kd.int .i64) 3 w27 w.heap.size (fun _ => True) (.slice (some ⟨go25, 0, none⟩) x6_3.length co25) y250 := (by rw [hw, Ny250.out]; exact HP26.1); clear HP26; have n0_ := aM (hp_); have n1_ := aM ((by rw [hw]; exact below_set (HB.out) GB25.out : Below w.heap.size w w27)); clear HO_6; clear HB; have HO_6 := n0_; have HB := n1_; clear n0_ n1_; clear hg hw hp_))
                    go_roundg k3
                    case measure => have := HK1.out; have := HJ6.out; have := HK3.out; omega
                    case rel => exact ⟨(y250), (wrap64 (x9_3 + 1)), (by first | rfl | (simp; done) | (simp [*]; done)), H', ⟨by have := HK1.out; have := HJ6.out; have := HK3.out; omega⟩, ⟨by (with_reducible repeat (first | apply Kd.R_alloc | apply Kd.R_drewN | apply Kd.R_drew)); exact HO_6.out⟩, ⟨by repeat (first | (with_reducible first | exact HB.out | apply wA | apply wN | apply wD) | exact HB.out)⟩⟩
                   ·rw [if_neg c24] at H
                    exact absurd H (by simp)
                  ·rw [if_neg c23] at H
                   exact absurd H (by simp)
                 ·rw [if_neg c21] at H
                  exact absurd H (by simp)
                ·rw [if_neg c20] at H
                 have c20b0 : decide (x9_3 < (((rd_T28 l1 x7_1).f1).length : Int)) = false := decide_eq_false c20
                 clear c20
                 have H' := aM H
                 clear H
                 have p247 : 0 ≤ (x7_1 : Int) := of_decide_eq_true (by first | (with_reducible assumption) | assumption)
                 have q247 : x7_1 < (l1.length : Int) := of_decide_eq_true (by first | (with_reducible assumption) | assumption)
                 obtain ⟨ad247, A247_1, c247_1, e247, hx247_0, hx247_1, hl247_1, hi247_1⟩ := at_T28 HR1.out x7_1 p247 q247
                 obtain rfl : ad241 = ad247 := (by injection e247)
                 replace hx247_0 := (HB.out.cell (World.block_lt_of_cell? w _ hx247_0)).trans hx247_0
                 replace hx247_1 := (HB.out.cell (World.block_lt_of_cell? w _ hx247_1)).trans hx247_1
                 have HR247_1 := aM hi247_1
                 have HC247_1 := aM hl247_1
                 clear hi247_1 hl247_1
                 replace p247 := eq_true p247
                 replace q247 := eq_true q247
                 go_wp2
                 go_roundg k3
                 case measure => have := HK1.out; have := HJ6.out; have := HK3.out; omega
                 case rel => exact ⟨(x6_3), (wrap64 (x7_1 + 1)), (by first | rfl | (simp; done) | (simp [*]; done)), H', ⟨by have := HK1.out; have := HJ6.out; have := HK3.out; omega⟩, ⟨by (with_reducible repeat (first | apply Kd.R_alloc | apply Kd.R_drewN | apply Kd.R_drew)); exact HO_6.out⟩, ⟨by repeat (first | (with_reducible first | exact HB.out | apply wA | apply wN | apply wD) | exact HB.out)⟩⟩
               ·rw [if_neg c19] at H
                exact absurd H (by simp)
              ·rw [if_neg c18] at H
               exact absurd H (by simp)
           ·rw [if_neg c14] at H
            have c14b0 : ((((rd_T28 l1 x7_1).f1).length : Int) == (t244.length : Int)) = false := beq_eq_false_iff_ne.mpr c14
            have c14b1 : ((((rd_T28 l1 x7_1).f1).length : Int) != (t244.length : Int)) = true := bne_iff_ne.mpr c14
            have c14b2 : (((rd_T28 l1 x7_1).f1).length == t244.length) = false := by first | simpa using c14 | (simp at c14 ⊢; omega)
            simp only [Option.some.injEq, Prod.mk.injEq] at H
            obtain ⟨rfl, rfl⟩ := H
            try go_wp2
            have n0_ := aM (Kd.R_drew HO_6.out)
            have n1_ := aM (wD HB.out)
            clear HO_6
            clear HB
            have HO_6 := n0_
            have HB := n1_
            clear n0_ n1_
            have p243 : 0 ≤ (x7_1 : Int) := of_decide_eq_true (by first | (with_reducible assumption) | assumption)
            have q243 : x7_1 < (l1.length : Int) := of_decide_eq_true (by first | (with_reducible assumption) | assumption)
            obtain ⟨ad243, A243_1, c243_1, e243, hx243_0, hx243_1, hl243_1, hi243_1⟩ := at_T28 HR1.out x7_1 p243 q243
            have hw243_1 := hx243_1
            have hw243_0 := hx243_0
            obtain rfl : ad241 = ad243 := (by injection e243)
            replace hx243_0 := (HB.out.cell (World.block_lt_of_cell? w _ hx243_0)).trans hx243_0
            replace hx243_1 := (HB.out.cell (World.block_lt_of_cell? w _ hx243_1)).trans hx243_1
            have HR243_1 := aM hi243_1
            have HC243_1 := aM hl243_1
            clear hi243_1 hl243_1
            replace p243 := eq_true p243
            replace q243 := eq_true q243
            refine start_ (n := 11) (S := fun w' => w'.cell? (ad241.add ((x7_1).toNat * 2)) = some (.int .i64 ((rd_T28 l1 x7_1).f0)) ∧ w'.cell? ⟨(ad241.add ((x7_1).toNat * 2)).block, (ad241.add ((x7_1).toNat * 2)).off + 1, none⟩ = some (.slice A243_1 ((rd_T28 l1 x7_1).f1).length c243_1)) (ds := []) #[false, false, false, false, false, false, false, false, false, false, false] (by kernel_rfl) rfl rfl ⟨((HB.out.cell (World.block_lt_of_cell? w _ hw243_0)).trans hw243_0), ((HB.out.cell (World.block_lt_of_cell? w _ hw243_1)).trans hw243_1)⟩ (fun hHeld => ?_); refine with_tabW rollbacknetref07_Apply.tab8 rollbacknetref07_Apply.bits8 (fun HT_ HW_ => ?_)
            generalize wc.drew = w28 at HO_6 HB HR243_1 hx243_0 hx243_1 hHeld ⊢
            refine pure_ (i := 0) (N := some 31) (v := ?_) (a' := ?_) #[true, false, false, false, false, false, false, false, false, false, false] rfl rfl (any_of HT_.out (by kernel_rfl)) (fun _ _ _ h => h) (Or.inl ⟨by rfl, ?_⟩) ?_ ?_
            rotate_left
            ·intro w'
             go_simp
             with_reducible rfl
            rotate_left
            ·simp only [Act.put, List.setIfInBounds_toArray, List.set_cons_zero, List.set_cons_succ, i64_w, i32_w]
             rfl
            refine pure_ (i := 1) (N := some 32) (v := ?_) (a' := ?_) #[true, true, false, false, false, false, false, false, false, false, false] rfl rfl (any_of HT_.out (by kernel_rfl)) (fun _ _ _ h => h) (Or.inl ⟨by rfl, ?_⟩) ?_ ?_
            rotate_left
            ·intro w'
             go_simp
             with_reducible rfl
            rotate_left
            ·simp only [Act.put, List.setIfInBounds_toArray, List.set_cons_zero, List.set_cons_succ, i64_w, i32_w]
             rfl
            refine pure_ (i := 2) (N := some 33) (v := ?_) (a' := ?_) #[true, true, true, false, false, false, false, false, false, false, false] rfl rfl (any_of HT_.out (by kernel_rfl)) (fun _ _ _ h => h) (Or.inl ⟨by rfl, ?_⟩) ?_ ?_
            rotate_left
            ·intro w'
             go_simp
             with_reducible rfl
            rotate_left
            ·simp only [Act.put, List.setIfInBounds_toArray, List.set_cons_zero, List.set_cons_succ, i64_w, i32_w]
             rfl
            refine pure_ (i := 3) (N := some 34) (v := ?_) (a' := ?_) #[true, true, true, true, false, false, false, false, false, false, false] rfl rfl (any_of HT_.out (by kernel_rfl)) (fun _ _ _ h => h) (Or.inl ⟨by rfl, ?_⟩) ?_ ?_
            rotate_left
            ·intro w'
             go_simp
             with_reducible rfl
            rotate_left
            ·simp only [Act.put, List.setIfInBounds_toArray, List.set_cons_zero, List.set_cons_succ, i64_w, i32_w]
             rfl
            refine pure_ (i := 6) (N := some 37) (v := ?_) (a' := ?_) #[true, true, true, true, false, false, true, false, false, false, false] rfl rfl (any_of HT_.out (by kernel_rfl)) (fun _ _ _ h => h) (Or.inl ⟨by rfl, ?_⟩) ?_ ?_
            rotate_left
            ·intro w'
             go_simp
             with_reducible rfl
            rotate_left
            ·simp only [Act.put, List.setIfInBounds_toArray, List.set_cons_zero, List.set_cons_succ, i64_w, i32_w]
             rfl
            refine pure_ (i := 7) (N := some 38) (v := ?_) (a' := ?_) #[true, true, true, true, false, false, true, true, false, false, false] rfl rfl (any_of HT_.out (by kernel_rfl)) (fun _ _ _ h => h) (Or.inl ⟨by rfl, ?_⟩) ?_ ?_
            rotate_left
            ·intro w'
             go_simp
             with_reducible rfl
            rotate_left
            ·simp only [Act.put, List.setIfInBounds_toArray, List.set_cons_zero, List.set_cons_succ, i64_w, i32_w]
             rfl
            refine take_ (i := 4) (N := some 35) (v := ?_) (a' := ?_) #[true, true, true, true, true, false, true, true, false, false, false] rfl rfl (take_ofW HT_.out HW_.out (by kernel_rfl)) (fun _ _ _ h => h) (Or.inl ⟨by rfl, ?_⟩) hHeld ?_ ?_
            rotate_left
            ·rintro w' ⟨s0, s1⟩
             go_simp
             with_reducible rfl
            rotate_left
            ·simp only [Act.put, List.setIfInBounds_toArray, List.set_cons_zero, List.set_cons_succ, i64_w, i32_w]
             rfl
            refine pure_ (i := 5) (N := some 36) (v := ?_) (a' := ?_) #[true, true, true, true, true, true, true, true, false, false, false] rfl rfl (any_of HT_.out (by kernel_rfl)) (fun _ _ _ h => h) (Or.inl ⟨by rfl, ?_⟩) ?_ ?_
            rotate_left
            ·intro w'
             go_simp
             with_reducible rfl
            rotate_left
            ·simp only [Act.put, List.setIfInBounds_toArray, List.set_cons_zero, List.set_cons_succ, i64_w, i32_w]
             rfl
            refine one_ (i := 8) (N := some 39) #[true, true, true, true, true, true, true, true, true, false, false] rfl rfl (one_of HT_.out (by kernel_rfl)) (by decide) (fun K hK => ?_)
            refine goes_ Try.func30 (by kernel_rfl) rfl #[.slice A0 l0.length c0, .int .i64 ((rd_T28 l1 x7_1).f0)] (by rfl) rfl rfl (by (try simp only [List.map_toArray, List.map_cons, List.map_nil]); first | done | rfl | (simp only [List.length_drop, List.length_take]; rfl)) ?_
            with_reducible refine (rollbacknetref07_page.calls (fun k_ => k_ < w.heap.size) _ _ l0 ((rd_T28 l1 x7_1).f0) t244 _ ?side1 A13.out).mono ?_
            (case side1 => exact Kd.V_mk HC0.out (Kd.F_below (Kd.C_F (Kd.heap_int .i64) HR0.out) (by repeat (first | (with_reducible first | exact HB.out | apply wA | apply wN | apply wD) | exact HB.out))))
            rintro e w29 ⟨v245, rfl, ho0, hb⟩
            refine ⟨_, rfl, ?_⟩
            have n0_ := aM (Kd.R_below (by (with_reducible repeat (first | apply Kd.R_alloc | apply Kd.R_drewN | apply Kd.R_drew)); exact HO_6.out) hb)
            have n1_ := aM (Kd.V_lower (Kd.V_mono (ok' := fun k_ => some k_ ≠ (v239 : Value).ownBlock) ho0 (fun k_ hk_ => Or.elim hk_ (fun hs_ => fun e_ => Nat.not_le.2 hs_ (Kd.R_base HO_6.out k_ e_.symm)) (fun hn_ => (Kd.fresh' (Kd.R_lt (by (with_reducible repeat (first | apply Kd.R_alloc | apply Kd.R_drewN | apply Kd.R_drew)); exact HO_6.out)) k_ hn_)))) (below_size (by repeat (first | (with_reducible first | exact HB.out | apply wA | apply wN | apply wD) | exact HB.out))))
            have n2_ := aM (below_step (by repeat (first | (with_reducible first | exact HB.out | apply wA | apply wN | apply wD) | exact HB.out)) hb)
            clear HO_6
            clear HB
            have HO_6 := n0_
            have HO246 := n1_
            have HB := n2_
            clear n0_ n1_ n2_
            (try clear hb)
            (try clear hb2)
            (try clear hk)
            (try clear hi)
            (try clear hge_)
            (try clear ho0)
            obtain ⟨Ao30, co30, eo30⟩ := Kd.V_slice HO246.out
            (first | subst eo30 | (injection eo30 with f1_ f2_ f3_; have f4_ := f1_.symm; have f5_ := f3_.symm; clear f1_ f2_ f3_; subst f4_; subst f5_))
            refine hK.out _ _ ⟨((HB.out.cell (World.block_lt_of_cell? w _ hw243_0)).trans hw243_0), ((HB.out.cell (World.block_lt_of_cell? w _ hw243_1)).trans hw243_1)⟩ (fun hHeld => ?_)
            clear hK K
            refine norm_ (a' := ?_) ?_ ?_
            rotate_left
            ·show Act.put _ (some 39) _ = _
             simp only [Act.put, List.setIfInBounds_toArray, List.set_cons_zero, List.set_cons_succ, i64_w, i32_w]
             rfl
            refine pure_ (i := 9) (N := some 40) (v := ?_) (a' := ?_) #[true, true, true, true, true, true, true, true, true, true, false] rfl rfl (any_of HT_.out (by kernel_rfl)) (fun _ _ _ h => h) (Or.inl ⟨by rfl, ?_⟩) ?_ ?_
            rotate_left
            ·intro w'
             go_simp
             with_reducible rfl
            rotate_left
            ·simp only [Act.put, List.setIfInBounds_toArray, List.set_cons_zero, List.set_cons_succ, i64_w, i32_w]
             rfl
            refine pure_ (i := 10) (N := some 41) (v := ?_) (a' := ?_) #[true, true, true, true, true, true, true, true, true, true, true] rfl rfl (any_of HT_.out (by kernel_rfl)) (fun _ _ _ h => h) (Or.inl ⟨by rfl, ?_⟩) ?_ ?_
            rotate_left
            ·intro w'
             go_simp
             with_reducible rfl
            rotate_left
            ·simp only [Act.put, List.setIfInBounds_toArray, List.set_cons_zero, List.set_cons_succ, i64_w, i32_w]
             rfl
            refine done_ (done_of HT_.out (by kernel_rfl)) ?_
            try go_wp2
            go_ret2
            exact ⟨_, by first | rfl | (simp [errW_none, errW_some] <;> rfl) | (simp [*, errW_none, errW_some] <;> rfl), by first | exact Kd.R_nil _ _ _ _ _ | exact Kd.N_nil _ _ _ _ _ | exact Kd.V_nil _ _ _ _ _ | exact Kd.Q_nil _ _ _ _ _ | exact Kd.S_nil _ _ _ _ _, by repeat (first | (with_reducible first | exact HB.out | apply wA | apply wN | apply wD) | exact HB.out)⟩
          ·rw [if_neg c12] at H
           exact absurd H (by simp)
         ·rw [if_neg c11] at H
          exact absurd H (by simp)
     ·rw [if_neg c6] at H
      exact absurd H (by simp)
    ·rw [if_neg c5] at H
     have c5b0 : decide (x7_1 < (l1.length : Int)) = false := decide_eq_false c5
     clear c5
     simp only [Option.some.injEq, Prod.mk.injEq] at H
     obtain ⟨rfl, rfl⟩ := H
     go_wp2
     go_ret2
     exact ⟨_, by first | rfl | (simp [errW_none, errW_some] <;> rfl) | (simp [*, errW_none, errW_some] <;> rfl), by (with_reducible repeat (first | apply Kd.R_alloc | apply Kd.R_drewN | apply Kd.R_drew)); exact HO_6.out, by repeat (first | (with_reducible first | exact HB.out | apply wA | apply wN | apply wD) | exact HB.out)⟩
 ·rw [if_neg c3] at H
  exact absurd H (by simp)

end Go.Proofs.Ytkjnledamamniaa.PIm
