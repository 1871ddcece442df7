-- Laid by wip/tools/xprint.py, a program of this session over the kit's print: functions as Lean functions, each with its contract.
import Derived.Test.YtmlphabhldahlaaPFkx0
import Derived.Test.YtmlphabhldahlaaPFkx6
namespace Go.Proofs.Ytmlphabhldahlaa.PFk
open Go.RowKit Go.Proofs.YtmlphabhldahlaaW.PrintWords Go.Proofs.YtmlphabhldahlaaW.PrintLast Go.Proofs.YtmlphabhldahlaaW.PrintMore
attribute [local go_sem] max2_int min2_int max_two min_two max_three min_three max_four min_four   -- for this text's walks alone
set_option linter.unusedVariables false
set_option linter.unusedSimpArgs false

/-! ### rollbacknetref11_Next: function 26 -/
mutual
def rollbacknetref11_Next.j0 : Nat → List Int → Int → Bool → Option (List Int × Int × Int)
 | 0, _, _, _ => none
 | k + 1, x0, x1, x11 => if x11 = true then (some (([] : List Int), 0, 3)) else (if x1 = (x0.length : Int) then (some (([] : List Int), 0, 11)) else (if (wrap64 ((x0.length : Int) - x1)) < 8 then (some (([] : List Int), 0, 8)) else (if 0 ≤ x1 then (if x1 < (x0.length : Int) then (if 0 ≤ (wrap64 (x1 + 1)) then (if (wrap64 (x1 + 1)) < (x0.length : Int) then (if 0 ≤ (wrap64 (x1 + 2)) then (if (wrap64 (x1 + 2)) < (x0.length : Int) then (if 0 ≤ (wrap64 (x1 + 3)) then (if (wrap64 (x1 + 3)) < (x0.length : Int) then (if (Go.bits .or .i64 (Go.bits .or .i64 (Go.bits .or .i64 (wrap64 (rd x0 x1)) (wrap64 ((wrap64 (rd x0 (wrap64 (x1 + 1)))) * 256))) (wrap64 ((wrap64 (rd x0 (wrap64 (x1 + 2)))) * 65536))) (wrap64 ((wrap64 (rd x0 (wrap64 (x1 + 3)))) * 16777216))) > 4096 then (some (([] : List Int), 0, 5)) else (if (wrap64 ((wrap64 ((x0.length : Int) - x1)) - 8)) < (Go.bits .or .i64 (Go.bits .or .i64 (Go.bits .or .i64 (wrap64 (rd x0 x1)) (wrap64 ((wrap64 (rd x0 (wrap64 (x1 + 1)))) * 256))) (wrap64 ((wrap64 (rd x0 (wrap64 (x1 + 2)))) * 65536))) (wrap64 ((wrap64 (rd x0 (wrap64 (x1 + 3)))) * 16777216))) then (some (([] : List Int), 0, 8)) else (if 0 ≤ (wrap64 (x1 + 8)) then (if (wrap64 (x1 + 8)) ≤ (wrap64 ((wrap64 (x1 + 8)) + (Go.bits .or .i64 (Go.bits .or .i64 (Go.bits .or .i64 (wrap64 (rd x0 x1)) (wrap64 ((wrap64 (rd x0 (wrap64 (x1 + 1)))) * 256))) (wrap64 ((wrap64 (rd x0 (wrap64 (x1 + 2)))) * 65536))) (wrap64 ((wrap64 (rd x0 (wrap64 (x1 + 3)))) * 16777216))))) then (if (wrap64 ((wrap64 (x1 + 8)) + (Go.bits .or .i64 (Go.bits .or .i64 (Go.bits .or .i64 (wrap64 (rd x0 x1)) (wrap64 ((wrap64 (rd x0 (wrap64 (x1 + 1)))) * 256))) (wrap64 ((wrap64 (rd x0 (wrap64 (x1 + 2)))) * 65536))) (wrap64 ((wrap64 (rd x0 (wrap64 (x1 + 3)))) * 16777216))))) ≤ (x0.length : Int) then ((rollbacknetref11_head.f ((x0.take ((wrap64 ((wrap64 (x1 + 8)) + (Go.bits .or .i64 (Go.bits .or .i64 (Go.bits .or .i64 (wrap64 (rd x0 x1)) (wrap64 ((wrap64 (rd x0 (wrap64 (x1 + 1)))) * 256))) (wrap64 ((wrap64 (rd x0 (wrap64 (x1 + 2)))) * 65536))) (wrap64 ((wrap64 (rd x0 (wrap64 (x1 + 3)))) * 16777216))))) : Int).toNat).drop ((wrap64 (x1 + 8)) : Int).toNat)).bind fun t192 => (rollbacknetref11_Next.l0 k x0 x1 (Go.bits .or .i64 (Go.bits .or .i64 (Go.bits .or .i64 (wrap64 (rd x0 x1)) (wrap64 ((wrap64 (rd x0 (wrap64 (x1 + 1)))) * 256))) (wrap64 ((wrap64 (rd x0 (wrap64 (x1 + 2)))) * 65536))) (wrap64 ((wrap64 (rd x0 (wrap64 (x1 + 3)))) * 16777216))) ((x0.take ((wrap64 ((wrap64 (x1 + 8)) + (Go.bits .or .i64 (Go.bits .or .i64 (Go.bits .or .i64 (wrap64 (rd x0 x1)) (wrap64 ((wrap64 (rd x0 (wrap64 (x1 + 1)))) * 256))) (wrap64 ((wrap64 (rd x0 (wrap64 (x1 + 2)))) * 65536))) (wrap64 ((wrap64 (rd x0 (wrap64 (x1 + 3)))) * 16777216))))) : Int).toNat).drop ((wrap64 (x1 + 8)) : Int).toNat) t192 0)) else (none)) else (none)) else (none)))) else (none)) else (none)) else (none)) else (none)) else (none)) else (none)) else (none)) else (none))))
def rollbacknetref11_Next.l0 : Nat → List Int → Int → Int → List Int → List Int → Int → Option (List Int × Int × Int)
 | 0, _, _, _, _, _, _ => none
 | k + 1, x0, x1, x7, x8, x9, x10 => if x10 < 8 then (if 0 ≤ x10 then (if x10 < (x9.length : Int) then (if 0 ≤ (wrap64 (x1 + x10)) then (if (wrap64 (x1 + x10)) < (x0.length : Int) then (if (rd x9 x10) = (rd x0 (wrap64 (x1 + x10))) then (rollbacknetref11_Next.l0 k x0 x1 x7 x8 x9 (wrap64 (x10 + 1))) else (some (([] : List Int), 0, 10))) else (none)) else (none)) else (none)) else (none)) else (if ([] : List Int).length + x8.length < 140737488355328 then (some ((([] : List Int) ++ x8), wrap64 ((wrap64 (x1 + 8)) + x7), 0)) else (none))
end
def rollbacknetref11_Next.f (k : Nat) (l0 : List Int) (a1 : Int) : Option (List Int × Int × Int) := if a1 < 0 then (rollbacknetref11_Next.j0 k l0 a1 true) else (rollbacknetref11_Next.j0 k l0 a1 (decide (a1 > (l0.length : Int))))
theorem rollbacknetref11_Next.mono_l : ∀ k, (∀ y0 y1 y2, LeO (rollbacknetref11_Next.j0 k y0 y1 y2) (rollbacknetref11_Next.j0 (k + 1) y0 y1 y2)) ∧ (∀ y0 y1 y2 y3 y4 y5, LeO (rollbacknetref11_Next.l0 k y0 y1 y2 y3 y4 y5) (rollbacknetref11_Next.l0 (k + 1) y0 y1 y2 y3 y4 y5))
 | 0 => ⟨fun _ _ _ r h => by simp [rollbacknetref11_Next.j0] at h, fun _ _ _ _ _ _ r h => by simp [rollbacknetref11_Next.l0] at h⟩
 | k + 1 => by
  obtain ⟨ih0, ih1⟩ := rollbacknetref11_Next.mono_l k
  refine ⟨?_, ?_⟩
  ·intro y0 y1 y2
   unfold rollbacknetref11_Next.j0
   repeat' first
   | (with_reducible exact ih0 _ _ _)
   | (with_reducible exact ih1 _ _ _ _ _ _)
   | (with_reducible exact LeO.refl _)
   | (with_reducible exact LeO.none _)
   | (with_reducible refine LeO.ite ?_ ?_)
   | (with_reducible refine LeO.bind ?_ (fun _ => ?_))
   | exact ih0 _ _ _
   | exact ih1 _ _ _ _ _ _
   | exact LeO.none _
   | refine LeO.ite ?_ ?_
   | refine LeO.bind ?_ (fun _ => ?_)
  ·intro y0 y1 y2 y3 y4 y5
   unfold rollbacknetref11_Next.l0
   repeat' first
   | (with_reducible exact ih0 _ _ _)
   | (with_reducible exact ih1 _ _ _ _ _ _)
   | (with_reducible exact LeO.refl _)
   | (with_reducible exact LeO.none _)
   | (with_reducible refine LeO.ite ?_ ?_)
   | (with_reducible refine LeO.bind ?_ (fun _ => ?_))
   | exact ih0 _ _ _
   | exact ih1 _ _ _ _ _ _
   | exact LeO.none _
   | refine LeO.ite ?_ ?_
   | refine LeO.bind ?_ (fun _ => ?_)
theorem rollbacknetref11_Next.mono : ∀ a0 a1 k, LeO (rollbacknetref11_Next.f k a0 a1) (rollbacknetref11_Next.f (k + 1) a0 a1) := by
 intro a0 a1 k
 obtain ⟨ih0, ih1⟩ := rollbacknetref11_Next.mono_l k
 unfold rollbacknetref11_Next.f
 repeat' first
   | (with_reducible exact ih0 _ _ _)
   | (with_reducible exact ih1 _ _ _ _ _ _)
   | (with_reducible exact LeO.refl _)
   | (with_reducible exact LeO.none _)
   | (with_reducible refine LeO.ite ?_ ?_)
   | (with_reducible refine LeO.bind ?_ (fun _ => ?_))
   | exact ih0 _ _ _
   | exact ih1 _ _ _ _ _ _
   | exact LeO.none _
   | refine LeO.ite ?_ ?_
   | refine LeO.bind ?_ (fun _ => ?_)
set_option maxHeartbeats 8000000 in
set_option maxRecDepth 100000 in
theorem rollbacknetref11_Next.calls (k : Nat) (A0 : Option Addr) (c0 : Nat) (l0 : List Int) (a1 : Int) (r1 : List Int) (r2 : Int) (r3 : Int) (w : World) (hr0 : Kd.C (Kd.int .u8) w A0 l0.length l0) (hc0 : l0.length ≤ c0) (h : rollbacknetref11_Next.f k l0 a1 = some (r1, r2, r3)) :
  Calls Try.prog 26 #[.slice A0 l0.length c0, .int .i64 a1] w fun e w' => ∃ v0_ : Value, e = .returned (.tuple #[v0_, .int .i64 r2, .int .i64 r3]) ∧ Kd.R (Kd.int .u8) 5 w' w.heap.size (fun _ => True) v0_ r1 ∧ Below w.heap.size w w' := by
 have HR0 := aM hr0
 have HC0 := aM hc0
 clear hr0 hc0
 have HB := aM (Below.refl w.heap.size w)
 have H : (if a1 < 0 then (rollbacknetref11_Next.j0 k l0 a1 true) else (rollbacknetref11_Next.j0 k l0 a1 (decide (a1 > (l0.length : Int))))) = some (r1, r2, r3) := h
 clear h
 have HC3 := aM H
 clear H
 go_enter Try.func26, Try.ntmps26
 go_upto_region 1 with (fail)
 repeat (go_quiet (fail); go_upto_region 1 with (fail))
 go_cut [11] (fun v11 wc => ∃ (kq : Nat) (x11_2 : Bool), v11 = .bool x11_2 ∧ Aside0 (rollbacknetref11_Next.j0 kq l0 a1 x11_2 = some (r1, r2, r3)) ∧ Aside0 (kq ≤ k) ∧ Aside0 (Below w.heap.size w wc))
 case first =>
  have H := HC3.out
  clear HC3
  by_cases c4 : a1 < 0
  ·rw [if_pos c4] at H
   have c4b0 : decide (a1 < 0) = true := decide_eq_true c4
   clear c4
   (first | rw [c4b0] | (simp only [i64_w, i32_w]; rw [c4b0]) | skip)
   have H' := aM H
   clear H
   go_wp2
   repeat (go_quiet (fail); try go_wp2)
   go_meet
   case rel => exact ⟨_, (true), (by first | rfl | (simp; done) | (simp [*]; done)), H', ⟨by first | omega | exact Nat.le_refl _⟩, ⟨by repeat (first | (with_reducible first | exact HB.out | apply wA | apply wN | apply wD) | exact HB.out)⟩⟩
  ·rw [if_neg c4] at H
   have c4b0 : decide (a1 < 0) = false := decide_eq_false c4
   clear c4
   (first | rw [c4b0] | (simp only [i64_w, i32_w]; rw [c4b0]) | skip)
   have H' := aM H
   clear H
   go_wp2
   repeat (go_quiet (fail); try go_wp2)
   go_meet
   case rel => exact ⟨_, (decide (a1 > (l0.length : Int))), (by first | rfl | (simp; done) | (simp [*]; done)), H', ⟨by first | omega | exact Nat.le_refl _⟩, ⟨by repeat (first | (with_reducible first | exact HB.out | apply wA | apply wN | apply wD) | exact HB.out)⟩⟩
 case rest =>
  clear HC3
  try clear c2
  try clear p2
  try clear c4
  try clear c4b0
  obtain ⟨kq, x11_2, rfl, HA, HJ2, HB⟩ := hcut
  cases kq with
  | zero => exact absurd HA.out (by simp [rollbacknetref11_Next.j0])
  | succ kj2 =>
   have H := HA.out
   clear HA
   simp only [rollbacknetref11_Next.j0] at H
   by_cases c5 : x11_2 = true
   ·subst c5
    have H1 : (some (([] : List Int), 0, 3)) = some (r1, r2, r3) := by rw [if_pos rfl] at H; exact H
    clear H
    have H := H1
    clear H1
    simp only [Option.some.injEq, Prod.mk.injEq] at H
    obtain ⟨rfl, rfl, rfl⟩ := H
    go_wp2
    repeat (go_quiet (fail); try go_wp2)
    go_ret3
    exact ⟨_, by first | rfl | (simp [errW_none, errW_some] <;> rfl) | (simp [*, errW_none, errW_some] <;> rfl), by first | exact Kd.R_nil _ _ _ _ _ | exact Kd.N_nil _ _ _ _ _ | exact Kd.V_nil _ _ _ _ _ | exact Kd.Q_nil _ _ _ _ _ | exact Kd.S_nil _ _ _ _ _, by repeat (first | (with_reducible first | exact HB.out | apply wA | apply wN | apply wD) | exact HB.out)⟩
   ·replace c5 := Bool.eq_false_iff.mpr c5
    subst c5
    have H1 : (if a1 = (l0.length : Int) then (some (([] : List Int), 0, 11)) else (if (wrap64 ((l0.length : Int) - a1)) < 8 then (some (([] : List Int), 0, 8)) else (if 0 ≤ a1 then (if a1 < (l0.length : Int) then (if 0 ≤ (wrap64 (a1 + 1)) then (if (wrap64 (a1 + 1)) < (l0.length : Int) then (if 0 ≤ (wrap64 (a1 + 2)) then (if (wrap64 (a1 + 2)) < (l0.length : Int) then (if 0 ≤ (wrap64 (a1 + 3)) then (if (wrap64 (a1 + 3)) < (l0.length : Int) then (if (Go.bits .or .i64 (Go.bits .or .i64 (Go.bits .or .i64 (wrap64 (rd l0 a1)) (wrap64 ((wrap64 (rd l0 (wrap64 (a1 + 1)))) * 256))) (wrap64 ((wrap64 (rd l0 (wrap64 (a1 + 2)))) * 65536))) (wrap64 ((wrap64 (rd l0 (wrap64 (a1 + 3)))) * 16777216))) > 4096 then (some (([] : List Int), 0, 5)) else (if (wrap64 ((wrap64 ((l0.length : Int) - a1)) - 8)) < (Go.bits .or .i64 (Go.bits .or .i64 (Go.bits .or .i64 (wrap64 (rd l0 a1)) (wrap64 ((wrap64 (rd l0 (wrap64 (a1 + 1)))) * 256))) (wrap64 ((wrap64 (rd l0 (wrap64 (a1 + 2)))) * 65536))) (wrap64 ((wrap64 (rd l0 (wrap64 (a1 + 3)))) * 16777216))) then (some (([] : List Int), 0, 8)) else (if 0 ≤ (wrap64 (a1 + 8)) then (if (wrap64 (a1 + 8)) ≤ (wrap64 ((wrap64 (a1 + 8)) + (Go.bits .or .i64 (Go.bits .or .i64 (Go.bits .or .i64 (wrap64 (rd l0 a1)) (wrap64 ((wrap64 (rd l0 (wrap64 (a1 + 1)))) * 256))) (wrap64 ((wrap64 (rd l0 (wrap64 (a1 + 2)))) * 65536))) (wrap64 ((wrap64 (rd l0 (wrap64 (a1 + 3)))) * 16777216))))) then (if (wrap64 ((wrap64 (a1 + 8)) + (Go.bits .or .i64 (Go.bits .or .i64 (Go.bits .or .i64 (wrap64 (rd l0 a1)) (wrap64 ((wrap64 (rd l0 (wrap64 (a1 + 1)))) * 256))) (wrap64 ((wrap64 (rd l0 (wrap64 (a1 + 2)))) * 65536))) (wrap64 ((wrap64 (rd l0 (wrap64 (a1 + 3)))) * 16777216))))) ≤ (l0.length : Int) then ((rollbacknetref11_head.f ((l0.take ((wrap64 ((wrap64 (a1 + 8)) + (Go.bits .or .i64 (Go.bits .or .i64 (Go.bits .or .i64 (wrap64 (rd l0 a1)) (wrap64 ((wrap64 (rd l0 (wrap64 (a1 + 1)))) * 256))) (wrap64 ((wrap64 (rd l0 (wrap64 (a1 + 2)))) * 65536))) (wrap64 ((wrap64 (rd l0 (wrap64 (a1 + 3)))) * 16777216))))) : Int).toNat).drop ((wrap64 (a1 + 8)) : Int).toNat)).bind fun t192 => (rollbacknetref11_Next.l0 kj2 l0 a1 (Go.bits .or .i64 (Go.bits .or .i64 (Go.bits .or .i64 (wrap64 (rd l0 a1)) (wrap64 ((wrap64 (rd l0 (wrap64 (a1 + 1)))) * 256))) (wrap64 ((wrap64 (rd l0 (wrap64 (a1 + 2)))) * 65536))) (wrap64 ((wrap64 (rd l0 (wrap64 (a1 + 3)))) * 16777216))) ((l0.take ((wrap64 ((wrap64 (a1 + 8)) + (Go.bits .or .i64 (Go.bits .or .i64 (Go.bits .or .i64 (wrap64 (rd l0 a1)) (wrap64 ((wrap64 (rd l0 (wrap64 (a1 + 1)))) * 256))) (wrap64 ((wrap64 (rd l0 (wrap64 (a1 + 2)))) * 65536))) (wrap64 ((wrap64 (rd l0 (wrap64 (a1 + 3)))) * 16777216))))) : Int).toNat).drop ((wrap64 (a1 + 8)) : Int).toNat) t192 0)) else (none)) else (none)) else (none)))) else (none)) else (none)) else (none)) else (none)) else (none)) else (none)) else (none)) else (none)))) = some (r1, r2, r3) := by rw [if_neg (show ¬ (false = true) by decide)] at H; exact H
    clear H
    have H := H1
    clear H1
    by_cases c6 : a1 = (l0.length : Int)
    ·rw [if_pos c6] at H
     have c6b0 : (a1 == (l0.length : Int)) = true := beq_iff_eq.mpr c6
     have c6b1 : (a1 != (l0.length : Int)) = false := bne_eq_false_iff_eq.mpr c6
     clear c6
     simp only [Option.some.injEq, Prod.mk.injEq] at H
     obtain ⟨rfl, rfl, rfl⟩ := H
     go_wp2
     repeat (go_quiet (fail); try go_wp2)
     go_ret3
     exact ⟨_, by first | rfl | (simp [errW_none, errW_some] <;> rfl) | (simp [*, errW_none, errW_some] <;> rfl), by first | exact Kd.R_nil _ _ _ _ _ | exact Kd.N_nil _ _ _ _ _ | exact Kd.V_nil _ _ _ _ _ | exact Kd.Q_nil _ _ _ _ _ | exact Kd.S_nil _ _ _ _ _, by repeat (first | (with_reducible first | exact HB.out | apply wA | apply wN | apply wD) | exact HB.out)⟩
    ·rw [if_neg c6] at H
     have c6b0 : (a1 == (l0.length : Int)) = false := beq_eq_false_iff_ne.mpr c6
     have c6b1 : (a1 != (l0.length : Int)) = true := bne_iff_ne.mpr c6
     by_cases c7 : (wrap64 ((l0.length : Int) - a1)) < 8
     ·rw [if_pos c7] at H
      have c7b0 : decide ((wrap64 ((l0.length : Int) - a1)) < 8) = true := decide_eq_true c7
      clear c7
      simp only [Option.some.injEq, Prod.mk.injEq] at H
      obtain ⟨rfl, rfl, rfl⟩ := H
      go_wp2
      repeat (go_quiet (fail); try go_wp2)
      go_ret3
      exact ⟨_, by first | rfl | (simp [errW_none, errW_some] <;> rfl) | (simp [*, errW_none, errW_some] <;> rfl), by first | exact Kd.R_nil _ _ _ _ _ | exact Kd.N_nil _ _ _ _ _ | exact Kd.V_nil _ _ _ _ _ | exact Kd.Q_nil _ _ _ _ _ | exact Kd.S_nil _ _ _ _ _, by repeat (first | (with_reducible first | exact HB.out | apply wA | apply wN | apply wD) | exact HB.out)⟩
     ·rw [if_neg c7] at H
      have c7b0 : decide ((wrap64 ((l0.length : Int) - a1)) < 8) = false := decide_eq_false c7
      clear c7
      by_cases c8 : 0 ≤ a1
      ·rw [if_pos c8] at H
       have c8b0 : decide (0 ≤ a1) = true := decide_eq_true c8
       clear c8
       by_cases c9 : a1 < (l0.length : Int)
       ·rw [if_pos c9] at H
        have c9b0 : decide (a1 < (l0.length : Int)) = true := decide_eq_true c9
        clear c9
        obtain ⟨ji10, hji10⟩ : ∃ j_ : Int, (wrap64 (a1 + 1)) = j_ := ⟨_, rfl⟩
        replace H : (if 0 ≤ (ji10) then (if (ji10) < (l0.length : Int) then (if 0 ≤ (wrap64 (a1 + 2)) then (if (wrap64 (a1 + 2)) < (l0.length : Int) then (if 0 ≤ (wrap64 (a1 + 3)) then (if (wrap64 (a1 + 3)) < (l0.length : Int) then (if (Go.bits .or .i64 (Go.bits .or .i64 (Go.bits .or .i64 (wrap64 (rd l0 a1)) (wrap64 ((wrap64 (rd l0 (ji10))) * 256))) (wrap64 ((wrap64 (rd l0 (wrap64 (a1 + 2)))) * 65536))) (wrap64 ((wrap64 (rd l0 (wrap64 (a1 + 3)))) * 16777216))) > 4096 then (some (([] : List Int), 0, 5)) else (if (wrap64 ((wrap64 ((l0.length : Int) - a1)) - 8)) < (Go.bits .or .i64 (Go.bits .or .i64 (Go.bits .or .i64 (wrap64 (rd l0 a1)) (wrap64 ((wrap64 (rd l0 (ji10))) * 256))) (wrap64 ((wrap64 (rd l0 (wrap64 (a1 + 2)))) * 65536))) (wrap64 ((wrap64 (rd l0 (wrap64 (a1 + 3)))) * 16777216))) then (some (([] : List Int), 0, 8)) else (if 0 ≤ (wrap64 (a1 + 8)) then (if (wrap64 (a1 + 8)) ≤ (wrap64 ((wrap64 (a1 + 8)) + (Go.bits .or .i64 (Go.bits .or .i64 (Go.bits .or .i64 (wrap64 (rd l0 a1)) (wrap64 ((wrap64 (rd l0 (ji10))) * 256))) (wrap64 ((wrap64 (rd l0 (wrap64 (a1 + 2)))) * 65536))) (wrap64 ((wrap64 (rd l0 (wrap64 (a1 + 3)))) * 16777216))))) then (if (wrap64 ((wrap64 (a1 + 8)) + (Go.bits .or .i64 (Go.bits .or .i64 (Go.bits .or .i64 (wrap64 (rd l0 a1)) (wrap64 ((wrap64 (rd l0 (ji10))) * 256))) (wrap64 ((wrap64 (rd l0 (wrap64 (a1 + 2)))) * 65536))) (wrap64 ((wrap64 (rd l0 (wrap64 (a1 + 3)))) * 16777216))))) ≤ (l0.length : Int) then ((rollbacknetref11_head.f ((l0.take ((wrap64 ((wrap64 (a1 + 8)) + (Go.bits .or .i64 (Go.bits .or .i64 (Go.bits .or .i64 (wrap64 (rd l0 a1)) (wrap64 ((wrap64 (rd l0 (ji10))) * 256))) (wrap64 ((wrap64 (rd l0 (wrap64 (a1 + 2)))) * 65536))) (wrap64 ((wrap64 (rd l0 (wrap64 (a1 + 3)))) * 16777216))))) : Int).toNat).drop ((wrap64 (a1 + 8)) : Int).toNat)).bind fun t192 => (rollbacknetref11_Next.l0 kj2 l0 a1 (Go.bits .or .i64 (Go.bits .or .i64 (Go.bits .or .i64 (wrap64 (rd l0 a1)) (wrap64 ((wrap64 (rd l0 (ji10))) * 256))) (wrap64 ((wrap64 (rd l0 (wrap64 (a1 + 2)))) * 65536))) (wrap64 ((wrap64 (rd l0 (wrap64 (a1 + 3)))) * 16777216))) ((l0.take ((wrap64 ((wrap64 (a1 + 8)) + (Go.bits .or .i64 (Go.bits .or .i64 (Go.bits .or .i64 (wrap64 (rd l0 a1)) (wrap64 ((wrap64 (rd l0 (ji10))) * 256))) (wrap64 ((wrap64 (rd l0 (wrap64 (a1 + 2)))) * 65536))) (wrap64 ((wrap64 (rd l0 (wrap64 (a1 + 3)))) * 16777216))))) : Int).toNat).drop ((wrap64 (a1 + 8)) : Int).toNat) t192 0)) else (none)) else (none)) else (none)))) else (none)) else (none)) else (none)) else (none)) else (none)) else (none)) = some (r1, r2, r3) := by first | (rw [hji10] at H; exact H) | (simp only [hji10] at H ⊢; exact H)
        have hji10w : (IntKind.i64.wrap (a1 + 1)) = ji10 := (i64_w _).trans hji10
        by_cases c11 : 0 ≤ (ji10)
        ·rw [if_pos c11] at H
         have c11b0 : decide (0 ≤ (ji10)) = true := decide_eq_true c11
         clear c11
         by_cases c12 : (ji10) < (l0.length : Int)
         ·rw [if_pos c12] at H
          have c12b0 : decide ((ji10) < (l0.length : Int)) = true := decide_eq_true c12
          clear c12
          obtain ⟨ji13, hji13⟩ : ∃ j_ : Int, (wrap64 (a1 + 2)) = j_ := ⟨_, rfl⟩
          replace H : (if 0 ≤ (ji13) then (if (ji13) < (l0.length : Int) then (if 0 ≤ (wrap64 (a1 + 3)) then (if (wrap64 (a1 + 3)) < (l0.length : Int) then (if (Go.bits .or .i64 (Go.bits .or .i64 (Go.bits .or .i64 (wrap64 (rd l0 a1)) (wrap64 ((wrap64 (rd l0 (ji10))) * 256))) (wrap64 ((wrap64 (rd l0 (ji13))) * 65536))) (wrap64 ((wrap64 (rd l0 (wrap64 (a1 + 3)))) * 16777216))) > 4096 then (some (([] : List Int), 0, 5)) else (if (wrap64 ((wrap64 ((l0.length : Int) - a1)) - 8)) < (Go.bits .or .i64 (Go.bits .or .i64 (Go.bits .or .i64 (wrap64 (rd l0 a1)) (wrap64 ((wrap64 (rd l0 (ji10))) * 256))) (wrap64 ((wrap64 (rd l0 (ji13))) * 65536))) (wrap64 ((wrap64 (rd l0 (wrap64 (a1 + 3)))) * 16777216))) then (some (([] : List Int), 0, 8)) else (if 0 ≤ (wrap64 (a1 + 8)) then (if (wrap64 (a1 + 8)) ≤ (wrap64 ((wrap64 (a1 + 8)) + (Go.bits .or .i64 (Go.bits .or .i64 (Go.bits .or .i64 (wrap64 (rd l0 a1)) (wrap64 ((wrap64 (rd l0 (ji10))) * 256))) (wrap64 ((wrap64 (rd l0 (ji13))) * 65536))) (wrap64 ((wrap64 (rd l0 (wrap64 (a1 + 3)))) * 16777216))))) then (if (wrap64 ((wrap64 (a1 + 8)) + (Go.bits .or .i64 (Go.bits .or .i64 (Go.bits .or .i64 (wrap64 (rd l0 a1)) (wrap64 ((wrap64 (rd l0 (ji10))) * 256))) (wrap64 ((wrap64 (rd l0 (ji13))) * 65536))) (wrap64 ((wrap64 (rd l0 (wrap64 (a1 + 3)))) * 16777216))))) ≤ (l0.length : Int) then ((rollbacknetref11_head.f ((l0.take ((wrap64 ((wrap64 (a1 + 8)) + (Go.bits .or .i64 (Go.bits .or .i64 (Go.bits .or .i64 (wrap64 (rd l0 a1)) (wrap64 ((wrap64 (rd l0 (ji10))) * 256))) (wrap64 ((wrap64 (rd l0 (ji13))) * 65536))) (wrap64 ((wrap64 (rd l0 (wrap64 (a1 + 3)))) * 16777216))))) : Int).toNat).drop ((wrap64 (a1 + 8)) : Int).toNat)).bind fun t192 => (rollbacknetref11_Next.l0 kj2 l0 a1 (Go.bits .or .i64 (Go.bits .or .i64 (Go.bits .or .i64 (wrap64 (rd l0 a1)) (wrap64 ((wrap64 (rd l0 (ji10))) * 256))) (wrap64 ((wrap64 (rd l0 (ji13))) * 65536))) (wrap64 ((wrap64 (rd l0 (wrap64 (a1 + 3)))) * 16777216))) ((l0.take ((wrap64 ((wrap64 (a1 + 8)) + (Go.bits .or .i64 (Go.bits .or .i64 (Go.bits .or .i64 (wrap64 (rd l0 a1)) (wrap64 ((wrap64 (rd l0 (ji10))) * 256))) (wrap64 ((wrap64 (rd l0 (ji13))) * 65536))) (wrap64 ((wrap64 (rd l0 (wrap64 (a1 + 3)))) * 16777216))))) : Int).toNat).drop ((wrap64 (a1 + 8)) : Int).toNat) t192 0)) else (none)) else (none)) else (none)))) else (none)) else (none)) else (none)) else (none)) = some (r1, r2, r3) := by first | (rw [hji13] at H; exact H) | (simp only [hji13] at H ⊢; exact H)
          have hji13w : (IntKind.i64.wrap (a1 + 2)) = ji13 := (i64_w _).trans hji13
          by_cases c14 : 0 ≤ (ji13)
          ·rw [if_pos c14] at H
           have c14b0 : decide (0 ≤ (ji13)) = true := decide_eq_true c14
           clear c14
           by_cases c15 : (ji13) < (l0.length : Int)
           ·rw [if_pos c15] at H
            have c15b0 : decide ((ji13) < (l0.length : Int)) = true := decide_eq_true c15
            clear c15
            obtain ⟨ji16, hji16⟩ : ∃ j_ : Int, (wrap64 (a1 + 3)) = j_ := ⟨_, rfl⟩
            replace H : (if 0 ≤ (ji16) then (if (ji16) < (l0.length : Int) then (if (Go.bits .or .i64 (Go.bits .or .i64 (Go.bits .or .i64 (wrap64 (rd l0 a1)) (wrap64 ((wrap64 (rd l0 (ji10))) * 256))) (wrap64 ((wrap64 (rd l0 (ji13))) * 65536))) (wrap64 ((wrap64 (rd l0 (ji16))) * 16777216))) > 4096 then (some (([] : List Int), 0, 5)) else (if (wrap64 ((wrap64 ((l0.length : Int) - a1)) - 8)) < (Go.bits .or .i64 (Go.bits .or .i64 (Go.bits .or .i64 (wrap64 (rd l0 a1)) (wrap64 ((wrap64 (rd l0 (ji10))) * 256))) (wrap64 ((wrap64 (rd l0 (ji13))) * 65536))) (wrap64 ((wrap64 (rd l0 (ji16))) * 16777216))) then (some (([] : List Int), 0, 8)) else (if 0 ≤ (wrap64 (a1 + 8)) then (if (wrap64 (a1 + 8)) ≤ (wrap64 ((wrap64 (a1 + 8)) + (Go.bits .or .i64 (Go.bits .or .i64 (Go.bits .or .i64 (wrap64 (rd l0 a1)) (wrap64 ((wrap64 (rd l0 (ji10))) * 256))) (wrap64 ((wrap64 (rd l0 (ji13))) * 65536))) (wrap64 ((wrap64 (rd l0 (ji16))) * 16777216))))) then (if (wrap64 ((wrap64 (a1 + 8)) + (Go.bits .or .i64 (Go.bits .or .i64 (Go.bits .or .i64 (wrap64 (rd l0 a1)) (wrap64 ((wrap64 (rd l0 (ji10))) * 256))) (wrap64 ((wrap64 (rd l0 (ji13))) * 65536))) (wrap64 ((wrap64 (rd l0 (ji16))) * 16777216))))) ≤ (l0.length : Int) then ((rollbacknetref11_head.f ((l0.take ((wrap64 ((wrap64 (a1 + 8)) + (Go.bits .or .i64 (Go.bits .or .i64 (Go.bits .or .i64 (wrap64 (rd l0 a1)) (wrap64 ((wrap64 (rd l0 (ji10))) * 256))) (wrap64 ((wrap64 (rd l0 (ji13))) * 65536))) (wrap64 ((wrap64 (rd l0 (ji16))) * 16777216))))) : Int).toNat).drop ((wrap64 (a1 + 8)) : Int).toNat)).bind fun t192 => (rollbacknetref11_Next.l0 kj2 l0 a1 (Go.bits .or .i64 (Go.bits .or .i64 (Go.bits .or .i64 (wrap64 (rd l0 a1)) (wrap64 ((wrap64 (rd l0 (ji10))) * 256))) (wrap64 ((wrap64 (rd l0 (ji13))) * 65536))) (wrap64 ((wrap64 (rd l0 (ji16))) * 16777216))) ((l0.take ((wrap64 ((wrap64 (a1 + 8)) + (Go.bits .or .i64 (Go.bits .or .i64 (Go.bits .or .i64 (wrap64 (rd l0 a1)) (wrap64 ((wrap64 (rd l0 (ji10))) * 256))) (wrap64 ((wrap64 (rd l0 (ji13))) * 65536))) (wrap64 ((wrap64 (rd l0 (ji16))) * 16777216))))) : Int).toNat).drop ((wrap64 (a1 + 8)) : Int).toNat) t192 0)) else (none)) else (none)) else (none)))) else (none)) else (none)) = some (r1, r2, r3) := by first | (rw [hji16] at H; exact H) | (simp only [hji16] at H ⊢; exact H)
            have hji16w : (IntKind.i64.wrap (a1 + 3)) = ji16 := (i64_w _).trans hji16
            by_cases c17 : 0 ≤ (ji16)
            ·rw [if_pos c17] at H
             have c17b0 : decide (0 ≤ (ji16)) = true := decide_eq_true c17
             clear c17
             by_cases c18 : (ji16) < (l0.length : Int)
             ·rw [if_pos c18] at H
              have c18b0 : decide ((ji16) < (l0.length : Int)) = true := decide_eq_true c18
              clear c18
              by_cases c19 : (Go.bits .or .i64 (Go.bits .or .i64 (Go.bits .or .i64 (wrap64 (rd l0 a1)) (wrap64 ((wrap64 (rd l0 (ji10))) * 256))) (wrap64 ((wrap64 (rd l0 (ji13))) * 65536))) (wrap64 ((wrap64 (rd l0 (ji16))) * 16777216))) > 4096
              ·rw [if_pos c19] at H
               have c19b0 : decide (4096 < (Go.bits .or .i64 (Go.bits .or .i64 (Go.bits .or .i64 (wrap64 (rd l0 a1)) (wrap64 ((wrap64 (rd l0 (ji10))) * 256))) (wrap64 ((wrap64 (rd l0 (ji13))) * 65536))) (wrap64 ((wrap64 (rd l0 (ji16))) * 16777216)))) = true := decide_eq_true c19
               clear c19
               simp only [Option.some.injEq, Prod.mk.injEq] at H
               obtain ⟨rfl, rfl, rfl⟩ := H
               have p187 : 0 ≤ (a1 : Int) := of_decide_eq_true (by first | (with_reducible assumption) | assumption)
               have q187 : a1 < (l0.length : Int) := of_decide_eq_true (by first | (with_reducible assumption) | assumption)
               obtain ⟨ad187, e187, hx187_0⟩ := Kd.at_int HR0.out a1 p187 q187
               cases e187
               replace hx187_0 := (HB.out.cell (World.block_lt_of_cell? w _ hx187_0)).trans hx187_0
               replace p187 := eq_true p187
               replace q187 := eq_true q187
               have p188 : 0 ≤ ((ji10) : Int) := of_decide_eq_true (by first | (with_reducible assumption) | assumption)
               have q188 : (ji10) < (l0.length : Int) := of_decide_eq_true (by first | (with_reducible assumption) | assumption)
               obtain ⟨ad188, e188, hx188_0⟩ := Kd.at_int HR0.out (ji10) p188 q188
               obtain rfl : ad187 = ad188 := (by injection e188)
               replace hx188_0 := (HB.out.cell (World.block_lt_of_cell? w _ hx188_0)).trans hx188_0
               replace p188 := eq_true p188
               replace q188 := eq_true q188
               have p189 : 0 ≤ ((ji13) : Int) := of_decide_eq_true (by first | (with_reducible assumption) | assumption)
               have q189 : (ji13) < (l0.length : Int) := of_decide_eq_true (by first | (with_reducible assumption) | assumption)
               obtain ⟨ad189, e189, hx189_0⟩ := Kd.at_int HR0.out (ji13) p189 q189
               obtain rfl : ad187 = ad189 := (by injection e189)
               replace hx189_0 := (HB.out.cell (World.block_lt_of_cell? w _ hx189_0)).trans hx189_0
               replace p189 := eq_true p189
               replace q189 := eq_true q189
               have p190 : 0 ≤ ((ji16) : Int) := of_decide_eq_true (by first | (with_reducible assumption) | assumption)
               have q190 : (ji16) < (l0.length : Int) := of_decide_eq_true (by first | (with_reducible assumption) | assumption)
               obtain ⟨ad190, e190, hx190_0⟩ := Kd.at_int HR0.out (ji16) p190 q190
               obtain rfl : ad187 = ad190 := (by injection e190)
               replace hx190_0 := (HB.out.cell (World.block_lt_of_cell? w _ hx190_0)).trans hx190_0
               replace p190 := eq_true p190
               replace q190 := eq_true q190
               go_wp2
               repeat (go_quiet (fail); try go_wp2)
               go_ret3
               exact ⟨_, by first | rfl | (simp [errW_none, errW_some] <;> rfl) | (simp only [← hji10, ← hji13, ← hji16]; first | rfl | (simp [errW_none, errW_some] <;> rfl)) | (simp [*, errW_none, errW_some] <;> rfl), by first | exact Kd.R_nil _ _ _ _ _ | exact Kd.N_nil _ _ _ _ _ | exact Kd.V_nil _ _ _ _ _ | exact Kd.Q_nil _ _ _ _ _ | exact Kd.S_nil _ _ _ _ _, by repeat (first | (with_reducible first | exact HB.out | apply wA | apply wN | apply wD) | exact HB.out)⟩
              ·rw [if_neg c19] at H
               have c19b0 : decide (4096 < (Go.bits .or .i64 (Go.bits .or .i64 (Go.bits .or .i64 (wrap64 (rd l0 a1)) (wrap64 ((wrap64 (rd l0 (ji10))) * 256))) (wrap64 ((wrap64 (rd l0 (ji13))) * 65536))) (wrap64 ((wrap64 (rd l0 (ji16))) * 16777216)))) = false := decide_eq_false c19
               clear c19
               by_cases c20 : (wrap64 ((wrap64 ((l0.length : Int) - a1)) - 8)) < (Go.bits .or .i64 (Go.bits .or .i64 (Go.bits .or .i64 (wrap64 (rd l0 a1)) (wrap64 ((wrap64 (rd l0 (ji10))) * 256))) (wrap64 ((wrap64 (rd l0 (ji13))) * 65536))) (wrap64 ((wrap64 (rd l0 (ji16))) * 16777216)))
               ·rw [if_pos c20] at H
                have c20b0 : decide ((wrap64 ((wrap64 ((l0.length : Int) - a1)) - 8)) < (Go.bits .or .i64 (Go.bits .or .i64 (Go.bits .or .i64 (wrap64 (rd l0 a1)) (wrap64 ((wrap64 (rd l0 (ji10))) * 256))) (wrap64 ((wrap64 (rd l0 (ji13))) * 65536))) (wrap64 ((wrap64 (rd l0 (ji16))) * 16777216)))) = true := decide_eq_true c20
                clear c20
                simp only [Option.some.injEq, Prod.mk.injEq] at H
                obtain ⟨rfl, rfl, rfl⟩ := H
                have p187 : 0 ≤ (a1 : Int) := of_decide_eq_true (by first | (with_reducible assumption) | assumption)
                have q187 : a1 < (l0.length : Int) := of_decide_eq_true (by first | (with_reducible assumption) | assumption)
                obtain ⟨ad187, e187, hx187_0⟩ := Kd.at_int HR0.out a1 p187 q187
                cases e187
                replace hx187_0 := (HB.out.cell (World.block_lt_of_cell? w _ hx187_0)).trans hx187_0
                replace p187 := eq_true p187
                replace q187 := eq_true q187
                have p188 : 0 ≤ ((ji10) : Int) := of_decide_eq_true (by first | (with_reducible assumption) | assumption)
                have q188 : (ji10) < (l0.length : Int) := of_decide_eq_true (by first | (with_reducible assumption) | assumption)
                obtain ⟨ad188, e188, hx188_0⟩ := Kd.at_int HR0.out (ji10) p188 q188
                obtain rfl : ad187 = ad188 := (by injection e188)
                replace hx188_0 := (HB.out.cell (World.block_lt_of_cell? w _ hx188_0)).trans hx188_0
                replace p188 := eq_true p188
                replace q188 := eq_true q188
                have p189 : 0 ≤ ((ji13) : Int) := of_decide_eq_true (by first | (with_reducible assumption) | assumption)
                have q189 : (ji13) < (l0.length : Int) := of_decide_eq_true (by first | (with_reducible assumption) | assumption)
                obtain ⟨ad189, e189, hx189_0⟩ := Kd.at_int HR0.out (ji13) p189 q189
                obtain rfl : ad187 = ad189 := (by injection e189)
                replace hx189_0 := (HB.out.cell (World.block_lt_of_cell? w _ hx189_0)).trans hx189_0
                replace p189 := eq_true p189
                replace q189 := eq_true q189
                have p190 : 0 ≤ ((ji16) : Int) := of_decide_eq_true (by first | (with_reducible assumption) | assumption)
                have q190 : (ji16) < (l0.length : Int) := of_decide_eq_true (by first | (with_reducible assumption) | assumption)
                obtain ⟨ad190, e190, hx190_0⟩ := Kd.at_int HR0.out (ji16) p190 q190
                obtain rfl : ad187 = ad190 := (by injection e190)
                replace hx190_0 := (HB.out.cell (World.block_lt_of_cell? w _ hx190_0)).trans hx190_0
                replace p190 := eq_true p190
                replace q190 := eq_true q190
                go_wp2
                repeat (go_quiet (fail); try go_wp2)
                go_ret3
                exact ⟨_, by first | rfl | (simp [errW_none, errW_some] <;> rfl) | (simp only [← hji10, ← hji13, ← hji16]; first | rfl | (simp [errW_none, errW_some] <;> rfl)) | (simp [*, errW_none, errW_some] <;> rfl), by first | exact Kd.R_nil _ _ _ _ _ | exact Kd.N_nil _ _ _ _ _ | exact Kd.V_nil _ _ _ _ _ | exact Kd.Q_nil _ _ _ _ _ | exact Kd.S_nil _ _ _ _ _, by repeat (first | (with_reducible first | exact HB.out | apply wA | apply wN | apply wD) | exact HB.out)⟩
               ·rw [if_neg c20] at H
                have c20b0 : decide ((wrap64 ((wrap64 ((l0.length : Int) - a1)) - 8)) < (Go.bits .or .i64 (Go.bits .or .i64 (Go.bits .or .i64 (wrap64 (rd l0 a1)) (wrap64 ((wrap64 (rd l0 (ji10))) * 256))) (wrap64 ((wrap64 (rd l0 (ji13))) * 65536))) (wrap64 ((wrap64 (rd l0 (ji16))) * 16777216)))) = false := decide_eq_false c20
                clear c20
                obtain ⟨ji21, hji21⟩ : ∃ j_ : Int, (wrap64 (a1 + 8)) = j_ := ⟨_, rfl⟩
                replace H : (if 0 ≤ (ji21) then (if (ji21) ≤ (wrap64 ((ji21) + (Go.bits .or .i64 (Go.bits .or .i64 (Go.bits .or .i64 (wrap64 (rd l0 a1)) (wrap64 ((wrap64 (rd l0 (ji10))) * 256))) (wrap64 ((wrap64 (rd l0 (ji13))) * 65536))) (wrap64 ((wrap64 (rd l0 (ji16))) * 16777216))))) then (if (wrap64 ((ji21) + (Go.bits .or .i64 (Go.bits .or .i64 (Go.bits .or .i64 (wrap64 (rd l0 a1)) (wrap64 ((wrap64 (rd l0 (ji10))) * 256))) (wrap64 ((wrap64 (rd l0 (ji13))) * 65536))) (wrap64 ((wrap64 (rd l0 (ji16))) * 16777216))))) ≤ (l0.length : Int) then ((rollbacknetref11_head.f ((l0.take ((wrap64 ((ji21) + (Go.bits .or .i64 (Go.bits .or .i64 (Go.bits .or .i64 (wrap64 (rd l0 a1)) (wrap64 ((wrap64 (rd l0 (ji10))) * 256))) (wrap64 ((wrap64 (rd l0 (ji13))) * 65536))) (wrap64 ((wrap64 (rd l0 (ji16))) * 16777216))))) : Int).toNat).drop ((ji21) : Int).toNat)).bind fun t192 => (rollbacknetref11_Next.l0 kj2 l0 a1 (Go.bits .or .i64 (Go.bits .or .i64 (Go.bits .or .i64 (wrap64 (rd l0 a1)) (wrap64 ((wrap64 (rd l0 (ji10))) * 256))) (wrap64 ((wrap64 (rd l0 (ji13))) * 65536))) (wrap64 ((wrap64 (rd l0 (ji16))) * 16777216))) ((l0.take ((wrap64 ((ji21) + (Go.bits .or .i64 (Go.bits .or .i64 (Go.bits .or .i64 (wrap64 (rd l0 a1)) (wrap64 ((wrap64 (rd l0 (ji10))) * 256))) (wrap64 ((wrap64 (rd l0 (ji13))) * 65536))) (wrap64 ((wrap64 (rd l0 (ji16))) * 16777216))))) : Int).toNat).drop ((ji21) : Int).toNat) t192 0)) else (none)) else (none)) else (none)) = some (r1, r2, r3) := by first | (rw [hji21] at H; exact H) | (simp only [hji21] at H ⊢; exact H)
                have hji21w : (IntKind.i64.wrap (a1 + 8)) = ji21 := (i64_w _).trans hji21
                by_cases c22 : 0 ≤ (ji21)
                ·rw [if_pos c22] at H
                 have c22b0 := eq_true c22
                 have c22b1 : decide (0 ≤ (ji21)) = true := decide_eq_true c22
                 clear c22
                 by_cases c23 : (ji21) ≤ (wrap64 ((ji21) + (Go.bits .or .i64 (Go.bits .or .i64 (Go.bits .or .i64 (wrap64 (rd l0 a1)) (wrap64 ((wrap64 (rd l0 (ji10))) * 256))) (wrap64 ((wrap64 (rd l0 (ji13))) * 65536))) (wrap64 ((wrap64 (rd l0 (ji16))) * 16777216)))))
                 ·rw [if_pos c23] at H
                  have c23b0 := eq_true c23
                  have c23b1 : decide ((ji21) ≤ (wrap64 ((ji21) + (Go.bits .or .i64 (Go.bits .or .i64 (Go.bits .or .i64 (wrap64 (rd l0 a1)) (wrap64 ((wrap64 (rd l0 (ji10))) * 256))) (wrap64 ((wrap64 (rd l0 (ji13))) * 65536))) (wrap64 ((wrap64 (rd l0 (ji16))) * 16777216)))))) = true := decide_eq_true c23
                  by_cases c24 : (wrap64 ((ji21) + (Go.bits .or .i64 (Go.bits .or .i64 (Go.bits .or .i64 (wrap64 (rd l0 a1)) (wrap64 ((wrap64 (rd l0 (ji10))) * 256))) (wrap64 ((wrap64 (rd l0 (ji13))) * 65536))) (wrap64 ((wrap64 (rd l0 (ji16))) * 16777216))))) ≤ (l0.length : Int)
                  ·rw [if_pos c24] at H
                   have c24b0 := eq_true c24
                   have c24b1 : decide ((wrap64 ((ji21) + (Go.bits .or .i64 (Go.bits .or .i64 (Go.bits .or .i64 (wrap64 (rd l0 a1)) (wrap64 ((wrap64 (rd l0 (ji10))) * 256))) (wrap64 ((wrap64 (rd l0 (ji13))) * 65536))) (wrap64 ((wrap64 (rd l0 (ji16))) * 16777216))))) ≤ (l0.length : Int)) = true := decide_eq_true c24
                   replace H := Option.bind_eq_some_iff.mp H
                   obtain ⟨t192, A250, H⟩ := H
                   replace H : (rollbacknetref11_Next.l0 kj2 l0 a1 (Go.bits .or .i64 (Go.bits .or .i64 (Go.bits .or .i64 (wrap64 (rd l0 a1)) (wrap64 ((wrap64 (rd l0 (ji10))) * 256))) (wrap64 ((wrap64 (rd l0 (ji13))) * 65536))) (wrap64 ((wrap64 (rd l0 (ji16))) * 16777216))) ((l0.take ((wrap64 ((ji21) + (Go.bits .or .i64 (Go.bits .or .i64 (Go.bits .or .i64 (wrap64 (rd l0 a1)) (wrap64 ((wrap64 (rd l0 (ji10))) * 256))) (wrap64 ((wrap64 (rd l0 (ji13))) * 65536))) (wrap64 ((wrap64 (rd l0 (ji16))) * 16777216))))) : Int).toNat).drop ((ji21) : Int).toNat) t192 0) = some (r1, r2, r3) := H
                   have A25 := aM A250
                   clear A250
                   have H' := aM H
                   clear H
                   have p187 : 0 ≤ (a1 : Int) := of_decide_eq_true (by first | (with_reducible assumption) | assumption)
                   have q187 : a1 < (l0.length : Int) := of_decide_eq_true (by first | (with_reducible assumption) | assumption)
                   obtain ⟨ad187, e187, hx187_0⟩ := Kd.at_int HR0.out a1 p187 q187
                   cases e187
                   replace hx187_0 := (HB.out.cell (World.block_lt_of_cell? w _ hx187_0)).trans hx187_0
                   replace p187 := eq_true p187
                   replace q187 := eq_true q187
                   have p188 : 0 ≤ ((ji10) : Int) := of_decide_eq_true (by first | (with_reducible assumption) | assumption)
                   have q188 : (ji10) < (l0.length : Int) := of_decide_eq_true (by first | (with_reducible assumption) | assumption)
                   obtain ⟨ad188, e188, hx188_0⟩ := Kd.at_int HR0.out (ji10) p188 q188
                   obtain rfl : ad187 = ad188 := (by injection e188)
                   replace hx188_0 := (HB.out.cell (World.block_lt_of_cell? w _ hx188_0)).trans hx188_0
                   replace p188 := eq_true p188
                   replace q188 := eq_true q188
                   have p189 : 0 ≤ ((ji13) : Int) := of_decide_eq_true (by first | (with_reducible assumption) | assumption)
                   have q189 : (ji13) < (l0.length : Int) := of_decide_eq_true (by first | (with_reducible assumption) | assumption)
                   obtain ⟨ad189, e189, hx189_0⟩ := Kd.at_int HR0.out (ji13) p189 q189
                   obtain rfl : ad187 = ad189 := (by injection e189)
                   replace hx189_0 := (HB.out.cell (World.block_lt_of_cell? w _ hx189_0)).trans hx189_0
                   replace p189 := eq_true p189
                   replace q189 := eq_true q189
                   have p190 : 0 ≤ ((ji16) : Int) := of_decide_eq_true (by first | (with_reducible assumption) | assumption)
                   have q190 : (ji16) < (l0.length : Int) := of_decide_eq_true (by first | (with_reducible assumption) | assumption)
                   obtain ⟨ad190, e190, hx190_0⟩ := Kd.at_int HR0.out (ji16) p190 q190
                   obtain rfl : ad187 = ad190 := (by injection e190)
                   replace hx190_0 := (HB.out.cell (World.block_lt_of_cell? w _ hx190_0)).trans hx190_0
                   replace p190 := eq_true p190
                   replace q190 := eq_true q190
                   obtain ⟨i026, hi026, _, hsz26, _⟩ := info_parts info5
                   obtain ⟨A26, hcut26, hA26, hC26⟩ := print_mid_of (P := Try.prog) (Value.int .u8) 0 22 5 .i64 .i64 Try.underlying22 hi026 hsz26 (some ad187) c0 l0 (ji21) (wrap64 ((ji21) + (Go.bits .or .i64 (Go.bits .or .i64 (Go.bits .or .i64 (wrap64 (rd l0 a1)) (wrap64 ((wrap64 (rd l0 (ji10))) * 256))) (wrap64 ((wrap64 (rd l0 (ji13))) * 65536))) (wrap64 ((wrap64 (rd l0 (ji16))) * 16777216))))) (of_decide_eq_true (by first | (with_reducible assumption) | assumption)) (by first | omega | exact of_decide_eq_true (by first | (with_reducible assumption) | assumption)) (of_decide_eq_true (by first | (with_reducible assumption) | assumption)) HC0.out
                   have HLn26 := aM (show ((l0.take ((wrap64 ((ji21) + (Go.bits .or .i64 (Go.bits .or .i64 (Go.bits .or .i64 (wrap64 (rd l0 a1)) (wrap64 ((wrap64 (rd l0 (ji10))) * 256))) (wrap64 ((wrap64 (rd l0 (ji13))) * 65536))) (wrap64 ((wrap64 (rd l0 (ji16))) * 16777216))))) : Int).toNat).drop ((ji21) : Int).toNat).length = ((wrap64 ((ji21) + (Go.bits .or .i64 (Go.bits .or .i64 (Go.bits .or .i64 (wrap64 (rd l0 a1)) (wrap64 ((wrap64 (rd l0 (ji10))) * 256))) (wrap64 ((wrap64 (rd l0 (ji13))) * 65536))) (wrap64 ((wrap64 (rd l0 (ji16))) * 16777216))))).toNat - (ji21).toNat) from (by rw [List.length_drop, List.length_take]; have h_ : ((wrap64 ((ji21) + (Go.bits .or .i64 (Go.bits .or .i64 (Go.bits .or .i64 (wrap64 (rd l0 a1)) (wrap64 ((wrap64 (rd l0 (ji10))) * 256))) (wrap64 ((wrap64 (rd l0 (ji13))) * 65536))) (wrap64 ((wrap64 (rd l0 (ji16))) * 16777216))))) : Int) ≤ (l0.length : Int) := of_decide_eq_true (by first | (with_reducible assumption) | assumption); omega))
                   have HR191 := aM (Kd.C_of_reads (h1 := fun _ => rfl) (hA26 _ (Kd.reads_of_C HR0.out)))
                   have HC191 := aM hC26
                   clear hA26 hC26 hi026 hsz26
                   go_wp2_with (first | (go_at_call 22; (try (conv => arg 3; rw [← HLn26.out])); (with_reducible refine (rollbacknetref11_head.calls _ _ ((l0.take ((wrap64 ((ji21) + (Go.bits .or .i64 (Go.bits .or .i64 (Go.bits .or .i64 (wrap64 (rd l0 a1)) (wrap64 ((wrap64 (rd l0 (ji10))) * 256))) (wrap64 ((wrap64 (rd l0 (ji13))) * 65536))) (wrap64 ((wrap64 (rd l0 (ji16))) * 16777216))))) : Int).toNat).drop ((ji21) : Int).toNat) t192 _ ?side1 ?side2 A25.out).mono ?_); (case side1 => repeat (first | exact (Kd.C_below HR191.out HB.out) | (with_reducible refine Kd.C_alloc ?_ _) | (with_reducible refine Kd.C_drewN ?_ _) | (with_reducible refine Kd.C_drew ?_))); (case side2 => exact HC191.out); rintro e w27 ⟨v193, rfl, ho0, hb⟩; have n0_ := aM (Kd.R_lower ho0 (below_size (by repeat (first | (with_reducible first | exact HB.out | apply wA | apply wN | apply wD) | exact HB.out)))); have n1_ := aM (below_step (by repeat (first | (with_reducible first | exact HB.out | apply wA | apply wN | apply wD) | exact HB.out)) hb); clear HB; have HO194 := n0_; have HB := n1_; clear n0_ n1_; (try clear hb); (try clear hb2); (try clear hk); (try clear hi); (try clear hge_); (try clear ho0)))
                   repeat (go_quiet (first | (go_at_call 22; (try (conv => arg 3; rw [← HLn26.out])); (with_reducible refine (rollbacknetref11_head.calls _ _ ((l0.take ((wrap64 ((ji21) + (Go.bits .or .i64 (Go.bits .or .i64 (Go.bits .or .i64 (wrap64 (rd l0 a1)) (wrap64 ((wrap64 (rd l0 (ji10))) * 256))) (wrap64 ((wrap64 (rd l0 (ji13))) * 65536))) (wrap64 ((wrap64 (rd l0 (ji16))) * 16777216))))) : Int).toNat).drop ((ji21) : Int).toNat) t192 _ ?side1 ?side2 A25.out).mono ?_); (case side1 => repeat (first | exact (Kd.C_below HR191.out HB.out) | (with_reducible refine Kd.C_alloc ?_ _) | (with_reducible refine Kd.C_drewN ?_ _) | (with_reducible refine Kd.C_drew ?_))); (case side2 => exact HC191.out); rintro e w27 ⟨v193, rfl, ho0, hb⟩; have n0_ := aM (Kd.R_lower ho0 (below_size (by repeat (first | (with_reducible first | exact HB.out | apply wA | apply wN | apply wD) | exact HB.out)))); have n1_ := aM (below_step (by repeat (first | (with_reducible first | exact HB.out | apply wA | apply wN | apply wD) | exact HB.out)) hb); clear HB; have HO194 := n0_; have HB := n1_; clear n0_ n1_; (try clear hb); (try clear hb2); (try clear hk); (try clear hi); (try clear hge_); (try clear ho0))); try go_wp2_with (first | (go_at_call 22; (try (conv => arg 3; rw [← HLn26.out])); (with_reducible refine (rollbacknetref11_head.calls _ _ ((l0.take ((wrap64 ((ji21) + (Go.bits .or .i64 (Go.bits .or .i64 (Go.bits .or .i64 (wrap64 (rd l0 a1)) (wrap64 ((wrap64 (rd l0 (ji10))) * 256))) (wrap64 ((wrap64 (rd l0 (ji13))) * 65536))) (wrap64 ((wrap64 (rd l0 (ji16))) * 16777216))))) : Int).toNat).drop ((ji21) : Int).toNat) t192 _ ?side1 ?side2 A25.out).mono ?_); (case side1 => repeat (first | exact (Kd.C_below HR191.out HB.out) | (with_reducible refine Kd.C_alloc ?_ _) | (with_reducible refine Kd.C_drewN ?_ _) | (with_reducible refine Kd.C_drew ?_))); (case side2 => exact HC191.out); rintro e w27 ⟨v193, rfl, ho0, hb⟩; have n0_ := aM (Kd.R_lower ho0 (below_size (by repeat (first | (with_reducible first | exact HB.out | apply wA | apply wN | apply wD) | exact HB.out)))); have n1_ := aM (below_step (by repeat (first | (with_reducible first | exact HB.out | apply wA | apply wN | apply wD) | exact HB.out)) hb); clear HB; have HO194 := n0_; have HB := n1_; clear n0_ n1_; (try clear hb); (try clear hb2); (try clear hk); (try clear hi); (try clear hge_); (try clear ho0))))
                   go_loopg [10] kj2 (fun kq v10 w' => ∃ (x10_2 : Int), v10 = .int .i64 x10_2 ∧ Aside0 (rollbacknetref11_Next.l0 kq l0 a1 (Go.bits .or .i64 (Go.bits .or .i64 (Go.bits .or .i64 (wrap64 (rd l0 a1)) (wrap64 ((wrap64 (rd l0 (ji10))) * 256))) (wrap64 ((wrap64 (rd l0 (ji13))) * 65536))) (wrap64 ((wrap64 (rd l0 (ji16))) * 16777216))) ((l0.take ((wrap64 ((ji21) + (Go.bits .or .i64 (Go.bits .or .i64 (Go.bits .or .i64 (wrap64 (rd l0 a1)) (wrap64 ((wrap64 (rd l0 (ji10))) * 256))) (wrap64 ((wrap64 (rd l0 (ji13))) * 65536))) (wrap64 ((wrap64 (rd l0 (ji16))) * 16777216))))) : Int).toNat).drop ((ji21) : Int).toNat) t192 x10_2 = some (r1, r2, r3)) ∧ Aside0 (kq ≤ kj2) ∧ Aside0 (Kd.R (Kd.int .u8) 5 w' w.heap.size (fun _ => True) v193 t192) ∧ Aside0 (Below w.heap.size w w'))
                   case atStart => exact ⟨(0), (by first | rfl | (simp; done) | (simp [*]; done)), H', ⟨Nat.le_refl _⟩, ⟨by (with_reducible repeat (first | apply Kd.R_alloc | apply Kd.R_drewN | apply Kd.R_drew)); exact HO194.out⟩, ⟨by repeat (first | (with_reducible first | exact HB.out | apply wA | apply wN | apply wD) | exact HB.out)⟩⟩
                   case round =>
                    clear H'
                    try clear c1
                    try clear p1
                    try clear q1
                    try clear hx1
                    try clear c2
                    try clear p2
                    try clear c4
                    try clear c4b0
                    try clear c5
                    try clear c6
                    try clear c6b0
                    try clear c6b1
                    try clear p6
                    try clear c7
                    try clear c7b0
                    try clear c8
                    try clear c8b0
                    try clear c9
                    try clear c9b0
                    try clear c11
                    try clear c11b0
                    try clear c12
                    try clear c12b0
                    try clear c14
                    try clear c14b0
                    try clear c15
                    try clear c15b0
                    try clear c17
                    try clear c17b0
                    try clear c18
                    try clear c18b0
                    try clear p18
                    try clear q18
                    try clear hx18
                    try clear c19
                    try clear c19b0
                    try clear p19
                    try clear q19
                    try clear hx19
                    try clear c20
                    try clear c20b0
                    try clear c22
                    try clear c22b0
                    try clear c22b1
                    try clear c23
                    try clear c23b0
                    try clear c23b1
                    try clear c24
                    try clear c24b0
                    try clear c24b1
                    try clear c26
                    try clear hx187_0
                    try clear hx188_0
                    try clear hx189_0
                    try clear hx190_0
                    try clear p187
                    try clear p188
                    try clear p189
                    try clear p190
                    try clear p2
                    try clear q187
                    try clear q188
                    try clear q189
                    try clear q190
                    obtain ⟨x10_2, rfl, HA, HK2, HO_9, HB⟩ := hrel
                    cases gk with
                    | zero => exact absurd HA.out (by simp [rollbacknetref11_Next.l0])
                    | succ k2 =>
                     have H := HA.out
                     clear HA
                     simp only [rollbacknetref11_Next.l0] at H
                     by_cases c28 : x10_2 < 8
                     ·rw [if_pos c28] at H
                      have c28b0 : decide (x10_2 < 8) = true := decide_eq_true c28
                      clear c28
                      by_cases c29 : 0 ≤ x10_2
                      ·rw [if_pos c29] at H
                       have c29b0 : decide (0 ≤ x10_2) = true := decide_eq_true c29
                       clear c29
                       by_cases c30 : x10_2 < (t192.length : Int)
                       ·rw [if_pos c30] at H
                        have c30b0 : decide (x10_2 < (t192.length : Int)) = true := decide_eq_true c30
                        clear c30
                        obtain ⟨ji31, hji31⟩ : ∃ j_ : Int, (wrap64 (a1 + x10_2)) = j_ := ⟨_, rfl⟩
                        replace H : (if 0 ≤ (ji31) then (if (ji31) < (l0.length : Int) then (if (rd t192 x10_2) = (rd l0 (ji31)) then (rollbacknetref11_Next.l0 k2 l0 a1 (Go.bits .or .i64 (Go.bits .or .i64 (Go.bits .or .i64 (wrap64 (rd l0 a1)) (wrap64 ((wrap64 (rd l0 (ji10))) * 256))) (wrap64 ((wrap64 (rd l0 (ji13))) * 65536))) (wrap64 ((wrap64 (rd l0 (ji16))) * 16777216))) ((l0.take ((wrap64 ((ji21) + (Go.bits .or .i64 (Go.bits .or .i64 (Go.bits .or .i64 (wrap64 (rd l0 a1)) (wrap64 ((wrap64 (rd l0 (ji10))) * 256))) (wrap64 ((wrap64 (rd l0 (ji13))) * 65536))) (wrap64 ((wrap64 (rd l0 (ji16))) * 16777216))))) : Int).toNat).drop ((ji21) : Int).toNat) t192 (wrap64 (x10_2 + 1))) else (some (([] : List Int), 0, 10))) else (none)) else (none)) = some (r1, r2, r3) := by first | (rw [hji31] at H; exact H) | (simp only [hji31] at H ⊢; exact H)
                        have hji31w : (IntKind.i64.wrap (a1 + x10_2)) = ji31 := (i64_w _).trans hji31
                        by_cases c32 : 0 ≤ (ji31)
                        ·rw [if_pos c32] at H
                         have c32b0 : decide (0 ≤ (ji31)) = true := decide_eq_true c32
                         clear c32
                         by_cases c33 : (ji31) < (l0.length : Int)
                         ·rw [if_pos c33] at H
                          have c33b0 : decide ((ji31) < (l0.length : Int)) = true := decide_eq_true c33
                          clear c33
                          by_cases c34 : (rd t192 x10_2) = (rd l0 (ji31))
                          ·rw [if_pos c34] at H
                           have c34b0 : ((rd t192 x10_2) == (rd l0 (ji31))) = true := beq_iff_eq.mpr c34
                           have c34b1 : ((rd t192 x10_2) != (rd l0 (ji31))) = false := bne_eq_false_iff_eq.mpr c34
                           clear c34
                           have H' := aM H
                           clear H
                           obtain ⟨Ao35, co35, eo35⟩ := Kd.R_slice HO_9.out
                           subst eo35
                           have p195 : 0 ≤ (x10_2 : Int) := of_decide_eq_true (by first | (with_reducible assumption) | assumption)
                           have q195 : x10_2 < (t192.length : Int) := of_decide_eq_true (by first | (with_reducible assumption) | assumption)
                           obtain ⟨ad195, e195, hx195_0⟩ := Kd.at_int (Kd.R_reads' HO_9.out).2.2 x10_2 p195 q195
                           cases e195
                           replace p195 := eq_true p195
                           replace q195 := eq_true q195
                           have p196 : 0 ≤ ((ji31) : Int) := of_decide_eq_true (by first | (with_reducible assumption) | assumption)
                           have q196 : (ji31) < (l0.length : Int) := of_decide_eq_true (by first | (with_reducible assumption) | assumption)
                           obtain ⟨ad196, e196, hx196_0⟩ := Kd.at_int HR0.out (ji31) p196 q196
                           obtain rfl : ad187 = ad196 := (by injection e196)
                           replace hx196_0 := (HB.out.cell (World.block_lt_of_cell? w _ hx196_0)).trans hx196_0
                           replace p196 := eq_true p196
                           replace q196 := eq_true q196
                           go_wp2
                           repeat (go_quiet (fail); try go_wp2)
                           go_roundg k2
                           case measure => have := HJ2.out; have := HK2.out; omega
                           case rel => exact ⟨(wrap64 (x10_2 + 1)), (by first | rfl | (simp; done) | (simp [*]; done)), H', ⟨by have := HJ2.out; have := HK2.out; omega⟩, ⟨by (with_reducible repeat (first | apply Kd.R_alloc | apply Kd.R_drewN | apply Kd.R_drew)); exact HO_9.out⟩, ⟨by repeat (first | (with_reducible first | exact HB.out | apply wA | apply wN | apply wD) | exact HB.out)⟩⟩
                          ·rw [if_neg c34] at H
                           have c34b0 : ((rd t192 x10_2) == (rd l0 (ji31))) = false := beq_eq_false_iff_ne.mpr c34
                           have c34b1 : ((rd t192 x10_2) != (rd l0 (ji31))) = true := bne_iff_ne.mpr c34
                           simp only [Option.some.injEq, Prod.mk.injEq] at H
                           obtain ⟨rfl, rfl, rfl⟩ := H
                           obtain ⟨Ao36, co36, eo36⟩ := Kd.R_slice HO_9.out
                           subst eo36
                           have p195 : 0 ≤ (x10_2 : Int) := of_decide_eq_true (by first | (with_reducible assumption) | assumption)
                           have q195 : x10_2 < (t192.length : Int) := of_decide_eq_true (by first | (with_reducible assumption) | assumption)
                           obtain ⟨ad195, e195, hx195_0⟩ := Kd.at_int (Kd.R_reads' HO_9.out).2.2 x10_2 p195 q195
                           cases e195
                           replace p195 := eq_true p195
                           replace q195 := eq_true q195
                           have p196 : 0 ≤ ((ji31) : Int) := of_decide_eq_true (by first | (with_reducible assumption) | assumption)
                           have q196 : (ji31) < (l0.length : Int) := of_decide_eq_true (by first | (with_reducible assumption) | assumption)
                           obtain ⟨ad196, e196, hx196_0⟩ := Kd.at_int HR0.out (ji31) p196 q196
                           obtain rfl : ad187 = ad196 := (by injection e196)
                           replace hx196_0 := (HB.out.cell (World.block_lt_of_cell? w _ hx196_0)).trans hx196_0
                           replace p196 := eq_true p196
                           replace q196 := eq_true q196
                           go_wp2
                           repeat (go_quiet (fail); try go_wp2)
                           go_ret3
                           exact ⟨_, by first | rfl | (simp [errW_none, errW_some] <;> rfl) | (simp only [← hji10, ← hji13, ← hji16, ← hji21, ← hji31]; first | rfl | (simp [errW_none, errW_some] <;> rfl)) | (simp [*, errW_none, errW_some] <;> rfl), by first | exact Kd.R_nil _ _ _ _ _ | exact Kd.N_nil _ _ _ _ _ | exact Kd.V_nil _ _ _ _ _ | exact Kd.Q_nil _ _ _ _ _ | exact Kd.S_nil _ _ _ _ _, by repeat (first | (with_reducible first | exact HB.out | apply wA | apply wN | apply wD) | exact HB.out)⟩
                         ·rw [if_neg c33] at H
                          exact absurd H (by simp)
                        ·rw [if_neg c32] at H
                         exact absurd H (by simp)
                       ·rw [if_neg c30] at H
                        exact absurd H (by simp)
                      ·rw [if_neg c29] at H
                       exact absurd H (by simp)
                     ·rw [if_neg c28] at H
                      have c28b0 : decide (x10_2 < 8) = false := decide_eq_false c28
                      clear c28
                      by_cases c37 : ([] : List Int).length + ((l0.take ((wrap64 ((ji21) + (Go.bits .or .i64 (Go.bits .or .i64 (Go.bits .or .i64 (wrap64 (rd l0 a1)) (wrap64 ((wrap64 (rd l0 (ji10))) * 256))) (wrap64 ((wrap64 (rd l0 (ji13))) * 65536))) (wrap64 ((wrap64 (rd l0 (ji16))) * 16777216))))) : Int).toNat).drop ((ji21) : Int).toNat).length < 140737488355328
                      ·rw [if_pos c37] at H
                       have LMc37 := aM c37
                       clear c37
                       obtain ⟨y197, hy197⟩ : ∃ y_ : List Int, y_ = (([] : List Int) ++ ((l0.take ((wrap64 ((ji21) + (Go.bits .or .i64 (Go.bits .or .i64 (Go.bits .or .i64 (wrap64 (rd l0 a1)) (wrap64 ((wrap64 (rd l0 (ji10))) * 256))) (wrap64 ((wrap64 (rd l0 (ji13))) * 65536))) (wrap64 ((wrap64 (rd l0 (ji16))) * 16777216))))) : Int).toNat).drop ((ji21) : Int).toNat)) := ⟨_, rfl⟩
                       replace H : (some (y197, wrap64 ((wrap64 (a1 + 8)) + (Go.bits .or .i64 (Go.bits .or .i64 (Go.bits .or .i64 (wrap64 (rd l0 a1)) (wrap64 ((wrap64 (rd l0 (ji10))) * 256))) (wrap64 ((wrap64 (rd l0 (ji13))) * 65536))) (wrap64 ((wrap64 (rd l0 (ji16))) * 16777216)))), 0)) = some (r1, r2, r3) := by first | (rw [hy197]; with_reducible exact H) | (have H2_ := (Option.bind_some _ _).symm.trans H; rw [hy197]; with_reducible exact H2_) | (have H2_ := (Option.bind_some _ _).symm.trans H; with_reducible exact H2_) | with_reducible exact H | (rw [hy197]; exact H) | exact H
                       have Ny197 := aM hy197
                       clear hy197
                       simp only [Option.some.injEq, Prod.mk.injEq] at H
                       obtain ⟨rfl, rfl, rfl⟩ := H
                       go_wp2_with (first | ((with_reducible refine gate_builtin (b := .append) (xs := #[(.const (.slice none 0 0)), .tmp 94]) rfl ?_); (try (refine gate_guard (by rfl) ?_; dsimp only)); at_builtin; refine Kd.R_append_rows (Kd.int .u8) (w0 := w) w.heap.size rfl (.const (.slice none 0 0)) (.tmp 94) 22 5 (.int .u8 0) 1 rfl Try.underlying22 info5 rfl (by decide) (by omega) (.slice none 0 0) ([] : List Int) ((l0.take ((wrap64 ((ji21) + (Go.bits .or .i64 (Go.bits .or .i64 (Go.bits .or .i64 (wrap64 (rd l0 a1)) (wrap64 ((wrap64 (rd l0 (ji10))) * 256))) (wrap64 ((wrap64 (rd l0 (ji13))) * 65536))) (wrap64 ((wrap64 (rd l0 (ji16))) * 16777216))))) : Int).toNat).drop ((ji21) : Int).toNat) _ _ _ (fun k_ => some k_ ≠ (v193 : Value).ownBlock) (fun _ => False) rfl rfl ?aO ?aR (fun _ _ h => h) (fun _ h => h.elim) ?aF ?aB ?aS ?aL ?_; (case aR => first | ((conv => (arg 5; rw [← HLn26.out])); repeat (first | exact (Kd.C_below HR191.out HB.out) | (with_reducible refine Kd.C_alloc ?_ _) | (with_reducible refine Kd.C_drewN ?_ _) | (with_reducible refine Kd.C_drew ?_))) | (rw [← HLn26.out]; repeat (first | exact (Kd.C_below HR191.out HB.out) | (with_reducible refine Kd.C_alloc ?_ _) | (with_reducible refine Kd.C_drewN ?_ _) | (with_reducible refine Kd.C_drew ?_))) | (repeat (first | exact (Kd.C_below HR191.out HB.out) | (with_reducible refine Kd.C_alloc ?_ _) | (with_reducible refine Kd.C_drewN ?_ _) | (with_reducible refine Kd.C_drew ?_)))); (case aB => exact (by repeat (first | (with_reducible first | exact HB.out | apply wA | apply wN | apply wD) | exact HB.out))); (case aF => exact (fun k_ hk => Kd.fresh' (Kd.R_lt (by (with_reducible repeat (first | apply Kd.R_alloc | apply Kd.R_drewN | apply Kd.R_drew)); exact HO_9.out)) k_ hk)); (case aO => exact ((Kd.R_nil _ _ _ _ (fun k_ => some k_ ≠ (v193 : Value).ownBlock)))); (case aS => exact (below_size (by repeat (first | (with_reducible first | exact HB.out | apply wA | apply wN | apply wD) | exact HB.out)))); (case aL => have := LMc37.out; have hlx_ := (HLn26.out); omega); intro v198 w38 ho hb hg hat; rw [← Ny197.out] at ho; have n0_ := aM (Kd.R_after (Kd.R_apart_nil (by (with_reducible repeat (first | apply Kd.R_alloc | apply Kd.R_drewN | apply Kd.R_drew)); exact HO_9.out)) hg hat); have n1_ := aM (hb); have n2_ := aM (ho); clear HO_9; clear HB; have HO_9 := n0_; have HB := n1_; have HO199 := n2_; clear n0_ n1_ n2_; clear ho hb hg hat))
                       repeat (go_quiet (first | ((with_reducible refine gate_builtin (b := .append) (xs := #[(.const (.slice none 0 0)), .tmp 94]) rfl ?_); (try (refine gate_guard (by rfl) ?_; dsimp only)); at_builtin; refine Kd.R_append_rows (Kd.int .u8) (w0 := w) w.heap.size rfl (.const (.slice none 0 0)) (.tmp 94) 22 5 (.int .u8 0) 1 rfl Try.underlying22 info5 rfl (by decide) (by omega) (.slice none 0 0) ([] : List Int) ((l0.take ((wrap64 ((ji21) + (Go.bits .or .i64 (Go.bits .or .i64 (Go.bits .or .i64 (wrap64 (rd l0 a1)) (wrap64 ((wrap64 (rd l0 (ji10))) * 256))) (wrap64 ((wrap64 (rd l0 (ji13))) * 65536))) (wrap64 ((wrap64 (rd l0 (ji16))) * 16777216))))) : Int).toNat).drop ((ji21) : Int).toNat) _ _ _ (fun k_ => some k_ ≠ (v193 : Value).ownBlock) (fun _ => False) rfl rfl ?aO ?aR (fun _ _ h => h) (fun _ h => h.elim) ?aF ?aB ?aS ?aL ?_; (case aR => first | ((conv => (arg 5; rw [← HLn26.out])); repeat (first | exact (Kd.C_below HR191.out HB.out) | (with_reducible refine Kd.C_alloc ?_ _) | (with_reducible refine Kd.C_drewN ?_ _) | (with_reducible refine Kd.C_drew ?_))) | (rw [← HLn26.out]; repeat (first | exact (Kd.C_below HR191.out HB.out) | (with_reducible refine Kd.C_alloc ?_ _) | (with_reducible refine Kd.C_drewN ?_ _) | (with_reducible refine Kd.C_drew ?_))) | (repeat (first | exact (Kd.C_below HR191.out HB.out) | (with_reducible refine Kd.C_alloc ?_ _) | (with_reducible refine Kd.C_drewN ?_ _) | (with_reducible refine Kd.C_drew ?_)))); (case aB => exact (by repeat (first | (with_reducible first | exact HB.out | apply wA | apply wN | apply wD) | exact HB.out))); (case aF => exact (fun k_ hk => Kd.fresh' (Kd.R_lt (by (with_reducible repeat (first | apply Kd.R_alloc | apply Kd.R_drewN | apply Kd.R_drew)); exact HO_9.out)) k_ hk)); (case aO => exact ((Kd.R_nil _ _ _ _ (fun k_ => some k_ ≠ (v193 : Value).ownBlock)))); (case aS => exact (below_size (by repeat (first | (with_reducible first | exact HB.out | apply wA | apply wN | apply wD) | exact HB.out)))); (case aL => have := LMc37.out; have hlx_ := (HLn26.out); omega); intro v198 w38 ho hb hg hat; rw [← Ny197.out] at ho; have n0_ := aM (Kd.R_after (Kd.R_apart_nil (by (with_reducible repeat (first | apply Kd.R_alloc | apply Kd.R_drewN | apply Kd.R_drew)); exact HO_9.out)) hg hat); have n1_ := aM (hb); have n2_ := aM (ho); clear HO_9; clear HB; have HO_9 := n0_; have HB := n1_; have HO199 := n2_; clear n0_ n1_ n2_; clear ho hb hg hat)); try go_wp2_with (first | ((with_reducible refine gate_builtin (b := .append) (xs := #[(.const (.slice none 0 0)), .tmp 94]) rfl ?_); (try (refine gate_guard (by rfl) ?_; dsimp only)); at_builtin; refine Kd.R_append_rows (Kd.int .u8) (w0 := w) w.heap.size rfl (.const (.slice none 0 0)) (.tmp 94) 22 5 (.int .u8 0) 1 rfl Try.underlying22 info5 rfl (by decide) (by omega) (.slice none 0 0) ([] : List Int) ((l0.take ((wrap64 ((ji21) + (Go.bits .or .i64 (Go.bits .or .i64 (Go.bits .or .i64 (wrap64 (rd l0 a1)) (wrap64 ((wrap64 (rd l0 (ji10))) * 256))) (wrap64 ((wrap64 (rd l0 (ji13))) * 65536))) (wrap64 ((wrap64 (rd l0 (ji16))) * 16777216))))) : Int).toNat).drop ((ji21) : Int).toNat) _ _ _ (fun k_ => some k_ ≠ (v193 : Value).ownBlock) (fun _ => False) rfl rfl ?aO ?aR (fun _ _ h => h) (fun _ h => h.elim) ?aF ?aB ?aS ?aL ?_; (case aR => first | ((conv => (arg 5; rw [← HLn26.out])); repeat (first | exact (Kd.C_below HR191.out HB.out) | (with_reducible refine Kd.C_alloc ?_ _) | (with_reducible refine Kd.C_drewN ?_ _) | (with_reducible refine Kd.C_drew ?_))) | (rw [← HLn26.out]; repeat (first | exact (Kd.C_below HR191.out HB.out) | (with_reducible refine Kd.C_alloc ?_ _) | (with_reducible refine Kd.C_drewN ?_ _) | (with_reducible refine Kd.C_drew ?_))) | (repeat (first | exact (Kd.C_below HR191.out HB.out) | (with_reducible refine Kd.C_alloc ?_ _) | (with_reducible refine Kd.C_drewN ?_ _) | (with_reducible refine Kd.C_drew ?_)))); (case aB => exact (by repeat (first | (with_reducible first | exact HB.out | apply wA | apply wN | apply wD) | exact HB.out))); (case aF => exact (fun k_ hk => Kd.fresh' (Kd.R_lt (by (with_reducible repeat (first | apply Kd.R_alloc | apply Kd.R_drewN | apply Kd.R_drew)); exact HO_9.out)) k_ hk)); (case aO => exact ((Kd.R_nil _ _ _ _ (fun k_ => some k_ ≠ (v193 : Value).ownBlock)))); (case aS => exact (below_size (by repeat (first | (with_reducible first | exact HB.out | apply wA | apply wN | apply wD) | exact HB.out)))); (case aL => have := LMc37.out; have hlx_ := (HLn26.out); omega); intro v198 w38 ho hb hg hat; rw [← Ny197.out] at ho; have n0_ := aM (Kd.R_after (Kd.R_apart_nil (by (with_reducible repeat (first | apply Kd.R_alloc | apply Kd.R_drewN | apply Kd.R_drew)); exact HO_9.out)) hg hat); have n1_ := aM (hb); have n2_ := aM (ho); clear HO_9; clear HB; have HO_9 := n0_; have HB := n1_; have HO199 := n2_; clear n0_ n1_ n2_; clear ho hb hg hat)))
                       go_ret3
                       exact ⟨_, by first | rfl | (simp [errW_none, errW_some] <;> rfl) | (simp only [← hji10, ← hji13, ← hji16, ← hji21]; first | rfl | (simp [errW_none, errW_some] <;> rfl)) | (simp [*, errW_none, errW_some] <;> rfl), by (with_reducible repeat (first | apply Kd.R_alloc | apply Kd.R_drewN | apply Kd.R_drew)); exact Kd.R_mono HO199.out (fun _ hk => trivial), by repeat (first | (with_reducible first | exact HB.out | apply wA | apply wN | apply wD) | exact HB.out)⟩
                      ·rw [if_neg c37] at H
                       exact absurd H (by simp)
                  ·rw [if_neg c24] at H
                   exact absurd H (by simp)
                 ·rw [if_neg c23] at H
                  exact absurd H (by simp)
                ·rw [if_neg c22] at H
                 exact absurd H (by simp)
             ·rw [if_neg c18] at H
              exact absurd H (by simp)
            ·rw [if_neg c17] at H
             exact absurd H (by simp)
           ·rw [if_neg c15] at H
            exact absurd H (by simp)
          ·rw [if_neg c14] at H
           exact absurd H (by simp)
         ·rw [if_neg c12] at H
          exact absurd H (by simp)
        ·rw [if_neg c11] at H
         exact absurd H (by simp)
       ·rw [if_neg c9] at H
        exact absurd H (by simp)
      ·rw [if_neg c8] at H
       exact absurd H (by simp)

end Go.Proofs.Ytmlphabhldahlaa.PFk
