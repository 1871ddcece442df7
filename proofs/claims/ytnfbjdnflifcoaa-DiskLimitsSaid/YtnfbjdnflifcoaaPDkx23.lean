-- Laid by wip/tools/xprint.py, a program of this session over the kit's print: functions as Lean functions, each with its contract.
import Derived.Test.YtnfbjdnflifcoaaPDkx0
import Derived.Test.YtnfbjdnflifcoaaPDkx5
import Derived.Test.YtnfbjdnflifcoaaPDkx6
import Derived.Test.YtnfbjdnflifcoaaPDkx9
import Derived.Test.YtnfbjdnflifcoaaPDkx22
namespace Go.Proofs.Ytnfbjdnflifcoaa.PDk
open Go.RowKit Go.Proofs.YtnfbjdnflifcoaaW.PrintWords Go.Proofs.YtnfbjdnflifcoaaW.PrintLast Go.Proofs.YtnfbjdnflifcoaaW.PrintMore
attribute [local go_sem] max2_int min2_int max_two min_two max_three min_three max_four min_four   -- for this text's walks alone
set_option linter.unusedVariables false
set_option linter.unusedSimpArgs false

/-! ### rollbacknetlaw10_DiskLimits: function 6 -/
def rollbacknetlaw10_DiskLimits.j0 : Nat → Int → Int → List Int → Int → Bool → List (S48) → Option (Bool)
 | 0, _, _, _, _, _, _ => none
 | k + 1, x0, x1, x7, x10, x61, x368000 => if x61 = true then (some false) else (if (wrap64 (x1)) > (wrap64 (x0)) then (if x10 = 5 then (some ((x368000.length : Int) == 0)) else (some false)) else (if x10 = 0 then (if (x368000.length : Int) = 1 then (if 0 < (x368000.length : Int) then (some ((((rd_T48 x368000 0).f1).length : Int) == (wrap64 ((x7.length : Int) + (wrap64 (x1)))))) else (none)) else (some false)) else (some false)))
def rollbacknetlaw10_DiskLimits.f (k : Nat) (a0 : Int) (a1 : Int) : Option (Bool) := (rollbacknetlaw10_awake.f k).bind fun t347 => (if t347 = true then ((disk_New.f 1).bind fun bt348 => (if 0 ≤ (wrap64 (65536 - (wrap64 (a0)))) then (if (wrap64 (65536 - (wrap64 (a0))) : Int).toNat ≤ 281474976710656 then ((some (List.replicate (wrap64 (65536 - (wrap64 (a0))) : Int).toNat 0 : List Int)).bind fun y353 => ((disk_Append.f k bt348.1 0 y353).bind fun bt356 => (if 0 ≤ a1 then (if (a1 : Int).toNat ≤ 281474976710656 then ((disk_Append.f k bt356.1 0 (List.replicate (a1 : Int).toNat 0)).bind fun bt363 => (if 0 ≤ (wrap64 (65536 + (wrap64 (a1)))) then (if (wrap64 (65536 + (wrap64 (a1))) : Int).toNat ≤ 281474976710656 then ((disk_Replace.f k bt356.1 0 (List.replicate (wrap64 (65536 + (wrap64 (a1))) : Int).toNat 0)).bind fun bt371 => (if bt356.2 = 0 then (if ((bt371.2 == 0) != (a1 == 0)) = true then (rollbacknetlaw10_DiskLimits.j0 k a0 a1 y353 bt363.2 true bt363.1) else (if bt371.2 = 0 then (rollbacknetlaw10_DiskLimits.j0 k a0 a1 y353 bt363.2 false bt363.1) else (rollbacknetlaw10_DiskLimits.j0 k a0 a1 y353 bt363.2 (bt371.2 != 5) bt363.1))) else (rollbacknetlaw10_DiskLimits.j0 k a0 a1 y353 bt363.2 true bt363.1))) else (none)) else (none))) else (none)) else (none)))) else (none)) else (none))) else (some false))
theorem rollbacknetlaw10_DiskLimits.mono_l : ∀ k, (∀ y0 y1 y2 y3 y4 y5, LeO (rollbacknetlaw10_DiskLimits.j0 k y0 y1 y2 y3 y4 y5) (rollbacknetlaw10_DiskLimits.j0 (k + 1) y0 y1 y2 y3 y4 y5))
 | 0 => fun _ _ _ _ _ _ r h => by simp [rollbacknetlaw10_DiskLimits.j0] at h
 | k + 1 => by
  have ih0 := rollbacknetlaw10_DiskLimits.mono_l k
  ·intro y0 y1 y2 y3 y4 y5
   unfold rollbacknetlaw10_DiskLimits.j0
   repeat' first
   | (with_reducible exact ih0 _ _ _ _ _ _)
   | (with_reducible exact disk_Append.mono _ _ _ _)
   | (with_reducible exact disk_Replace.mono _ _ _ _)
   | (with_reducible exact rollbacknetlaw10_awake.mono _)
   | (with_reducible exact LeO.refl _)
   | (with_reducible exact LeO.none _)
   | (with_reducible refine LeO.ite ?_ ?_)
   | (with_reducible refine LeO.bind ?_ (fun _ => ?_))
   | exact ih0 _ _ _ _ _ _
   | exact disk_Append.mono _ _ _ _
   | exact disk_Replace.mono _ _ _ _
   | exact rollbacknetlaw10_awake.mono _
   | exact LeO.none _
   | refine LeO.ite ?_ ?_
   | refine LeO.bind ?_ (fun _ => ?_)
theorem rollbacknetlaw10_DiskLimits.mono : ∀ a0 a1 k, LeO (rollbacknetlaw10_DiskLimits.f k a0 a1) (rollbacknetlaw10_DiskLimits.f (k + 1) a0 a1) := by
 intro a0 a1 k
 have ih0 := rollbacknetlaw10_DiskLimits.mono_l k
 unfold rollbacknetlaw10_DiskLimits.f
 repeat' first
   | (with_reducible exact ih0 _ _ _ _ _ _)
   | (with_reducible exact disk_Append.mono _ _ _ _)
   | (with_reducible exact disk_Replace.mono _ _ _ _)
   | (with_reducible exact rollbacknetlaw10_awake.mono _)
   | (with_reducible exact LeO.refl _)
   | (with_reducible exact LeO.none _)
   | (with_reducible refine LeO.ite ?_ ?_)
   | (with_reducible refine LeO.bind ?_ (fun _ => ?_))
   | exact ih0 _ _ _ _ _ _
   | exact disk_Append.mono _ _ _ _
   | exact disk_Replace.mono _ _ _ _
   | exact rollbacknetlaw10_awake.mono _
   | exact LeO.none _
   | refine LeO.ite ?_ ?_
   | refine LeO.bind ?_ (fun _ => ?_)
def rollbacknetlaw10_DiskLimits.T6 : Bool × List (List Nat × List Nat) := (true, [([], []), ([], []), ([1, 1], [1]), ([0, 2], [0, 2]), ([3], [3]), ([4], [4]), ([4], [4]), ([], []), ([7, 5, 3, 0, 1, 2, 3, 4, 5, 7], [5, 7]), ([6, 8, 0, 1, 2, 3, 4, 5, 6, 7, 8], [6])])
def rollbacknetlaw10_DiskLimits.B6 : List Nat := [0, 0, 2, 7, 15, 31, 31, 0, 191, 511]
theorem rollbacknetlaw10_DiskLimits.tab6 : rtab .any (opsOf Try.f6 6) = rollbacknetlaw10_DiskLimits.T6 := by kernel_rfl
theorem rollbacknetlaw10_DiskLimits.bits6 : waitsOk rollbacknetlaw10_DiskLimits.T6.2 rollbacknetlaw10_DiskLimits.B6 = true := by kernel_rfl
def rollbacknetlaw10_DiskLimits.T7 : Bool × List (List Nat × List Nat) := (true, [([], []), ([], []), ([1], [1]), ([2], [2]), ([3, 3], [3]), ([0, 4], [0, 4]), ([5], [5]), ([6], [6]), ([6], [6]), ([], []), ([9, 7, 5, 0, 1, 2, 3, 4, 5, 6, 7, 9], [7, 9]), ([8, 10, 0, 1, 2, 3, 4, 5, 6, 7, 8, 9, 10], [8])])
def rollbacknetlaw10_DiskLimits.B7 : List Nat := [0, 0, 2, 6, 14, 31, 63, 127, 127, 0, 767, 2047]
theorem rollbacknetlaw10_DiskLimits.tab7 : rtab .any (opsOf Try.f6 7) = rollbacknetlaw10_DiskLimits.T7 := by kernel_rfl
theorem rollbacknetlaw10_DiskLimits.bits7 : waitsOk rollbacknetlaw10_DiskLimits.T7.2 rollbacknetlaw10_DiskLimits.B7 = true := by kernel_rfl
set_option maxHeartbeats 8000000 in
set_option maxRecDepth 100000 in
theorem rollbacknetlaw10_DiskLimits.calls (k : Nat) (a0 : Int) (a1 : Int) (r : Bool) (w : World) (h : rollbacknetlaw10_DiskLimits.f k a0 a1 = some r) :
  Calls Try.prog 6 #[.int .u8 a0, .int .u8 a1] w fun e w' => e = .returned (.bool r) ∧ Below w.heap.size w w' := by
 have hu24 := Try.underlying24
 have HB := aM (Below.refl w.heap.size w)
 have H : ((rollbacknetlaw10_awake.f k).bind fun t347 => (if t347 = true then ((disk_New.f 1).bind fun bt348 => (if 0 ≤ (wrap64 (65536 - (wrap64 (a0)))) then (if (wrap64 (65536 - (wrap64 (a0))) : Int).toNat ≤ 281474976710656 then ((some (List.replicate (wrap64 (65536 - (wrap64 (a0))) : Int).toNat 0 : List Int)).bind fun y353 => ((disk_Append.f k bt348.1 0 y353).bind fun bt356 => (if 0 ≤ a1 then (if (a1 : Int).toNat ≤ 281474976710656 then ((disk_Append.f k bt356.1 0 (List.replicate (a1 : Int).toNat 0)).bind fun bt363 => (if 0 ≤ (wrap64 (65536 + (wrap64 (a1)))) then (if (wrap64 (65536 + (wrap64 (a1))) : Int).toNat ≤ 281474976710656 then ((disk_Replace.f k bt356.1 0 (List.replicate (wrap64 (65536 + (wrap64 (a1))) : Int).toNat 0)).bind fun bt371 => (if bt356.2 = 0 then (if ((bt371.2 == 0) != (a1 == 0)) = true then (rollbacknetlaw10_DiskLimits.j0 k a0 a1 y353 bt363.2 true bt363.1) else (if bt371.2 = 0 then (rollbacknetlaw10_DiskLimits.j0 k a0 a1 y353 bt363.2 false bt363.1) else (rollbacknetlaw10_DiskLimits.j0 k a0 a1 y353 bt363.2 (bt371.2 != 5) bt363.1))) else (rollbacknetlaw10_DiskLimits.j0 k a0 a1 y353 bt363.2 true bt363.1))) else (none)) else (none))) else (none)) else (none)))) else (none)) else (none))) else (some false))) = some r := h
 clear h
 replace H := Option.bind_eq_some_iff.mp H
 obtain ⟨t347, A30, H⟩ := H
 replace H : (if t347 = true then ((disk_New.f 1).bind fun bt348 => (if 0 ≤ (wrap64 (65536 - (wrap64 (a0)))) then (if (wrap64 (65536 - (wrap64 (a0))) : Int).toNat ≤ 281474976710656 then ((some (List.replicate (wrap64 (65536 - (wrap64 (a0))) : Int).toNat 0 : List Int)).bind fun y353 => ((disk_Append.f k bt348.1 0 y353).bind fun bt356 => (if 0 ≤ a1 then (if (a1 : Int).toNat ≤ 281474976710656 then ((disk_Append.f k bt356.1 0 (List.replicate (a1 : Int).toNat 0)).bind fun bt363 => (if 0 ≤ (wrap64 (65536 + (wrap64 (a1)))) then (if (wrap64 (65536 + (wrap64 (a1))) : Int).toNat ≤ 281474976710656 then ((disk_Replace.f k bt356.1 0 (List.replicate (wrap64 (65536 + (wrap64 (a1))) : Int).toNat 0)).bind fun bt371 => (if bt356.2 = 0 then (if ((bt371.2 == 0) != (a1 == 0)) = true then (rollbacknetlaw10_DiskLimits.j0 k a0 a1 y353 bt363.2 true bt363.1) else (if bt371.2 = 0 then (rollbacknetlaw10_DiskLimits.j0 k a0 a1 y353 bt363.2 false bt363.1) else (rollbacknetlaw10_DiskLimits.j0 k a0 a1 y353 bt363.2 (bt371.2 != 5) bt363.1))) else (rollbacknetlaw10_DiskLimits.j0 k a0 a1 y353 bt363.2 true bt363.1))) else (none)) else (none))) else (none)) else (none)))) else (none)) else (none))) else (some false)) = some r := H
 have A3 := aM A30
 clear A30
 by_cases c4 : t347 = true
 ·subst c4
  have H1 : ((disk_New.f 1).bind fun bt348 => (if 0 ≤ (wrap64 (65536 - (wrap64 (a0)))) then (if (wrap64 (65536 - (wrap64 (a0))) : Int).toNat ≤ 281474976710656 then ((some (List.replicate (wrap64 (65536 - (wrap64 (a0))) : Int).toNat 0 : List Int)).bind fun y353 => ((disk_Append.f k bt348.1 0 y353).bind fun bt356 => (if 0 ≤ a1 then (if (a1 : Int).toNat ≤ 281474976710656 then ((disk_Append.f k bt356.1 0 (List.replicate (a1 : Int).toNat 0)).bind fun bt363 => (if 0 ≤ (wrap64 (65536 + (wrap64 (a1)))) then (if (wrap64 (65536 + (wrap64 (a1))) : Int).toNat ≤ 281474976710656 then ((disk_Replace.f k bt356.1 0 (List.replicate (wrap64 (65536 + (wrap64 (a1))) : Int).toNat 0)).bind fun bt371 => (if bt356.2 = 0 then (if ((bt371.2 == 0) != (a1 == 0)) = true then (rollbacknetlaw10_DiskLimits.j0 k a0 a1 y353 bt363.2 true bt363.1) else (if bt371.2 = 0 then (rollbacknetlaw10_DiskLimits.j0 k a0 a1 y353 bt363.2 false bt363.1) else (rollbacknetlaw10_DiskLimits.j0 k a0 a1 y353 bt363.2 (bt371.2 != 5) bt363.1))) else (rollbacknetlaw10_DiskLimits.j0 k a0 a1 y353 bt363.2 true bt363.1))) else (none)) else (none))) else (none)) else (none)))) else (none)) else (none))) = some r := by rw [if_pos rfl] at H; exact H
  clear H
  have H := H1
  clear H1
  replace H := Option.bind_eq_some_iff.mp H
  obtain ⟨⟨t348, t351⟩, A50, H⟩ := H
  replace H : (if 0 ≤ (wrap64 (65536 - (wrap64 (a0)))) then (if (wrap64 (65536 - (wrap64 (a0))) : Int).toNat ≤ 281474976710656 then ((some (List.replicate (wrap64 (65536 - (wrap64 (a0))) : Int).toNat 0 : List Int)).bind fun y353 => ((disk_Append.f k t348 0 y353).bind fun bt356 => (if 0 ≤ a1 then (if (a1 : Int).toNat ≤ 281474976710656 then ((disk_Append.f k bt356.1 0 (List.replicate (a1 : Int).toNat 0)).bind fun bt363 => (if 0 ≤ (wrap64 (65536 + (wrap64 (a1)))) then (if (wrap64 (65536 + (wrap64 (a1))) : Int).toNat ≤ 281474976710656 then ((disk_Replace.f k bt356.1 0 (List.replicate (wrap64 (65536 + (wrap64 (a1))) : Int).toNat 0)).bind fun bt371 => (if bt356.2 = 0 then (if ((bt371.2 == 0) != (a1 == 0)) = true then (rollbacknetlaw10_DiskLimits.j0 k a0 a1 y353 bt363.2 true bt363.1) else (if bt371.2 = 0 then (rollbacknetlaw10_DiskLimits.j0 k a0 a1 y353 bt363.2 false bt363.1) else (rollbacknetlaw10_DiskLimits.j0 k a0 a1 y353 bt363.2 (bt371.2 != 5) bt363.1))) else (rollbacknetlaw10_DiskLimits.j0 k a0 a1 y353 bt363.2 true bt363.1))) else (none)) else (none))) else (none)) else (none)))) else (none)) else (none)) = some r := H
  have A5 := aM A50
  clear A50
  obtain ⟨ji6, hji6⟩ : ∃ j_ : Int, (wrap64 (65536 - (wrap64 (a0)))) = j_ := ⟨_, rfl⟩
  replace H : (if 0 ≤ (ji6) then (if (ji6 : Int).toNat ≤ 281474976710656 then ((some (List.replicate (ji6 : Int).toNat 0 : List Int)).bind fun y353 => ((disk_Append.f k t348 0 y353).bind fun bt356 => (if 0 ≤ a1 then (if (a1 : Int).toNat ≤ 281474976710656 then ((disk_Append.f k bt356.1 0 (List.replicate (a1 : Int).toNat 0)).bind fun bt363 => (if 0 ≤ (wrap64 (65536 + (wrap64 (a1)))) then (if (wrap64 (65536 + (wrap64 (a1))) : Int).toNat ≤ 281474976710656 then ((disk_Replace.f k bt356.1 0 (List.replicate (wrap64 (65536 + (wrap64 (a1))) : Int).toNat 0)).bind fun bt371 => (if bt356.2 = 0 then (if ((bt371.2 == 0) != (a1 == 0)) = true then (rollbacknetlaw10_DiskLimits.j0 k a0 a1 y353 bt363.2 true bt363.1) else (if bt371.2 = 0 then (rollbacknetlaw10_DiskLimits.j0 k a0 a1 y353 bt363.2 false bt363.1) else (rollbacknetlaw10_DiskLimits.j0 k a0 a1 y353 bt363.2 (bt371.2 != 5) bt363.1))) else (rollbacknetlaw10_DiskLimits.j0 k a0 a1 y353 bt363.2 true bt363.1))) else (none)) else (none))) else (none)) else (none)))) else (none)) else (none)) = some r := by first | (rw [hji6] at H; exact H) | (simp only [hji6] at H ⊢; exact H)
  (try rw [hji6] at A3)
  (try rw [hji6] at A5)
  have hji6w : (IntKind.i64.wrap (65536 - (wrap64 (a0)))) = ji6 := (i64_w _).trans hji6
  by_cases c7 : 0 ≤ (ji6)
  ·rw [if_pos c7] at H
   have c7b0 := eq_true c7
   have c7b1 : decide (0 ≤ (ji6)) = true := decide_eq_true c7
   clear c7
   by_cases c8 : (ji6 : Int).toNat ≤ 281474976710656
   ·rw [if_pos c8] at H
    have c8b0 := eq_true c8
    have c8b1 : decide ((ji6 : Int).toNat ≤ 281474976710656) = true := decide_eq_true c8
    clear c8
    obtain ⟨y353, hy353⟩ : ∃ y_ : List Int, y_ = (List.replicate (ji6 : Int).toNat 0) := ⟨_, rfl⟩
    replace H : ((disk_Append.f k t348 0 y353).bind fun bt356 => (if 0 ≤ a1 then (if (a1 : Int).toNat ≤ 281474976710656 then ((disk_Append.f k bt356.1 0 (List.replicate (a1 : Int).toNat 0)).bind fun bt363 => (if 0 ≤ (wrap64 (65536 + (wrap64 (a1)))) then (if (wrap64 (65536 + (wrap64 (a1))) : Int).toNat ≤ 281474976710656 then ((disk_Replace.f k bt356.1 0 (List.replicate (wrap64 (65536 + (wrap64 (a1))) : Int).toNat 0)).bind fun bt371 => (if bt356.2 = 0 then (if ((bt371.2 == 0) != (a1 == 0)) = true then (rollbacknetlaw10_DiskLimits.j0 k a0 a1 y353 bt363.2 true bt363.1) else (if bt371.2 = 0 then (rollbacknetlaw10_DiskLimits.j0 k a0 a1 y353 bt363.2 false bt363.1) else (rollbacknetlaw10_DiskLimits.j0 k a0 a1 y353 bt363.2 (bt371.2 != 5) bt363.1))) else (rollbacknetlaw10_DiskLimits.j0 k a0 a1 y353 bt363.2 true bt363.1))) else (none)) else (none))) else (none)) else (none))) = some r := by first | (rw [hy353]; with_reducible exact H) | (have H2_ := (Option.bind_some _ _).symm.trans H; rw [hy353]; with_reducible exact H2_) | (have H2_ := (Option.bind_some _ _).symm.trans H; with_reducible exact H2_) | with_reducible exact H | (rw [hy353]; exact H) | exact H
    have Ny353 := aM hy353
    clear hy353
    replace H := Option.bind_eq_some_iff.mp H
    obtain ⟨⟨t356, t359⟩, A90, H⟩ := H
    replace H : (if 0 ≤ a1 then (if (a1 : Int).toNat ≤ 281474976710656 then ((disk_Append.f k t356 0 (List.replicate (a1 : Int).toNat 0)).bind fun bt363 => (if 0 ≤ (wrap64 (65536 + (wrap64 (a1)))) then (if (wrap64 (65536 + (wrap64 (a1))) : Int).toNat ≤ 281474976710656 then ((disk_Replace.f k t356 0 (List.replicate (wrap64 (65536 + (wrap64 (a1))) : Int).toNat 0)).bind fun bt371 => (if t359 = 0 then (if ((bt371.2 == 0) != (a1 == 0)) = true then (rollbacknetlaw10_DiskLimits.j0 k a0 a1 y353 bt363.2 true bt363.1) else (if bt371.2 = 0 then (rollbacknetlaw10_DiskLimits.j0 k a0 a1 y353 bt363.2 false bt363.1) else (rollbacknetlaw10_DiskLimits.j0 k a0 a1 y353 bt363.2 (bt371.2 != 5) bt363.1))) else (rollbacknetlaw10_DiskLimits.j0 k a0 a1 y353 bt363.2 true bt363.1))) else (none)) else (none))) else (none)) else (none)) = some r := H
    have A9 := aM A90
    clear A90
    by_cases c10 : 0 ≤ a1
    ·rw [if_pos c10] at H
     have c10b0 := eq_true c10
     have c10b1 : decide (0 ≤ a1) = true := decide_eq_true c10
     clear c10
     by_cases c11 : (a1 : Int).toNat ≤ 281474976710656
     ·rw [if_pos c11] at H
      have c11b0 := eq_true c11
      have c11b1 : decide ((a1 : Int).toNat ≤ 281474976710656) = true := decide_eq_true c11
      clear c11
      obtain ⟨y360, hy360⟩ : ∃ y_ : List Int, y_ = (List.replicate (a1 : Int).toNat 0) := ⟨_, rfl⟩
      replace H : ((disk_Append.f k t356 0 y360).bind fun bt363 => (if 0 ≤ (wrap64 (65536 + (wrap64 (a1)))) then (if (wrap64 (65536 + (wrap64 (a1))) : Int).toNat ≤ 281474976710656 then ((disk_Replace.f k t356 0 (List.replicate (wrap64 (65536 + (wrap64 (a1))) : Int).toNat 0)).bind fun bt371 => (if t359 = 0 then (if ((bt371.2 == 0) != (a1 == 0)) = true then (rollbacknetlaw10_DiskLimits.j0 k a0 a1 y353 bt363.2 true bt363.1) else (if bt371.2 = 0 then (rollbacknetlaw10_DiskLimits.j0 k a0 a1 y353 bt363.2 false bt363.1) else (rollbacknetlaw10_DiskLimits.j0 k a0 a1 y353 bt363.2 (bt371.2 != 5) bt363.1))) else (rollbacknetlaw10_DiskLimits.j0 k a0 a1 y353 bt363.2 true bt363.1))) else (none)) else (none))) = some r := by first | (rw [hy360]; with_reducible exact H) | (have H2_ := (Option.bind_some _ _).symm.trans H; rw [hy360]; with_reducible exact H2_) | (have H2_ := (Option.bind_some _ _).symm.trans H; with_reducible exact H2_) | with_reducible exact H | (rw [hy360]; exact H) | exact H
      have Ny360 := aM hy360
      clear hy360
      replace H := Option.bind_eq_some_iff.mp H
      obtain ⟨⟨t363, t366⟩, A120, H⟩ := H
      replace H : (if 0 ≤ (wrap64 (65536 + (wrap64 (a1)))) then (if (wrap64 (65536 + (wrap64 (a1))) : Int).toNat ≤ 281474976710656 then ((disk_Replace.f k t356 0 (List.replicate (wrap64 (65536 + (wrap64 (a1))) : Int).toNat 0)).bind fun bt371 => (if t359 = 0 then (if ((bt371.2 == 0) != (a1 == 0)) = true then (rollbacknetlaw10_DiskLimits.j0 k a0 a1 y353 t366 true t363) else (if bt371.2 = 0 then (rollbacknetlaw10_DiskLimits.j0 k a0 a1 y353 t366 false t363) else (rollbacknetlaw10_DiskLimits.j0 k a0 a1 y353 t366 (bt371.2 != 5) t363))) else (rollbacknetlaw10_DiskLimits.j0 k a0 a1 y353 t366 true t363))) else (none)) else (none)) = some r := H
      have A12 := aM A120
      clear A120
      obtain ⟨ji13, hji13⟩ : ∃ j_ : Int, (wrap64 (65536 + (wrap64 (a1)))) = j_ := ⟨_, rfl⟩
      replace H : (if 0 ≤ (ji13) then (if (ji13 : Int).toNat ≤ 281474976710656 then ((disk_Replace.f k t356 0 (List.replicate (ji13 : Int).toNat 0)).bind fun bt371 => (if t359 = 0 then (if ((bt371.2 == 0) != (a1 == 0)) = true then (rollbacknetlaw10_DiskLimits.j0 k a0 a1 y353 t366 true t363) else (if bt371.2 = 0 then (rollbacknetlaw10_DiskLimits.j0 k a0 a1 y353 t366 false t363) else (rollbacknetlaw10_DiskLimits.j0 k a0 a1 y353 t366 (bt371.2 != 5) t363))) else (rollbacknetlaw10_DiskLimits.j0 k a0 a1 y353 t366 true t363))) else (none)) else (none)) = some r := by first | (rw [hji13] at H; exact H) | (simp only [hji13] at H ⊢; exact H)
      (try rw [hji13] at A3)
      (try rw [hji13] at A5)
      (try rw [hji13] at A9)
      (try rw [hji13] at A12)
      have hji13w : (IntKind.i64.wrap (65536 + (wrap64 (a1)))) = ji13 := (i64_w _).trans hji13
      by_cases c14 : 0 ≤ (ji13)
      ·rw [if_pos c14] at H
       have c14b0 := eq_true c14
       have c14b1 : decide (0 ≤ (ji13)) = true := decide_eq_true c14
       clear c14
       by_cases c15 : (ji13 : Int).toNat ≤ 281474976710656
       ·rw [if_pos c15] at H
        have c15b0 := eq_true c15
        have c15b1 : decide ((ji13 : Int).toNat ≤ 281474976710656) = true := decide_eq_true c15
        clear c15
        obtain ⟨y368, hy368⟩ : ∃ y_ : List Int, y_ = (List.replicate (ji13 : Int).toNat 0) := ⟨_, rfl⟩
        replace H : ((disk_Replace.f k t356 0 y368).bind fun bt371 => (if t359 = 0 then (if ((bt371.2 == 0) != (a1 == 0)) = true then (rollbacknetlaw10_DiskLimits.j0 k a0 a1 y353 t366 true t363) else (if bt371.2 = 0 then (rollbacknetlaw10_DiskLimits.j0 k a0 a1 y353 t366 false t363) else (rollbacknetlaw10_DiskLimits.j0 k a0 a1 y353 t366 (bt371.2 != 5) t363))) else (rollbacknetlaw10_DiskLimits.j0 k a0 a1 y353 t366 true t363))) = some r := by first | (rw [hy368]; with_reducible exact H) | (have H2_ := (Option.bind_some _ _).symm.trans H; rw [hy368]; with_reducible exact H2_) | (have H2_ := (Option.bind_some _ _).symm.trans H; with_reducible exact H2_) | with_reducible exact H | (rw [hy368]; exact H) | exact H
        have Ny368 := aM hy368
        clear hy368
        replace H := Option.bind_eq_some_iff.mp H
        obtain ⟨⟨t371, t374⟩, A160, H⟩ := H
        replace H : (if t359 = 0 then (if ((t374 == 0) != (a1 == 0)) = true then (rollbacknetlaw10_DiskLimits.j0 k a0 a1 y353 t366 true t363) else (if t374 = 0 then (rollbacknetlaw10_DiskLimits.j0 k a0 a1 y353 t366 false t363) else (rollbacknetlaw10_DiskLimits.j0 k a0 a1 y353 t366 (t374 != 5) t363))) else (rollbacknetlaw10_DiskLimits.j0 k a0 a1 y353 t366 true t363)) = some r := H
        have A16 := aM A160
        clear A160
        have HC17 := aM H
        clear H
        go_enter Try.func6, Try.ntmps6
        try go_wp2_with (first | ((with_reducible refine gate_callee (f := 9) rfl ?_); refine goesL_ (some 13) rfl rfl Try.func9 (by kernel_rfl) rfl #[] rfl (by (try simp only [List.map_toArray, List.map_cons, List.map_nil]); first | done | rfl | (simp only [List.length_drop, List.length_take]; rfl)) ?_; (with_reducible refine (rollbacknetlaw10_awake.calls k  true _ A3.out).mono ?_); rintro e w18 ⟨rfl, hb⟩; refine ⟨_, rfl, ?_⟩; have n0_ := aM (below_step (by repeat (first | (with_reducible first | exact HB.out | apply wA | apply wN | apply wD) | exact HB.out)) hb); clear HB; have HB := n0_; clear n0_; (try clear hb); (try clear hb2); (try clear hk); (try clear hi)) | ((with_reducible refine gate_callee (f := 13) rfl ?_); refine goesL_ (some 16) rfl rfl Try.func13 (by kernel_rfl) rfl #[.int .i64 1] rfl (by (try simp only [List.map_toArray, List.map_cons, List.map_nil]); first | done | rfl | (simp only [List.length_drop, List.length_take]; rfl)) ?_; (with_reducible refine (disk_New.calls 1 t348 t351 _ A5.out).mono ?_); rintro e w19 ⟨v349, rfl, ho0, hb⟩; refine ⟨_, rfl, ?_⟩; have n0_ := aM (Kd.N_lower (Kd.N_mono (ok' := fun k_ => True) (Kd.S_N (Kd.S_bound ho0)) (fun k_ hk_ => trivial)) (below_size (by repeat (first | (with_reducible first | exact HB.out | apply wA | apply wN | apply wD) | exact HB.out)))); have n1_ := aM (below_step (by repeat (first | (with_reducible first | exact HB.out | apply wA | apply wN | apply wD) | exact HB.out)) hb); clear HB; have HO350 := n0_; have HB := n1_; clear n0_ n1_; (try clear hb); (try clear hb2); (try clear hk); (try clear hi); (try clear ho0)) | ((with_reducible refine gate_dst (N := 5) rfl ?_); (try (refine gate_guard (by rfl) ?_; dsimp only)); refine box_event ?hg (N := 5) ?hd (cs := #[.slice none 0 0]) (t := 24) ?hr ?_; (case hd => rfl); (case hg => rfl); (case hr => first | (go_simp; done) | (go_simp; rfl)); intro gb352 hg w20 hbox hb; have n0_ := aM (Kd.N_below (Kd.N_elderB (by (with_reducible repeat (first | apply Kd.N_alloc | apply Kd.N_drewN | apply Kd.N_drew)); exact HO350.out) gb352 (Nat.le_of_eq hg.symm)) hb); have n1_ := aM (below_step (by repeat (first | (with_reducible first | exact HB.out | apply wA | apply wN | apply wD) | exact HB.out)) hb); have n2_ := aM (hbox); have n3_ := aM ((by rw [hg]; exact (below_size (by repeat (first | (with_reducible first | exact HB.out | apply wA | apply wN | apply wD) | exact HB.out))) : w.heap.size ≤ gb352)); have n4_ := aM ((by rw [hg]; exact (below_size (by repeat (first | (with_reducible first | exact HB.out | apply wA | apply wN | apply wD) | exact HB.out))) : w.heap.size ≤ gb352)); clear HO350; clear HB; have HO350 := n0_; have HB := n1_; have BK352 := n2_; have GW352 := n3_; have GE352 := n4_; clear n0_ n1_ n2_ n3_ n4_; clear hb hbox hg; obtain ⟨Ao21, co21, eo21⟩ := Kd.N_slice HO350.out; subst eo21; have hcz22_0 : w20.cell? ⟨gb352, 0, none⟩ = some (.slice none 0 0) := (blk_cell BK352.out 0).trans rfl; have hfz22_0 := blk_frozen BK352.out 0) | ((with_reducible refine gate_dst (N := 22) rfl ?_); (try (refine gate_guard (by rfl) ?_; dsimp only)); refine Kd.R_make (Kd.int .u8) _ 5 rfl (N := 22) rfl 30 _ _ rfl ji6 rfl rfl Try.underlying30 (.int .u8 0) 1 info5 rfl (by decide) (by omega) 0 (ok := fun _ => True) (okp := fun _ => True) rfl (fun _ hk => hk) trivial (of_decide_eq_true (by first | (with_reducible assumption) | assumption)) (Nat.le_trans (Nat.mul_le_mul_right _ (of_decide_eq_true (by first | (with_reducible assumption) | assumption) : ji6.toNat ≤ 281474976710656)) (by omega)) (Below.refl _ _) (Nat.le_refl _) ?_; intro v354 w23 ho24 hb hg_ hnew_; clear hg_ hnew_; (first | rw [← Ny353.out] at ho24 | (simp only [Int.reduceToNat] at ho24; rw [← Ny353.out] at ho24)); have n0_ := aM (Kd.N_elder' (by (with_reducible repeat (first | apply Kd.N_alloc | apply Kd.N_drewN | apply Kd.N_drew)); exact (Kd.N_mono (Kd.N_far (p := ⟨gb352, 0, none⟩) (Kd.N_mono HO350.out (fun k_ hk => (⟨hk, hk.2⟩ : _ ∧ k_ ≠ gb352))) (fun _ hk => hk.2) (.slice Ao21 t348.length co21)) (fun _ h_ => h_.1))) (Kd.R_base ho24) hb); have n1_ := aM (Kd.R_lower ho24 (below_size (by repeat (first | (with_reducible first | exact HB.out | apply wA | apply wN | apply wD | refine below_set ?_ GE352.out) | exact HB.out)))); have n2_ := aM (blk_below (g := gb352) (o := .cells #[.slice Ao21 t348.length co21] 24 (0, 0)) (by (with_reducible repeat (first | refine bN ?_ _ | refine bD ?_ | refine bA ?_ _)); refine blk_put (cs := #[.slice none 0 0]) ?_ 0 _ rfl; (with_reducible repeat (first | refine bN ?_ _ | refine bD ?_ | refine bA ?_ _)); exact BK352.out) hb); have n3_ := aM (below_step (by repeat (first | (with_reducible first | exact HB.out | apply wA | apply wN | apply wD | refine below_set ?_ GE352.out) | exact HB.out)) hb); clear HO350; clear BK352; clear HB; have HO350 := n0_; have HO355 := n1_; have BK352 := n2_; have HB := n3_; clear n0_ n1_ n2_ n3_; clear hb ho24; have hcz25_0 : w23.cell? ⟨gb352, 0, none⟩ = some (.slice Ao21 t348.length co21) := (blk_cell BK352.out 0).trans rfl; have hfz25_0 := blk_frozen BK352.out 0; obtain ⟨Ao26, co26, eo26⟩ := Kd.R_slice HO355.out; subst eo26) | ((with_reducible refine gate_callee (f := 14) rfl ?_); refine goesL_ (some 26) rfl rfl Try.func14 (by kernel_rfl) rfl #[.agg #[.slice Ao21 t348.length co21], .int .i64 0, .slice Ao26 y353.length co26] rfl (by (try simp only [List.map_toArray, List.map_cons, List.map_nil]); first | done | rfl | (simp only [List.length_drop, List.length_take]; rfl)) ?_; (with_reducible refine (disk_Append.calls k _ _ t348 0 _ _ y353 t356 t359 _ ?side1 ?side2 ?side3 ?side4 A9.out).mono ?_); (case side1 => repeat (first | exact (Kd.N_reads' HO350.out).2.2 | (with_reducible refine Kd.C_alloc ?_ _) | (with_reducible refine Kd.C_drewN ?_ _) | (with_reducible refine Kd.C_drew ?_))); (case side2 => exact (Kd.N_reads' HO350.out).2.1); (case side3 => repeat (first | exact (Kd.R_reads' HO355.out).2.2 | (with_reducible refine Kd.C_alloc ?_ _) | (with_reducible refine Kd.C_drewN ?_ _) | (with_reducible refine Kd.C_drew ?_))); (case side4 => exact (Kd.R_reads' HO355.out).2.1); rintro e w27 ⟨v357, rfl, ho0, hb⟩; refine ⟨_, rfl, ?_⟩; have n0_ := aM (Kd.N_elder' (by (with_reducible repeat (first | apply Kd.N_alloc | apply Kd.N_drewN | apply Kd.N_drew)); exact HO350.out) (by first | exact Kd.N_base ho0 | exact Kd.N_base (Kd.S_N ho0)) hb); have n1_ := aM (Kd.R_below (by (with_reducible repeat (first | apply Kd.R_alloc | apply Kd.R_drewN | apply Kd.R_drew)); exact HO355.out) hb); have n2_ := aM (Kd.N_lower (Kd.N_mono (ok' := fun k_ => some k_ ≠ (.slice Ao21 t348.length co21 : Value).ownBlock ∧ some k_ ≠ (.slice Ao26 y353.length co26 : Value).ownBlock ∧ k_ ≠ gb352) (Kd.S_N (Kd.S_bound ho0)) (fun k_ hk_ => ⟨(Kd.fresh' (Kd.N_lt (by (with_reducible repeat (first | apply Kd.N_alloc | apply Kd.N_drewN | apply Kd.N_drew)); exact HO350.out)) k_ hk_.2.1), (Kd.fresh' (Kd.R_lt (by (with_reducible repeat (first | apply Kd.R_alloc | apply Kd.R_drewN | apply Kd.R_drew)); exact HO355.out)) k_ hk_.2.1), (Kd.freshB (g := gb352) (o := .cells #[.slice Ao21 t348.length co21] 24 (0, 0)) (by (with_reducible repeat (first | refine bN ?_ _ | refine bD ?_ | refine bA ?_ _)); exact BK352.out) k_ hk_.2.1)⟩)) (below_size (by repeat (first | (with_reducible first | exact HB.out | apply wA | apply wN | apply wD | refine below_set ?_ GE352.out) | exact HB.out)))); have n3_ := aM (blk_below (g := gb352) (o := .cells #[.slice Ao21 t348.length co21] 24 (0, 0)) (by (with_reducible repeat (first | refine bN ?_ _ | refine bD ?_ | refine bA ?_ _)); exact BK352.out) hb); have n4_ := aM (below_step (by repeat (first | (with_reducible first | exact HB.out | apply wA | apply wN | apply wD | refine below_set ?_ GE352.out) | exact HB.out)) hb); clear HO350; clear HO355; clear BK352; clear HB; have HO350 := n0_; have HO355 := n1_; have HO358 := n2_; have BK352 := n3_; have HB := n4_; clear n0_ n1_ n2_ n3_ n4_; (try clear hb); (try clear hb2); (try clear hk); (try clear hi); (try clear ho0); obtain ⟨Ao28, co28, eo28⟩ := Kd.N_slice HO358.out; subst eo28; have hcz29_0 : w27.cell? ⟨gb352, 0, none⟩ = some (.slice Ao21 t348.length co21) := (blk_cell BK352.out 0).trans rfl; have hfz29_0 := blk_frozen BK352.out 0))
        have n0_ : Aside0 (Kd.N k48 48 (w27.setCell ⟨gb352, 0, none⟩ (.slice Ao28 t356.length co28)) w.heap.size (fun k_ => some k_ ≠ (.slice Ao26 y353.length co26 : Value).ownBlock ∧ some k_ ≠ (.slice Ao28 t356.length co28 : Value).ownBlock ∧ k_ ≠ gb352) (.slice Ao21 t348.length co21) t348) := ⟨by (with_reducible repeat (first | apply Kd.N_alloc | apply Kd.N_drewN | apply Kd.N_drew)); exact Kd.N_mono (Kd.N_far (p := ⟨gb352, 0, none⟩) (Kd.N_mono HO350.out (fun k_ hk => (⟨hk, hk.1.1.2⟩ : _ ∧ k_ ≠ gb352))) (fun _ hk => hk.2) (.slice Ao28 t356.length co28)) (fun _ hk => ⟨hk.1.1.2, ⟨hk.1.2, hk.1.1.1.2⟩⟩)⟩
        have n1_ : Aside0 (Kd.R (Kd.int .u8) 5 (w27.setCell ⟨gb352, 0, none⟩ (.slice Ao28 t356.length co28)) w.heap.size (fun _ => True) (.slice Ao26 y353.length co26) y353) := ⟨by (with_reducible repeat (first | apply Kd.R_alloc | apply Kd.R_drewN | apply Kd.R_drew)); exact Kd.R_mono (Kd.R_far (p := ⟨gb352, 0, none⟩) (Kd.R_types HO355.out BK352.out (by decide)) (fun _ hk => hk.2) (.slice Ao28 t356.length co28)) (fun _ hk => trivial)⟩
        have n2_ : Aside0 (Kd.N k48 48 (w27.setCell ⟨gb352, 0, none⟩ (.slice Ao28 t356.length co28)) w.heap.size (fun k_ => some k_ ≠ (.slice Ao21 t348.length co21 : Value).ownBlock ∧ some k_ ≠ (.slice Ao26 y353.length co26 : Value).ownBlock ∧ k_ ≠ gb352) (.slice Ao28 t356.length co28) t356) := ⟨by (with_reducible repeat (first | apply Kd.N_alloc | apply Kd.N_drewN | apply Kd.N_drew)); exact Kd.N_mono (Kd.N_far (p := ⟨gb352, 0, none⟩) (Kd.N_mono HO358.out (fun k_ hk => (⟨hk, hk.2.2⟩ : _ ∧ k_ ≠ gb352))) (fun _ hk => hk.2) (.slice Ao28 t356.length co28)) (fun _ hk => ⟨hk.1.1, ⟨hk.1.2.1, hk.1.2.2⟩⟩)⟩
        have n3_ : Aside0 ((w27.setCell ⟨gb352, 0, none⟩ (.slice Ao28 t356.length co28)).heap[gb352]? = some (.cells #[.slice Ao28 t356.length co28] 24 (0, 0))) := ⟨by (with_reducible repeat (first | refine bN ?_ _ | refine bD ?_ | refine bA ?_ _)); refine blk_put (cs := #[.slice Ao21 t348.length co21]) ?_ 0 _ rfl; (with_reducible repeat (first | refine bN ?_ _ | refine bD ?_ | refine bA ?_ _)); exact BK352.out⟩
        have n4_ : Aside0 (Below w.heap.size w (w27.setCell ⟨gb352, 0, none⟩ (.slice Ao28 t356.length co28))) := ⟨by repeat (first | (with_reducible first | exact HB.out | apply wA | apply wN | apply wD | refine below_set ?_ GE352.out) | exact HB.out)⟩
        (try clear HO350)
        (try clear HO355)
        (try clear HO358)
        (try clear BK352)
        (try clear HB)
        generalize (w27.setCell ⟨gb352, 0, none⟩ (.slice Ao28 t356.length co28)) = w30 at n0_ n1_ n2_ n3_ n4_ ⊢
        have HO350 := n0_
        have HO355 := n1_
        have HO358 := n2_
        have BK352 := n3_
        have HB := n4_
        clear n0_ n1_ n2_ n3_ n4_
        have n0_ := aM (Kd.N_drew HO350.out)
        have n1_ := aM (Kd.R_drew HO355.out)
        have n2_ := aM (Kd.N_drew HO358.out)
        have n3_ := aM (bD BK352.out)
        have n4_ := aM (wD HB.out)
        clear HO350
        clear HO355
        clear HO358
        clear BK352
        clear HB
        have HO350 := n0_
        have HO355 := n1_
        have HO358 := n2_
        have BK352 := n3_
        have HB := n4_
        clear n0_ n1_ n2_ n3_ n4_
        refine start_ (n := 10) (S := fun w' => w'.cell? ⟨gb352, 0, none⟩ = some (.slice Ao28 t356.length co28)) (ds := []) #[false, false, false, false, false, false, false, false, false, false] (by kernel_rfl) rfl rfl ((blk_cell BK352.out 0).trans rfl) (fun hHeld => ?_); refine with_tabW rollbacknetlaw10_DiskLimits.tab6 rollbacknetlaw10_DiskLimits.bits6 (fun HT_ HW_ => ?_)
        generalize w30.drew = w31 at HO350 HO355 HO358 BK352 HB hHeld ⊢
        refine pure_ (i := 1) (N := some 31) (v := ?_) (a' := ?_) #[false, true, false, false, false, false, false, false, false, false] rfl rfl (any_of HT_.out (by kernel_rfl)) (fun _ _ _ h => h) (Or.inl ⟨by rfl, ?_⟩) ?_ ?_
        rotate_left
        ·intro w'
         go_simp
         with_reducible rfl
        rotate_left
        ·simp only [Act.put, List.setIfInBounds_toArray, List.set_cons_zero, List.set_cons_succ, i64_w, i32_w]
         rfl
        refine take_ (i := 0) (N := some 30) (v := ?_) (a' := ?_) #[true, true, false, false, false, false, false, false, false, false] rfl rfl (take_ofW HT_.out HW_.out (by kernel_rfl)) (fun _ _ _ h => h) (Or.inl ⟨by rfl, ?_⟩) hHeld ?_ ?_
        rotate_left
        ·intro w' s0
         go_simp
         with_reducible rfl
        rotate_left
        ·simp only [Act.put, List.setIfInBounds_toArray, List.set_cons_zero, List.set_cons_succ, i64_w, i32_w]
         rfl
        refine join_ (σ := Value × Value × Nat) 2 #[true, true, true, true, true, true, true, true, false, false] (fun s_ => [(32, s_.1), (33, .tuple #[.agg #[s_.2.1], .int .i64 t366]), (9, .pointer (some ⟨s_.2.2, 0, none⟩)), (29, .tuple #[.agg #[s_.2.1], .int .i64 t366]), (34, .agg #[s_.2.1]), (35, .int .i64 t366)]) (fun s_ w' => (w'.cell? ⟨gb352, 0, none⟩ = some (.slice Ao28 t356.length co28)) ∧ (Kd.N k48 48 w' w.heap.size (fun k_ => some k_ ≠ (.slice Ao26 y353.length co26 : Value).ownBlock ∧ some k_ ≠ (.slice Ao28 t356.length co28 : Value).ownBlock ∧ some k_ ≠ (s_.1 : Value).ownBlock ∧ some k_ ≠ (s_.2.1 : Value).ownBlock ∧ k_ ≠ gb352 ∧ k_ ≠ s_.2.2) (.slice Ao21 t348.length co21) t348) ∧ (Kd.R (Kd.int .u8) 5 w' w.heap.size (fun k_ => some k_ ≠ (s_.1 : Value).ownBlock) (.slice Ao26 y353.length co26) y353) ∧ (Kd.N k48 48 w' w.heap.size (fun k_ => some k_ ≠ (.slice Ao21 t348.length co21 : Value).ownBlock ∧ some k_ ≠ (.slice Ao26 y353.length co26 : Value).ownBlock ∧ some k_ ≠ (s_.1 : Value).ownBlock ∧ some k_ ≠ (s_.2.1 : Value).ownBlock ∧ k_ ≠ gb352 ∧ k_ ≠ s_.2.2) (.slice Ao28 t356.length co28) t356) ∧ (Kd.R (Kd.int .u8) 5 w' w.heap.size (fun k_ => some k_ ≠ (.slice Ao26 y353.length co26 : Value).ownBlock) s_.1 y360) ∧ (Kd.N k48 48 w' w.heap.size (fun k_ => some k_ ≠ (.slice Ao21 t348.length co21 : Value).ownBlock ∧ some k_ ≠ (.slice Ao26 y353.length co26 : Value).ownBlock ∧ some k_ ≠ (.slice Ao28 t356.length co28 : Value).ownBlock ∧ some k_ ≠ (s_.1 : Value).ownBlock ∧ k_ ≠ gb352 ∧ k_ ≠ s_.2.2) s_.2.1 t363) ∧ (w'.heap[gb352]? = some (.cells #[.slice Ao28 t356.length co28] 24 (0, 0))) ∧ (w'.heap[s_.2.2]? = some (.cells #[.slice none 0 0] 24 (0, 0))) ∧ (w.heap.size ≤ s_.2.2) ∧ (w.heap.size ≤ s_.2.2) ∧ (gb352 ≠ s_.2.2) ∧ (s_.2.2 ≠ gb352) ∧ (Below w.heap.size w w')) ?_ ?_
        rotate_left
        ·intro hCont
         refine two_ (i := 2) (j := 7) (Ni := some 32) (Nj := some 9) #[true, true, true, false, false, false, false, false, false, false] #[true, true, false, false, false, false, false, true, false, false] rfl rfl rfl rfl (two_of HT_.out (by kernel_rfl)) (by decide) (by decide) (fun K hK => ?_) (fun K hK => ?_)
         ·skip
          refine Kd.R_makeK_step (Kd.int .u8) _ 5 (by rfl) (N := 32) rfl 30 _ _ rfl a1 rfl rfl Try.underlying30 (.int .u8 0) 1 info5 rfl (by decide) (by omega) 0 (ok := fun _ => True) (okp := fun _ => True) rfl (fun _ hk => hk) trivial (of_decide_eq_true (by first | (with_reducible assumption) | assumption)) (Nat.le_trans (Nat.mul_le_mul_right _ (of_decide_eq_true (by first | (with_reducible assumption) | assumption) : a1.toNat ≤ 281474976710656)) (by omega)) (Below.refl _ _) (Nat.le_refl _) ?_
          intro v361 w32 ho33 hb hg_ hnew_
          clear hg_ hnew_
          (first | rw [← Ny360.out] at ho33 | (simp only [Int.reduceToNat] at ho33; rw [← Ny360.out] at ho33))
          have n0_ := aM (Kd.N_elder' (by (with_reducible repeat (first | apply Kd.N_alloc | apply Kd.N_drewN | apply Kd.N_drew)); exact HO350.out) (Kd.R_base ho33) hb)
          have n1_ := aM (Kd.R_elder' (by (with_reducible repeat (first | apply Kd.R_alloc | apply Kd.R_drewN | apply Kd.R_drew)); exact HO355.out) (Kd.R_base ho33) hb)
          have n2_ := aM (Kd.N_elder' (by (with_reducible repeat (first | apply Kd.N_alloc | apply Kd.N_drewN | apply Kd.N_drew)); exact HO358.out) (Kd.R_base ho33) hb)
          have n3_ := aM (Kd.R_lower (Kd.R_new' ho33 (Kd.R_lt (by (with_reducible repeat (first | apply Kd.R_alloc | apply Kd.R_drewN | apply Kd.R_drew)); exact HO355.out))) (below_size (by repeat (first | (with_reducible first | exact HB.out | apply wA | apply wN | apply wD | refine below_set ?_ GE352.out) | exact HB.out))))
          have n4_ := aM (blk_below (g := gb352) (o := .cells #[.slice Ao28 t356.length co28] 24 (0, 0)) (by (with_reducible repeat (first | refine bN ?_ _ | refine bD ?_ | refine bA ?_ _)); exact BK352.out) hb)
          have n5_ := aM (below_step (by repeat (first | (with_reducible first | exact HB.out | apply wA | apply wN | apply wD | refine below_set ?_ GE352.out) | exact HB.out)) hb)
          clear HO350
          clear HO355
          clear HO358
          clear BK352
          clear HB
          have HO350 := n0_
          have HO355 := n1_
          have HO358 := n2_
          have HO362 := n3_
          have BK352 := n4_
          have HB := n5_
          clear n0_ n1_ n2_ n3_ n4_ n5_
          clear hb ho33
          obtain ⟨Ao34, co34, eo34⟩ := Kd.R_slice HO362.out
          (first | subst eo34 | (injection eo34 with f1_ f2_ f3_; have f4_ := f1_.symm; have f5_ := f3_.symm; clear f1_ f2_ f3_; subst f4_; subst f5_))
          refine hK.out _ _ ((blk_cell BK352.out 0).trans rfl) (fun hHeld => ?_)
          clear hK K
          refine norm_ (a' := ?_) ?_ ?_
          rotate_left
          ·show Act.put _ (some 32) _ = _
           simp only [Act.put, List.setIfInBounds_toArray, List.set_cons_zero, List.set_cons_succ, i64_w, i32_w]
           rfl
          refine two_ (i := 3) (j := 7) (Ni := some 33) (Nj := some 9) #[true, true, true, true, false, false, false, false, false, false] #[true, true, true, false, false, false, false, true, false, false] rfl rfl rfl rfl (two_of HT_.out (by kernel_rfl)) (by decide) (by decide) (fun K hK => ?_) (fun K hK => ?_)
          ·skip
           refine goes_ Try.func14 (by kernel_rfl) rfl #[.agg #[.slice Ao28 t356.length co28], .int .i64 0, .slice Ao34 y360.length co34] (by rfl) rfl rfl (by (try simp only [List.map_toArray, List.map_cons, List.map_nil]); first | done | rfl | (simp only [List.length_drop, List.length_take]; rfl)) ?_
           with_reducible refine (disk_Append.calls k _ _ t356 0 _ _ y360 t363 t366 _ ?side1 ?side2 ?side3 ?side4 A12.out).mono ?_
           (case side1 => repeat (first | exact (Kd.N_reads' HO358.out).2.2 | (with_reducible refine Kd.C_alloc ?_ _) | (with_reducible refine Kd.C_drewN ?_ _) | (with_reducible refine Kd.C_drew ?_)))
           (case side2 => exact (Kd.N_reads' HO358.out).2.1)
           (case side3 => repeat (first | exact (Kd.R_reads' HO362.out).2.2 | (with_reducible refine Kd.C_alloc ?_ _) | (with_reducible refine Kd.C_drewN ?_ _) | (with_reducible refine Kd.C_drew ?_)))
           (case side4 => exact (Kd.R_reads' HO362.out).2.1)
           rintro e w35 ⟨v364, rfl, ho0, hb⟩
           refine ⟨_, rfl, ?_⟩
           have n0_ := aM (Kd.N_elder' (by (with_reducible repeat (first | apply Kd.N_alloc | apply Kd.N_drewN | apply Kd.N_drew)); exact HO350.out) (by first | exact Kd.N_base ho0 | exact Kd.N_base (Kd.S_N ho0)) hb)
           have n1_ := aM (Kd.R_below (by (with_reducible repeat (first | apply Kd.R_alloc | apply Kd.R_drewN | apply Kd.R_drew)); exact HO355.out) hb)
           have n2_ := aM (Kd.N_elder' (by (with_reducible repeat (first | apply Kd.N_alloc | apply Kd.N_drewN | apply Kd.N_drew)); exact HO358.out) (by first | exact Kd.N_base ho0 | exact Kd.N_base (Kd.S_N ho0)) hb)
           have n3_ := aM (Kd.R_below (by (with_reducible repeat (first | apply Kd.R_alloc | apply Kd.R_drewN | apply Kd.R_drew)); exact HO362.out) hb)
           have n4_ := aM (Kd.N_lower (Kd.N_mono (ok' := fun k_ => some k_ ≠ (.slice Ao21 t348.length co21 : Value).ownBlock ∧ some k_ ≠ (.slice Ao26 y353.length co26 : Value).ownBlock ∧ some k_ ≠ (.slice Ao28 t356.length co28 : Value).ownBlock ∧ some k_ ≠ (.slice Ao34 y360.length co34 : Value).ownBlock ∧ k_ ≠ gb352) (Kd.S_N (Kd.S_bound ho0)) (fun k_ hk_ => ⟨(Kd.fresh' (Kd.N_lt (by (with_reducible repeat (first | apply Kd.N_alloc | apply Kd.N_drewN | apply Kd.N_drew)); exact HO350.out)) k_ hk_.2.1), (Kd.fresh' (Kd.R_lt (by (with_reducible repeat (first | apply Kd.R_alloc | apply Kd.R_drewN | apply Kd.R_drew)); exact HO355.out)) k_ hk_.2.1), (Kd.fresh' (Kd.N_lt (by (with_reducible repeat (first | apply Kd.N_alloc | apply Kd.N_drewN | apply Kd.N_drew)); exact HO358.out)) k_ hk_.2.1), (Kd.fresh' (Kd.R_lt (by (with_reducible repeat (first | apply Kd.R_alloc | apply Kd.R_drewN | apply Kd.R_drew)); exact HO362.out)) k_ hk_.2.1), (Kd.freshB (g := gb352) (o := .cells #[.slice Ao28 t356.length co28] 24 (0, 0)) (by (with_reducible repeat (first | refine bN ?_ _ | refine bD ?_ | refine bA ?_ _)); exact BK352.out) k_ hk_.2.1)⟩)) (below_size (by repeat (first | (with_reducible first | exact HB.out | apply wA | apply wN | apply wD | refine below_set ?_ GE352.out) | exact HB.out))))
           have n5_ := aM (blk_below (g := gb352) (o := .cells #[.slice Ao28 t356.length co28] 24 (0, 0)) (by (with_reducible repeat (first | refine bN ?_ _ | refine bD ?_ | refine bA ?_ _)); exact BK352.out) hb)
           have n6_ := aM (below_step (by repeat (first | (with_reducible first | exact HB.out | apply wA | apply wN | apply wD | refine below_set ?_ GE352.out) | exact HB.out)) hb)
           clear HO350
           clear HO355
           clear HO358
           clear HO362
           clear BK352
           clear HB
           have HO350 := n0_
           have HO355 := n1_
           have HO358 := n2_
           have HO362 := n3_
           have HO365 := n4_
           have BK352 := n5_
           have HB := n6_
           clear n0_ n1_ n2_ n3_ n4_ n5_ n6_
           (try clear hb)
           (try clear hb2)
           (try clear hk)
           (try clear hi)
           (try clear ho0)
           refine hK.out _ _ ((blk_cell BK352.out 0).trans rfl) (fun hHeld => ?_)
           clear hK K
           refine norm_ (a' := ?_) ?_ ?_
           rotate_left
           ·show Act.put _ (some 33) _ = _
            simp only [Act.put, List.setIfInBounds_toArray, List.set_cons_zero, List.set_cons_succ, i64_w, i32_w]
            rfl
           refine pure_ (i := 4) (N := some 29) (v := ?_) (a' := ?_) #[true, true, true, true, true, false, false, false, false, false] rfl rfl (any_of HT_.out (by kernel_rfl)) (fun _ _ _ h => h) (Or.inl ⟨by rfl, ?_⟩) ?_ ?_
           rotate_left
           ·intro w'
            go_simp
            with_reducible rfl
           rotate_left
           ·simp only [Act.put, List.setIfInBounds_toArray, List.set_cons_zero, List.set_cons_succ, i64_w, i32_w]
            rfl
           refine pure_ (i := 5) (N := some 34) (v := ?_) (a' := ?_) #[true, true, true, true, true, true, false, false, false, false] rfl rfl (any_of HT_.out (by kernel_rfl)) (fun _ _ _ h => h) (Or.inl ⟨by rfl, ?_⟩) ?_ ?_
           rotate_left
           ·intro w'
            go_simp
            with_reducible rfl
           rotate_left
           ·simp only [Act.put, List.setIfInBounds_toArray, List.set_cons_zero, List.set_cons_succ, i64_w, i32_w]
            rfl
           refine pure_ (i := 6) (N := some 35) (v := ?_) (a' := ?_) #[true, true, true, true, true, true, true, false, false, false] rfl rfl (any_of HT_.out (by kernel_rfl)) (fun _ _ _ h => h) (Or.inl ⟨by rfl, ?_⟩) ?_ ?_
           rotate_left
           ·intro w'
            go_simp
            with_reducible rfl
           rotate_left
           ·simp only [Act.put, List.setIfInBounds_toArray, List.set_cons_zero, List.set_cons_succ, i64_w, i32_w]
            rfl
           refine one_ (i := 7) (N := some 9) #[true, true, true, true, true, true, true, true, false, false] rfl rfl (one_of HT_.out (by kernel_rfl)) (by decide) (fun K hK => ?_)
           refine box_step ?hg (N := 9) ?hd (cs := #[.slice none 0 0]) (t := 24) ?hr ?_; (case hd => rfl); (case hg => rfl); (case hr => first | (go_simp; done) | (go_simp; rfl))
           intro gb367 hg w36 hbox hb
           have n0_ := aM (Kd.N_below (Kd.N_elderB (by (with_reducible repeat (first | apply Kd.N_alloc | apply Kd.N_drewN | apply Kd.N_drew)); exact HO350.out) gb367 (Nat.le_of_eq hg.symm)) hb)
           have n1_ := aM (Kd.R_below (by (with_reducible repeat (first | apply Kd.R_alloc | apply Kd.R_drewN | apply Kd.R_drew)); exact HO355.out) hb)
           have n2_ := aM (Kd.N_below (Kd.N_elderB (by (with_reducible repeat (first | apply Kd.N_alloc | apply Kd.N_drewN | apply Kd.N_drew)); exact HO358.out) gb367 (Nat.le_of_eq hg.symm)) hb)
           have n3_ := aM (Kd.R_below (by (with_reducible repeat (first | apply Kd.R_alloc | apply Kd.R_drewN | apply Kd.R_drew)); exact HO362.out) hb)
           have n4_ := aM (Kd.N_below (Kd.N_elderB (by (with_reducible repeat (first | apply Kd.N_alloc | apply Kd.N_drewN | apply Kd.N_drew)); exact HO365.out) gb367 (Nat.le_of_eq hg.symm)) hb)
           have n5_ := aM (blk_below (g := gb352) (o := .cells #[.slice Ao28 t356.length co28] 24 (0, 0)) (by (with_reducible repeat (first | refine bN ?_ _ | refine bD ?_ | refine bA ?_ _)); exact BK352.out) hb)
           have n6_ := aM (below_step (by repeat (first | (with_reducible first | exact HB.out | apply wA | apply wN | apply wD | refine below_set ?_ GE352.out) | exact HB.out)) hb)
           have n7_ := aM (hbox)
           have n8_ := aM ((by rw [hg]; exact (below_size (by repeat (first | (with_reducible first | exact HB.out | apply wA | apply wN | apply wD | refine below_set ?_ GE352.out) | exact HB.out))) : w.heap.size ≤ gb367))
           have n9_ := aM ((by rw [hg]; exact (below_size (by repeat (first | (with_reducible first | exact HB.out | apply wA | apply wN | apply wD | refine below_set ?_ GE352.out) | exact HB.out))) : w.heap.size ≤ gb367))
           have n10_ := aM ((by rw [hg]; exact Nat.ne_of_lt (blk_lt (g := gb352) (o := .cells #[.slice Ao28 t356.length co28] 24 (0, 0)) (by (with_reducible repeat (first | refine bN ?_ _ | refine bD ?_ | refine bA ?_ _)); exact BK352.out)) : gb352 ≠ gb367))
           have n11_ := aM ((by rw [hg]; exact Nat.ne_of_gt (blk_lt (g := gb352) (o := .cells #[.slice Ao28 t356.length co28] 24 (0, 0)) (by (with_reducible repeat (first | refine bN ?_ _ | refine bD ?_ | refine bA ?_ _)); exact BK352.out)) : gb367 ≠ gb352))
           clear HO350
           clear HO355
           clear HO358
           clear HO362
           clear HO365
           clear BK352
           clear HB
           have HO350 := n0_
           have HO355 := n1_
           have HO358 := n2_
           have HO362 := n3_
           have HO365 := n4_
           have BK352 := n5_
           have HB := n6_
           have BK367 := n7_
           have GW367 := n8_
           have GE367 := n9_
           have NB352_367 := n10_
           have NB367_352 := n11_
           clear n0_ n1_ n2_ n3_ n4_ n5_ n6_ n7_ n8_ n9_ n10_ n11_
           clear hb hbox hg
           refine hK.out _ _ ((blk_cell BK352.out 0).trans rfl) (fun hHeld => ?_)
           clear hK K
           refine norm_ (a' := ?_) ?_ ?_
           rotate_left
           ·show Act.put _ (some 9) _ = _
            simp only [Act.put, List.setIfInBounds_toArray, List.set_cons_zero, List.set_cons_succ, i64_w, i32_w]
            rfl
           exact norm_ (by simp only [putAll, Act.put, List.setIfInBounds_toArray, List.set_cons_zero, List.set_cons_succ]) (hCont (.slice Ao34 y360.length co34, v364, gb367) _ ⟨hHeld, (by (with_reducible repeat (first | apply Kd.N_alloc | apply Kd.N_drewN | apply Kd.N_drew)); exact Kd.N_mono HO350.out (fun _ hk => ⟨hk.1.1.1.1, ⟨hk.1.1.1.2.1, ⟨hk.1.1.2, ⟨hk.1.2, ⟨hk.1.1.1.2.2, hk.2⟩⟩⟩⟩⟩)), (by (with_reducible repeat (first | apply Kd.R_alloc | apply Kd.R_drewN | apply Kd.R_drew)); exact Kd.R_mono HO355.out (fun _ hk => hk.2)), (by (with_reducible repeat (first | apply Kd.N_alloc | apply Kd.N_drewN | apply Kd.N_drew)); exact Kd.N_mono HO358.out (fun _ hk => ⟨hk.1.1.1.1, ⟨hk.1.1.1.2.1, ⟨hk.1.1.2, ⟨hk.1.2, ⟨hk.1.1.1.2.2, hk.2⟩⟩⟩⟩⟩)), (by (with_reducible repeat (first | apply Kd.R_alloc | apply Kd.R_drewN | apply Kd.R_drew)); exact Kd.R_mono HO362.out (fun _ hk => hk.2)), (by (with_reducible repeat (first | apply Kd.N_alloc | apply Kd.N_drewN | apply Kd.N_drew)); exact Kd.N_mono HO365.out (fun _ hk => ⟨hk.1.1, ⟨hk.1.2.1, ⟨hk.1.2.2.1, ⟨hk.1.2.2.2.1, ⟨hk.1.2.2.2.2, hk.2⟩⟩⟩⟩⟩)), (by (with_reducible repeat (first | refine bN ?_ _ | refine bD ?_ | refine bA ?_ _)); exact BK352.out), (by (with_reducible repeat (first | refine bN ?_ _ | refine bD ?_ | refine bA ?_ _)); exact BK367.out), GW367.out, GE367.out, NB352_367.out, NB367_352.out, (by repeat (first | (with_reducible first | exact HB.out | apply wA | apply wN | apply wD | refine below_set ?_ GE352.out | refine below_set ?_ GE367.out) | exact HB.out))⟩)
          ·skip
           refine box_step ?hg (N := 9) ?hd (cs := #[.slice none 0 0]) (t := 24) ?hr ?_; (case hd => rfl); (case hg => rfl); (case hr => first | (go_simp; done) | (go_simp; rfl))
           intro gb367 hg w34 hbox hb
           have n0_ := aM (Kd.N_below (Kd.N_elderB (by (with_reducible repeat (first | apply Kd.N_alloc | apply Kd.N_drewN | apply Kd.N_drew)); exact HO350.out) gb367 (Nat.le_of_eq hg.symm)) hb)
           have n1_ := aM (Kd.R_below (by (with_reducible repeat (first | apply Kd.R_alloc | apply Kd.R_drewN | apply Kd.R_drew)); exact HO355.out) hb)
           have n2_ := aM (Kd.N_below (Kd.N_elderB (by (with_reducible repeat (first | apply Kd.N_alloc | apply Kd.N_drewN | apply Kd.N_drew)); exact HO358.out) gb367 (Nat.le_of_eq hg.symm)) hb)
           have n3_ := aM (Kd.R_below (by (with_reducible repeat (first | apply Kd.R_alloc | apply Kd.R_drewN | apply Kd.R_drew)); exact HO362.out) hb)
           have n4_ := aM (blk_below (g := gb352) (o := .cells #[.slice Ao28 t356.length co28] 24 (0, 0)) (by (with_reducible repeat (first | refine bN ?_ _ | refine bD ?_ | refine bA ?_ _)); exact BK352.out) hb)
           have n5_ := aM (below_step (by repeat (first | (with_reducible first | exact HB.out | apply wA | apply wN | apply wD | refine below_set ?_ GE352.out) | exact HB.out)) hb)
           have n6_ := aM (hbox)
           have n7_ := aM ((by rw [hg]; exact (below_size (by repeat (first | (with_reducible first | exact HB.out | apply wA | apply wN | apply wD | refine below_set ?_ GE352.out) | exact HB.out))) : w.heap.size ≤ gb367))
           have n8_ := aM ((by rw [hg]; exact (below_size (by repeat (first | (with_reducible first | exact HB.out | apply wA | apply wN | apply wD | refine below_set ?_ GE352.out) | exact HB.out))) : w.heap.size ≤ gb367))
           have n9_ := aM ((by rw [hg]; exact Nat.ne_of_lt (blk_lt (g := gb352) (o := .cells #[.slice Ao28 t356.length co28] 24 (0, 0)) (by (with_reducible repeat (first | refine bN ?_ _ | refine bD ?_ | refine bA ?_ _)); exact BK352.out)) : gb352 ≠ gb367))
           have n10_ := aM ((by rw [hg]; exact Nat.ne_of_gt (blk_lt (g := gb352) (o := .cells #[.slice Ao28 t356.length co28] 24 (0, 0)) (by (with_reducible repeat (first | refine bN ?_ _ | refine bD ?_ | refine bA ?_ _)); exact BK352.out)) : gb367 ≠ gb352))
           clear HO350
           clear HO355
           clear HO358
           clear HO362
           clear BK352
           clear HB
           have HO350 := n0_
           have HO355 := n1_
           have HO358 := n2_
           have HO362 := n3_
           have BK352 := n4_
           have HB := n5_
           have BK367 := n6_
           have GW367 := n7_
           have GE367 := n8_
           have NB352_367 := n9_
           have NB367_352 := n10_
           clear n0_ n1_ n2_ n3_ n4_ n5_ n6_ n7_ n8_ n9_ n10_
           clear hb hbox hg
           obtain ⟨Ao35, co35, eo35⟩ := Kd.R_slice HO362.out
           (first | subst eo35 | (injection eo35 with f1_ f2_ f3_; have f4_ := f1_.symm; have f5_ := f3_.symm; clear f1_ f2_ f3_; subst f4_; subst f5_))
           refine hK.out _ _ ((blk_cell BK352.out 0).trans rfl) (fun hHeld => ?_)
           clear hK K
           refine norm_ (a' := ?_) ?_ ?_
           rotate_left
           ·show Act.put _ (some 9) _ = _
            simp only [Act.put, List.setIfInBounds_toArray, List.set_cons_zero, List.set_cons_succ, i64_w, i32_w]
            rfl
           refine one_ (i := 3) (N := some 33) #[true, true, true, true, false, false, false, true, false, false] rfl rfl (one_of HT_.out (by kernel_rfl)) (by decide) (fun K hK => ?_)
           refine goes_ Try.func14 (by kernel_rfl) rfl #[.agg #[.slice Ao28 t356.length co28], .int .i64 0, .slice Ao35 y360.length co35] (by rfl) rfl rfl (by (try simp only [List.map_toArray, List.map_cons, List.map_nil]); first | done | rfl | (simp only [List.length_drop, List.length_take]; rfl)) ?_
           with_reducible refine (disk_Append.calls k _ _ t356 0 _ _ y360 t363 t366 _ ?side1 ?side2 ?side3 ?side4 A12.out).mono ?_
           (case side1 => repeat (first | exact (Kd.N_reads' HO358.out).2.2 | (with_reducible refine Kd.C_alloc ?_ _) | (with_reducible refine Kd.C_drewN ?_ _) | (with_reducible refine Kd.C_drew ?_)))
           (case side2 => exact (Kd.N_reads' HO358.out).2.1)
           (case side3 => repeat (first | exact (Kd.R_reads' HO362.out).2.2 | (with_reducible refine Kd.C_alloc ?_ _) | (with_reducible refine Kd.C_drewN ?_ _) | (with_reducible refine Kd.C_drew ?_)))
           (case side4 => exact (Kd.R_reads' HO362.out).2.1)
           rintro e w36 ⟨v364, rfl, ho0, hb⟩
           refine ⟨_, rfl, ?_⟩
           have n0_ := aM (Kd.N_elder' (by (with_reducible repeat (first | apply Kd.N_alloc | apply Kd.N_drewN | apply Kd.N_drew)); exact HO350.out) (by first | exact Kd.N_base ho0 | exact Kd.N_base (Kd.S_N ho0)) hb)
           have n1_ := aM (Kd.R_below (by (with_reducible repeat (first | apply Kd.R_alloc | apply Kd.R_drewN | apply Kd.R_drew)); exact HO355.out) hb)
           have n2_ := aM (Kd.N_elder' (by (with_reducible repeat (first | apply Kd.N_alloc | apply Kd.N_drewN | apply Kd.N_drew)); exact HO358.out) (by first | exact Kd.N_base ho0 | exact Kd.N_base (Kd.S_N ho0)) hb)
           have n3_ := aM (Kd.R_below (by (with_reducible repeat (first | apply Kd.R_alloc | apply Kd.R_drewN | apply Kd.R_drew)); exact HO362.out) hb)
           have n4_ := aM (Kd.N_lower (Kd.N_mono (ok' := fun k_ => some k_ ≠ (.slice Ao21 t348.length co21 : Value).ownBlock ∧ some k_ ≠ (.slice Ao26 y353.length co26 : Value).ownBlock ∧ some k_ ≠ (.slice Ao28 t356.length co28 : Value).ownBlock ∧ some k_ ≠ (.slice Ao35 y360.length co35 : Value).ownBlock ∧ k_ ≠ gb352 ∧ k_ ≠ gb367) (Kd.S_N (Kd.S_bound ho0)) (fun k_ hk_ => ⟨(Kd.fresh' (Kd.N_lt (by (with_reducible repeat (first | apply Kd.N_alloc | apply Kd.N_drewN | apply Kd.N_drew)); exact HO350.out)) k_ hk_.2.1), (Kd.fresh' (Kd.R_lt (by (with_reducible repeat (first | apply Kd.R_alloc | apply Kd.R_drewN | apply Kd.R_drew)); exact HO355.out)) k_ hk_.2.1), (Kd.fresh' (Kd.N_lt (by (with_reducible repeat (first | apply Kd.N_alloc | apply Kd.N_drewN | apply Kd.N_drew)); exact HO358.out)) k_ hk_.2.1), (Kd.fresh' (Kd.R_lt (by (with_reducible repeat (first | apply Kd.R_alloc | apply Kd.R_drewN | apply Kd.R_drew)); exact HO362.out)) k_ hk_.2.1), (Kd.freshB (g := gb352) (o := .cells #[.slice Ao28 t356.length co28] 24 (0, 0)) (by (with_reducible repeat (first | refine bN ?_ _ | refine bD ?_ | refine bA ?_ _)); exact BK352.out) k_ hk_.2.1), (Kd.freshB (g := gb367) (o := .cells #[.slice none 0 0] 24 (0, 0)) (by (with_reducible repeat (first | refine bN ?_ _ | refine bD ?_ | refine bA ?_ _)); exact BK367.out) k_ hk_.2.1)⟩)) (below_size (by repeat (first | (with_reducible first | exact HB.out | apply wA | apply wN | apply wD | refine below_set ?_ GE352.out | refine below_set ?_ GE367.out) | exact HB.out))))
           have n5_ := aM (blk_below (g := gb352) (o := .cells #[.slice Ao28 t356.length co28] 24 (0, 0)) (by (with_reducible repeat (first | refine bN ?_ _ | refine bD ?_ | refine bA ?_ _)); exact BK352.out) hb)
           have n6_ := aM (blk_below (g := gb367) (o := .cells #[.slice none 0 0] 24 (0, 0)) (by (with_reducible repeat (first | refine bN ?_ _ | refine bD ?_ | refine bA ?_ _)); exact BK367.out) hb)
           have n7_ := aM (below_step (by repeat (first | (with_reducible first | exact HB.out | apply wA | apply wN | apply wD | refine below_set ?_ GE352.out | refine below_set ?_ GE367.out) | exact HB.out)) hb)
           clear HO350
           clear HO355
           clear HO358
           clear HO362
           clear BK352
           clear BK367
           clear HB
           have HO350 := n0_
           have HO355 := n1_
           have HO358 := n2_
           have HO362 := n3_
           have HO365 := n4_
           have BK352 := n5_
           have BK367 := n6_
           have HB := n7_
           clear n0_ n1_ n2_ n3_ n4_ n5_ n6_ n7_
           (try clear hb)
           (try clear hb2)
           (try clear hk)
           (try clear hi)
           (try clear ho0)
           refine hK.out _ _ ((blk_cell BK352.out 0).trans rfl) (fun hHeld => ?_)
           clear hK K
           refine norm_ (a' := ?_) ?_ ?_
           rotate_left
           ·show Act.put _ (some 33) _ = _
            simp only [Act.put, List.setIfInBounds_toArray, List.set_cons_zero, List.set_cons_succ, i64_w, i32_w]
            rfl
           refine pure_ (i := 4) (N := some 29) (v := ?_) (a' := ?_) #[true, true, true, true, true, false, false, true, false, false] rfl rfl (any_of HT_.out (by kernel_rfl)) (fun _ _ _ h => h) (Or.inl ⟨by rfl, ?_⟩) ?_ ?_
           rotate_left
           ·intro w'
            go_simp
            with_reducible rfl
           rotate_left
           ·simp only [Act.put, List.setIfInBounds_toArray, List.set_cons_zero, List.set_cons_succ, i64_w, i32_w]
            rfl
           refine pure_ (i := 5) (N := some 34) (v := ?_) (a' := ?_) #[true, true, true, true, true, true, false, true, false, false] rfl rfl (any_of HT_.out (by kernel_rfl)) (fun _ _ _ h => h) (Or.inl ⟨by rfl, ?_⟩) ?_ ?_
           rotate_left
           ·intro w'
            go_simp
            with_reducible rfl
           rotate_left
           ·simp only [Act.put, List.setIfInBounds_toArray, List.set_cons_zero, List.set_cons_succ, i64_w, i32_w]
            rfl
           refine pure_ (i := 6) (N := some 35) (v := ?_) (a' := ?_) #[true, true, true, true, true, true, true, true, false, false] rfl rfl (any_of HT_.out (by kernel_rfl)) (fun _ _ _ h => h) (Or.inl ⟨by rfl, ?_⟩) ?_ ?_
           rotate_left
           ·intro w'
            go_simp
            with_reducible rfl
           rotate_left
           ·simp only [Act.put, List.setIfInBounds_toArray, List.set_cons_zero, List.set_cons_succ, i64_w, i32_w]
            rfl
           exact norm_ (by simp only [putAll, Act.put, List.setIfInBounds_toArray, List.set_cons_zero, List.set_cons_succ]) (hCont (.slice Ao35 y360.length co35, v364, gb367) _ ⟨hHeld, (by (with_reducible repeat (first | apply Kd.N_alloc | apply Kd.N_drewN | apply Kd.N_drew)); exact Kd.N_mono HO350.out (fun _ hk => ⟨hk.1.1.1.1, ⟨hk.1.1.1.2.1, ⟨hk.1.1.2, ⟨hk.2, ⟨hk.1.1.1.2.2, hk.1.2⟩⟩⟩⟩⟩)), (by (with_reducible repeat (first | apply Kd.R_alloc | apply Kd.R_drewN | apply Kd.R_drew)); exact Kd.R_mono HO355.out (fun _ hk => hk.2)), (by (with_reducible repeat (first | apply Kd.N_alloc | apply Kd.N_drewN | apply Kd.N_drew)); exact Kd.N_mono HO358.out (fun _ hk => ⟨hk.1.1.1.1, ⟨hk.1.1.1.2.1, ⟨hk.1.1.2, ⟨hk.2, ⟨hk.1.1.1.2.2, hk.1.2⟩⟩⟩⟩⟩)), (by (with_reducible repeat (first | apply Kd.R_alloc | apply Kd.R_drewN | apply Kd.R_drew)); exact Kd.R_mono HO362.out (fun _ hk => hk.2)), (by (with_reducible repeat (first | apply Kd.N_alloc | apply Kd.N_drewN | apply Kd.N_drew)); exact HO365.out), (by (with_reducible repeat (first | refine bN ?_ _ | refine bD ?_ | refine bA ?_ _)); exact BK352.out), (by (with_reducible repeat (first | refine bN ?_ _ | refine bD ?_ | refine bA ?_ _)); exact BK367.out), GW367.out, GE367.out, NB352_367.out, NB367_352.out, (by repeat (first | (with_reducible first | exact HB.out | apply wA | apply wN | apply wD | refine below_set ?_ GE352.out | refine below_set ?_ GE367.out) | exact HB.out))⟩)
         ·skip
          refine box_step ?hg (N := 9) ?hd (cs := #[.slice none 0 0]) (t := 24) ?hr ?_; (case hd => rfl); (case hg => rfl); (case hr => first | (go_simp; done) | (go_simp; rfl))
          intro gb367 hg w32 hbox hb
          have n0_ := aM (Kd.N_below (Kd.N_elderB (by (with_reducible repeat (first | apply Kd.N_alloc | apply Kd.N_drewN | apply Kd.N_drew)); exact HO350.out) gb367 (Nat.le_of_eq hg.symm)) hb)
          have n1_ := aM (Kd.R_below (by (with_reducible repeat (first | apply Kd.R_alloc | apply Kd.R_drewN | apply Kd.R_drew)); exact HO355.out) hb)
          have n2_ := aM (Kd.N_below (Kd.N_elderB (by (with_reducible repeat (first | apply Kd.N_alloc | apply Kd.N_drewN | apply Kd.N_drew)); exact HO358.out) gb367 (Nat.le_of_eq hg.symm)) hb)
          have n3_ := aM (blk_below (g := gb352) (o := .cells #[.slice Ao28 t356.length co28] 24 (0, 0)) (by (with_reducible repeat (first | refine bN ?_ _ | refine bD ?_ | refine bA ?_ _)); exact BK352.out) hb)
          have n4_ := aM (below_step (by repeat (first | (with_reducible first | exact HB.out | apply wA | apply wN | apply wD | refine below_set ?_ GE352.out) | exact HB.out)) hb)
          have n5_ := aM (hbox)
          have n6_ := aM ((by rw [hg]; exact (below_size (by repeat (first | (with_reducible first | exact HB.out | apply wA | apply wN | apply wD | refine below_set ?_ GE352.out) | exact HB.out))) : w.heap.size ≤ gb367))
          have n7_ := aM ((by rw [hg]; exact (below_size (by repeat (first | (with_reducible first | exact HB.out | apply wA | apply wN | apply wD | refine below_set ?_ GE352.out) | exact HB.out))) : w.heap.size ≤ gb367))
          have n8_ := aM ((by rw [hg]; exact Nat.ne_of_lt (blk_lt (g := gb352) (o := .cells #[.slice Ao28 t356.length co28] 24 (0, 0)) (by (with_reducible repeat (first | refine bN ?_ _ | refine bD ?_ | refine bA ?_ _)); exact BK352.out)) : gb352 ≠ gb367))
          have n9_ := aM ((by rw [hg]; exact Nat.ne_of_gt (blk_lt (g := gb352) (o := .cells #[.slice Ao28 t356.length co28] 24 (0, 0)) (by (with_reducible repeat (first | refine bN ?_ _ | refine bD ?_ | refine bA ?_ _)); exact BK352.out)) : gb367 ≠ gb352))
          clear HO350
          clear HO355
          clear HO358
          clear BK352
          clear HB
          have HO350 := n0_
          have HO355 := n1_
          have HO358 := n2_
          have BK352 := n3_
          have HB := n4_
          have BK367 := n5_
          have GW367 := n6_
          have GE367 := n7_
          have NB352_367 := n8_
          have NB367_352 := n9_
          clear n0_ n1_ n2_ n3_ n4_ n5_ n6_ n7_ n8_ n9_
          clear hb hbox hg
          refine hK.out _ _ ((blk_cell BK352.out 0).trans rfl) (fun hHeld => ?_)
          clear hK K
          refine norm_ (a' := ?_) ?_ ?_
          rotate_left
          ·show Act.put _ (some 9) _ = _
           simp only [Act.put, List.setIfInBounds_toArray, List.set_cons_zero, List.set_cons_succ, i64_w, i32_w]
           rfl
          refine one_ (i := 2) (N := some 32) #[true, true, true, false, false, false, false, true, false, false] rfl rfl (one_of HT_.out (by kernel_rfl)) (by decide) (fun K hK => ?_)
          refine Kd.R_makeK_step (Kd.int .u8) _ 5 (by rfl) (N := 32) rfl 30 _ _ rfl a1 rfl rfl Try.underlying30 (.int .u8 0) 1 info5 rfl (by decide) (by omega) 0 (ok := fun _ => True) (okp := fun _ => True) rfl (fun _ hk => hk) trivial (of_decide_eq_true (by first | (with_reducible assumption) | assumption)) (Nat.le_trans (Nat.mul_le_mul_right _ (of_decide_eq_true (by first | (with_reducible assumption) | assumption) : a1.toNat ≤ 281474976710656)) (by omega)) (Below.refl _ _) (Nat.le_refl _) ?_
          intro v361 w33 ho34 hb hg_ hnew_
          clear hg_ hnew_
          (first | rw [← Ny360.out] at ho34 | (simp only [Int.reduceToNat] at ho34; rw [← Ny360.out] at ho34))
          have n0_ := aM (Kd.N_elder' (by (with_reducible repeat (first | apply Kd.N_alloc | apply Kd.N_drewN | apply Kd.N_drew)); exact HO350.out) (Kd.R_base ho34) hb)
          have n1_ := aM (Kd.R_elder' (by (with_reducible repeat (first | apply Kd.R_alloc | apply Kd.R_drewN | apply Kd.R_drew)); exact HO355.out) (Kd.R_base ho34) hb)
          have n2_ := aM (Kd.N_elder' (by (with_reducible repeat (first | apply Kd.N_alloc | apply Kd.N_drewN | apply Kd.N_drew)); exact HO358.out) (Kd.R_base ho34) hb)
          have n3_ := aM (Kd.R_lower (Kd.R_new' ho34 (Kd.R_lt (by (with_reducible repeat (first | apply Kd.R_alloc | apply Kd.R_drewN | apply Kd.R_drew)); exact HO355.out))) (below_size (by repeat (first | (with_reducible first | exact HB.out | apply wA | apply wN | apply wD | refine below_set ?_ GE352.out | refine below_set ?_ GE367.out) | exact HB.out))))
          have n4_ := aM (blk_below (g := gb352) (o := .cells #[.slice Ao28 t356.length co28] 24 (0, 0)) (by (with_reducible repeat (first | refine bN ?_ _ | refine bD ?_ | refine bA ?_ _)); exact BK352.out) hb)
          have n5_ := aM (blk_below (g := gb367) (o := .cells #[.slice none 0 0] 24 (0, 0)) (by (with_reducible repeat (first | refine bN ?_ _ | refine bD ?_ | refine bA ?_ _)); exact BK367.out) hb)
          have n6_ := aM (below_step (by repeat (first | (with_reducible first | exact HB.out | apply wA | apply wN | apply wD | refine below_set ?_ GE352.out | refine below_set ?_ GE367.out) | exact HB.out)) hb)
          clear HO350
          clear HO355
          clear HO358
          clear BK352
          clear BK367
          clear HB
          have HO350 := n0_
          have HO355 := n1_
          have HO358 := n2_
          have HO362 := n3_
          have BK352 := n4_
          have BK367 := n5_
          have HB := n6_
          clear n0_ n1_ n2_ n3_ n4_ n5_ n6_
          clear hb ho34
          obtain ⟨Ao35, co35, eo35⟩ := Kd.R_slice HO362.out
          (first | subst eo35 | (injection eo35 with f1_ f2_ f3_; have f4_ := f1_.symm; have f5_ := f3_.symm; clear f1_ f2_ f3_; subst f4_; subst f5_))
          refine hK.out _ _ ((blk_cell BK352.out 0).trans rfl) (fun hHeld => ?_)
          clear hK K
          refine norm_ (a' := ?_) ?_ ?_
          rotate_left
          ·show Act.put _ (some 32) _ = _
           simp only [Act.put, List.setIfInBounds_toArray, List.set_cons_zero, List.set_cons_succ, i64_w, i32_w]
           rfl
          refine one_ (i := 3) (N := some 33) #[true, true, true, true, false, false, false, true, false, false] rfl rfl (one_of HT_.out (by kernel_rfl)) (by decide) (fun K hK => ?_)
          refine goes_ Try.func14 (by kernel_rfl) rfl #[.agg #[.slice Ao28 t356.length co28], .int .i64 0, .slice Ao35 y360.length co35] (by rfl) rfl rfl (by (try simp only [List.map_toArray, List.map_cons, List.map_nil]); first | done | rfl | (simp only [List.length_drop, List.length_take]; rfl)) ?_
          with_reducible refine (disk_Append.calls k _ _ t356 0 _ _ y360 t363 t366 _ ?side1 ?side2 ?side3 ?side4 A12.out).mono ?_
          (case side1 => repeat (first | exact (Kd.N_reads' HO358.out).2.2 | (with_reducible refine Kd.C_alloc ?_ _) | (with_reducible refine Kd.C_drewN ?_ _) | (with_reducible refine Kd.C_drew ?_)))
          (case side2 => exact (Kd.N_reads' HO358.out).2.1)
          (case side3 => repeat (first | exact (Kd.R_reads' HO362.out).2.2 | (with_reducible refine Kd.C_alloc ?_ _) | (with_reducible refine Kd.C_drewN ?_ _) | (with_reducible refine Kd.C_drew ?_)))
          (case side4 => exact (Kd.R_reads' HO362.out).2.1)
          rintro e w36 ⟨v364, rfl, ho0, hb⟩
          refine ⟨_, rfl, ?_⟩
          have n0_ := aM (Kd.N_elder' (by (with_reducible repeat (first | apply Kd.N_alloc | apply Kd.N_drewN | apply Kd.N_drew)); exact HO350.out) (by first | exact Kd.N_base ho0 | exact Kd.N_base (Kd.S_N ho0)) hb)
          have n1_ := aM (Kd.R_below (by (with_reducible repeat (first | apply Kd.R_alloc | apply Kd.R_drewN | apply Kd.R_drew)); exact HO355.out) hb)
          have n2_ := aM (Kd.N_elder' (by (with_reducible repeat (first | apply Kd.N_alloc | apply Kd.N_drewN | apply Kd.N_drew)); exact HO358.out) (by first | exact Kd.N_base ho0 | exact Kd.N_base (Kd.S_N ho0)) hb)
          have n3_ := aM (Kd.R_below (by (with_reducible repeat (first | apply Kd.R_alloc | apply Kd.R_drewN | apply Kd.R_drew)); exact HO362.out) hb)
          have n4_ := aM (Kd.N_lower (Kd.N_mono (ok' := fun k_ => some k_ ≠ (.slice Ao21 t348.length co21 : Value).ownBlock ∧ some k_ ≠ (.slice Ao26 y353.length co26 : Value).ownBlock ∧ some k_ ≠ (.slice Ao28 t356.length co28 : Value).ownBlock ∧ some k_ ≠ (.slice Ao35 y360.length co35 : Value).ownBlock ∧ k_ ≠ gb352 ∧ k_ ≠ gb367) (Kd.S_N (Kd.S_bound ho0)) (fun k_ hk_ => ⟨(Kd.fresh' (Kd.N_lt (by (with_reducible repeat (first | apply Kd.N_alloc | apply Kd.N_drewN | apply Kd.N_drew)); exact HO350.out)) k_ hk_.2.1), (Kd.fresh' (Kd.R_lt (by (with_reducible repeat (first | apply Kd.R_alloc | apply Kd.R_drewN | apply Kd.R_drew)); exact HO355.out)) k_ hk_.2.1), (Kd.fresh' (Kd.N_lt (by (with_reducible repeat (first | apply Kd.N_alloc | apply Kd.N_drewN | apply Kd.N_drew)); exact HO358.out)) k_ hk_.2.1), (Kd.fresh' (Kd.R_lt (by (with_reducible repeat (first | apply Kd.R_alloc | apply Kd.R_drewN | apply Kd.R_drew)); exact HO362.out)) k_ hk_.2.1), (Kd.freshB (g := gb352) (o := .cells #[.slice Ao28 t356.length co28] 24 (0, 0)) (by (with_reducible repeat (first | refine bN ?_ _ | refine bD ?_ | refine bA ?_ _)); exact BK352.out) k_ hk_.2.1), (Kd.freshB (g := gb367) (o := .cells #[.slice none 0 0] 24 (0, 0)) (by (with_reducible repeat (first | refine bN ?_ _ | refine bD ?_ | refine bA ?_ _)); exact BK367.out) k_ hk_.2.1)⟩)) (below_size (by repeat (first | (with_reducible first | exact HB.out | apply wA | apply wN | apply wD | refine below_set ?_ GE352.out | refine below_set ?_ GE367.out) | exact HB.out))))
          have n5_ := aM (blk_below (g := gb352) (o := .cells #[.slice Ao28 t356.length co28] 24 (0, 0)) (by (with_reducible repeat (first | refine bN ?_ _ | refine bD ?_ | refine bA ?_ _)); exact BK352.out) hb)
          have n6_ := aM (blk_below (g := gb367) (o := .cells #[.slice none 0 0] 24 (0, 0)) (by (with_reducible repeat (first | refine bN ?_ _ | refine bD ?_ | refine bA ?_ _)); exact BK367.out) hb)
          have n7_ := aM (below_step (by repeat (first | (with_reducible first | exact HB.out | apply wA | apply wN | apply wD | refine below_set ?_ GE352.out | refine below_set ?_ GE367.out) | exact HB.out)) hb)
          clear HO350
          clear HO355
          clear HO358
          clear HO362
          clear BK352
          clear BK367
          clear HB
          have HO350 := n0_
          have HO355 := n1_
          have HO358 := n2_
          have HO362 := n3_
          have HO365 := n4_
          have BK352 := n5_
          have BK367 := n6_
          have HB := n7_
          clear n0_ n1_ n2_ n3_ n4_ n5_ n6_ n7_
          (try clear hb)
          (try clear hb2)
          (try clear hk)
          (try clear hi)
          (try clear ho0)
          refine hK.out _ _ ((blk_cell BK352.out 0).trans rfl) (fun hHeld => ?_)
          clear hK K
          refine norm_ (a' := ?_) ?_ ?_
          rotate_left
          ·show Act.put _ (some 33) _ = _
           simp only [Act.put, List.setIfInBounds_toArray, List.set_cons_zero, List.set_cons_succ, i64_w, i32_w]
           rfl
          refine pure_ (i := 4) (N := some 29) (v := ?_) (a' := ?_) #[true, true, true, true, true, false, false, true, false, false] rfl rfl (any_of HT_.out (by kernel_rfl)) (fun _ _ _ h => h) (Or.inl ⟨by rfl, ?_⟩) ?_ ?_
          rotate_left
          ·intro w'
           go_simp
           with_reducible rfl
          rotate_left
          ·simp only [Act.put, List.setIfInBounds_toArray, List.set_cons_zero, List.set_cons_succ, i64_w, i32_w]
           rfl
          refine pure_ (i := 5) (N := some 34) (v := ?_) (a' := ?_) #[true, true, true, true, true, true, false, true, false, false] rfl rfl (any_of HT_.out (by kernel_rfl)) (fun _ _ _ h => h) (Or.inl ⟨by rfl, ?_⟩) ?_ ?_
          rotate_left
          ·intro w'
           go_simp
           with_reducible rfl
          rotate_left
          ·simp only [Act.put, List.setIfInBounds_toArray, List.set_cons_zero, List.set_cons_succ, i64_w, i32_w]
           rfl
          refine pure_ (i := 6) (N := some 35) (v := ?_) (a' := ?_) #[true, true, true, true, true, true, true, true, false, false] rfl rfl (any_of HT_.out (by kernel_rfl)) (fun _ _ _ h => h) (Or.inl ⟨by rfl, ?_⟩) ?_ ?_
          rotate_left
          ·intro w'
           go_simp
           with_reducible rfl
          rotate_left
          ·simp only [Act.put, List.setIfInBounds_toArray, List.set_cons_zero, List.set_cons_succ, i64_w, i32_w]
           rfl
          exact norm_ (by simp only [putAll, Act.put, List.setIfInBounds_toArray, List.set_cons_zero, List.set_cons_succ]) (hCont (.slice Ao35 y360.length co35, v364, gb367) _ ⟨hHeld, (by (with_reducible repeat (first | apply Kd.N_alloc | apply Kd.N_drewN | apply Kd.N_drew)); exact Kd.N_mono HO350.out (fun _ hk => ⟨hk.1.1.1.1, ⟨hk.1.1.1.2.1, ⟨hk.1.2, ⟨hk.2, ⟨hk.1.1.1.2.2, hk.1.1.2⟩⟩⟩⟩⟩)), (by (with_reducible repeat (first | apply Kd.R_alloc | apply Kd.R_drewN | apply Kd.R_drew)); exact Kd.R_mono HO355.out (fun _ hk => hk.2)), (by (with_reducible repeat (first | apply Kd.N_alloc | apply Kd.N_drewN | apply Kd.N_drew)); exact Kd.N_mono HO358.out (fun _ hk => ⟨hk.1.1.1.1, ⟨hk.1.1.1.2.1, ⟨hk.1.2, ⟨hk.2, ⟨hk.1.1.1.2.2, hk.1.1.2⟩⟩⟩⟩⟩)), (by (with_reducible repeat (first | apply Kd.R_alloc | apply Kd.R_drewN | apply Kd.R_drew)); exact Kd.R_mono HO362.out (fun _ hk => hk.2)), (by (with_reducible repeat (first | apply Kd.N_alloc | apply Kd.N_drewN | apply Kd.N_drew)); exact HO365.out), (by (with_reducible repeat (first | refine bN ?_ _ | refine bD ?_ | refine bA ?_ _)); exact BK352.out), (by (with_reducible repeat (first | refine bN ?_ _ | refine bD ?_ | refine bA ?_ _)); exact BK367.out), GW367.out, GE367.out, NB352_367.out, NB367_352.out, (by repeat (first | (with_reducible first | exact HB.out | apply wA | apply wN | apply wD | refine below_set ?_ GE352.out | refine below_set ?_ GE367.out) | exact HB.out))⟩)
        rintro ⟨v361, v364, gb367⟩ w37 ⟨hS_, h0_, h1_, h2_, h3_, h4_, h5_, h6_, h7_, h8_, h9_, h10_, h11_⟩
        have n0_ : Aside0 (Kd.N k48 48 w37 w.heap.size (fun k_ => some k_ ≠ (.slice Ao26 y353.length co26 : Value).ownBlock ∧ some k_ ≠ (.slice Ao28 t356.length co28 : Value).ownBlock ∧ some k_ ≠ (v361 : Value).ownBlock ∧ some k_ ≠ (v364 : Value).ownBlock ∧ k_ ≠ gb352 ∧ k_ ≠ gb367) (.slice Ao21 t348.length co21) t348) := ⟨h0_⟩
        have n1_ : Aside0 (Kd.R (Kd.int .u8) 5 w37 w.heap.size (fun k_ => some k_ ≠ (v361 : Value).ownBlock) (.slice Ao26 y353.length co26) y353) := ⟨h1_⟩
        have n2_ : Aside0 (Kd.N k48 48 w37 w.heap.size (fun k_ => some k_ ≠ (.slice Ao21 t348.length co21 : Value).ownBlock ∧ some k_ ≠ (.slice Ao26 y353.length co26 : Value).ownBlock ∧ some k_ ≠ (v361 : Value).ownBlock ∧ some k_ ≠ (v364 : Value).ownBlock ∧ k_ ≠ gb352 ∧ k_ ≠ gb367) (.slice Ao28 t356.length co28) t356) := ⟨h2_⟩
        have n3_ : Aside0 (Kd.R (Kd.int .u8) 5 w37 w.heap.size (fun k_ => some k_ ≠ (.slice Ao26 y353.length co26 : Value).ownBlock) v361 y360) := ⟨h3_⟩
        have n4_ : Aside0 (Kd.N k48 48 w37 w.heap.size (fun k_ => some k_ ≠ (.slice Ao21 t348.length co21 : Value).ownBlock ∧ some k_ ≠ (.slice Ao26 y353.length co26 : Value).ownBlock ∧ some k_ ≠ (.slice Ao28 t356.length co28 : Value).ownBlock ∧ some k_ ≠ (v361 : Value).ownBlock ∧ k_ ≠ gb352 ∧ k_ ≠ gb367) v364 t363) := ⟨h4_⟩
        have n5_ : Aside0 (w37.heap[gb352]? = some (.cells #[.slice Ao28 t356.length co28] 24 (0, 0))) := ⟨h5_⟩
        have n6_ : Aside0 (w37.heap[gb367]? = some (.cells #[.slice none 0 0] 24 (0, 0))) := ⟨h6_⟩
        have n7_ : Aside0 (w.heap.size ≤ gb367) := ⟨h7_⟩
        have n8_ : Aside0 (w.heap.size ≤ gb367) := ⟨h8_⟩
        have n9_ : Aside0 (gb352 ≠ gb367) := ⟨h9_⟩
        have n10_ : Aside0 (gb367 ≠ gb352) := ⟨h10_⟩
        have n11_ : Aside0 (Below w.heap.size w w37) := ⟨h11_⟩
        clear HO350
        clear HO355
        clear HO358
        clear BK352
        clear HB
        clear h0_ h1_ h2_ h3_ h4_ h5_ h6_ h7_ h8_ h9_ h10_ h11_
        have HO350 := n0_
        have HO355 := n1_
        have HO358 := n2_
        have HO362 := n3_
        have HO365 := n4_
        have BK352 := n5_
        have BK367 := n6_
        have GW367 := n7_
        have GE367 := n8_
        have NB352_367 := n9_
        have NB367_352 := n10_
        have HB := n11_
        clear n0_ n1_ n2_ n3_ n4_ n5_ n6_ n7_ n8_ n9_ n10_ n11_
        have hHeld : w37.cell? ⟨gb352, 0, none⟩ = some (.slice Ao28 t356.length co28) := hS_
        obtain ⟨Ao38, co38, eo38⟩ := Kd.N_slice HO365.out
        (first | subst eo38 | (injection eo38 with f1_ f2_ f3_; have f4_ := f1_.symm; have f5_ := f3_.symm; clear f1_ f2_ f3_; subst f4_; subst f5_))
        refine norm_ (a' := ?_) ?_ ?_
        rotate_left
        ·simp only [putAll, Act.put, List.setIfInBounds_toArray, List.set_cons_zero, List.set_cons_succ]
         rfl
        refine one_ (i := 8) (N := none) #[true, true, true, true, true, true, true, true, true, false] rfl rfl (one_of HT_.out (by kernel_rfl)) (by decide) (fun K hK => ?_)
        have hs39 : w37.cell? ⟨gb367, 0, none⟩ = some (.slice none 0 0) := (blk_cell BK367.out 0).trans rfl
        have hfs39 := blk_frozen BK367.out 0
        have hns39_0 := NB352_367.out
        have hms39_0 := NB367_352.out
        refine skip_ (w1 := ?_) (by rfl) rfl ?_ ?_
        rotate_left
        ·go_simp
         rfl
        refine hK.out _ _ (((cell_far (p := ⟨gb367, _, none⟩) NB352_367.out _).trans (hHeld))) (fun hHeld => ?_)
        clear hK K
        refine pure_ (i := 9) (N := some 10) (v := ?_) (a' := ?_) #[true, true, true, true, true, true, true, true, true, true] rfl rfl (any_of HT_.out (by kernel_rfl)) (fun _ _ _ h => h) (Or.inl ⟨by rfl, ?_⟩) ?_ ?_
        rotate_left
        ·intro w'
         go_simp
         with_reducible rfl
        rotate_left
        ·simp only [Act.put, List.setIfInBounds_toArray, List.set_cons_zero, List.set_cons_succ, i64_w, i32_w]
         rfl
        refine done_ (done_of HT_.out (by kernel_rfl)) ?_
        try go_wp2
        have n0_ : Aside0 (Kd.N k48 48 (w37.setCell ⟨gb367, 0, none⟩ (.slice Ao38 t363.length co38)) w.heap.size (fun k_ => some k_ ≠ (.slice Ao26 y353.length co26 : Value).ownBlock ∧ some k_ ≠ (.slice Ao28 t356.length co28 : Value).ownBlock ∧ some k_ ≠ (v361 : Value).ownBlock ∧ some k_ ≠ (.slice Ao38 t363.length co38 : Value).ownBlock ∧ k_ ≠ gb352 ∧ k_ ≠ gb367) (.slice Ao21 t348.length co21) t348) := ⟨by (with_reducible repeat (first | apply Kd.N_alloc | apply Kd.N_drewN | apply Kd.N_drew)); exact Kd.N_mono (Kd.N_far (p := ⟨gb367, 0, none⟩) (Kd.N_mono HO350.out (fun k_ hk => (⟨hk, hk.2.2.2.2.2⟩ : _ ∧ k_ ≠ gb367))) (fun _ hk => hk.2) (.slice Ao38 t363.length co38)) (fun _ hk => ⟨hk.1.1, ⟨hk.1.2.1, ⟨hk.1.2.2.1, ⟨hk.1.2.2.2.1, ⟨hk.1.2.2.2.2.1, hk.1.2.2.2.2.2⟩⟩⟩⟩⟩)⟩
        have n1_ : Aside0 (Kd.R (Kd.int .u8) 5 (w37.setCell ⟨gb367, 0, none⟩ (.slice Ao38 t363.length co38)) w.heap.size (fun k_ => some k_ ≠ (v361 : Value).ownBlock) (.slice Ao26 y353.length co26) y353) := ⟨by (with_reducible repeat (first | apply Kd.R_alloc | apply Kd.R_drewN | apply Kd.R_drew)); exact Kd.R_mono (Kd.R_far (p := ⟨gb367, 0, none⟩) (Kd.R_types HO355.out BK367.out (by decide)) (fun _ hk => hk.2) (.slice Ao38 t363.length co38)) (fun _ hk => hk.1)⟩
        have n2_ : Aside0 (Kd.N k48 48 (w37.setCell ⟨gb367, 0, none⟩ (.slice Ao38 t363.length co38)) w.heap.size (fun k_ => some k_ ≠ (.slice Ao21 t348.length co21 : Value).ownBlock ∧ some k_ ≠ (.slice Ao26 y353.length co26 : Value).ownBlock ∧ some k_ ≠ (v361 : Value).ownBlock ∧ some k_ ≠ (.slice Ao38 t363.length co38 : Value).ownBlock ∧ k_ ≠ gb352 ∧ k_ ≠ gb367) (.slice Ao28 t356.length co28) t356) := ⟨by (with_reducible repeat (first | apply Kd.N_alloc | apply Kd.N_drewN | apply Kd.N_drew)); exact Kd.N_mono (Kd.N_far (p := ⟨gb367, 0, none⟩) (Kd.N_mono HO358.out (fun k_ hk => (⟨hk, hk.2.2.2.2.2⟩ : _ ∧ k_ ≠ gb367))) (fun _ hk => hk.2) (.slice Ao38 t363.length co38)) (fun _ hk => ⟨hk.1.1, ⟨hk.1.2.1, ⟨hk.1.2.2.1, ⟨hk.1.2.2.2.1, ⟨hk.1.2.2.2.2.1, hk.1.2.2.2.2.2⟩⟩⟩⟩⟩)⟩
        have n3_ : Aside0 (Kd.R (Kd.int .u8) 5 (w37.setCell ⟨gb367, 0, none⟩ (.slice Ao38 t363.length co38)) w.heap.size (fun k_ => some k_ ≠ (.slice Ao26 y353.length co26 : Value).ownBlock) v361 y360) := ⟨by (with_reducible repeat (first | apply Kd.R_alloc | apply Kd.R_drewN | apply Kd.R_drew)); exact Kd.R_mono (Kd.R_far (p := ⟨gb367, 0, none⟩) (Kd.R_types HO362.out BK367.out (by decide)) (fun _ hk => hk.2) (.slice Ao38 t363.length co38)) (fun _ hk => hk.1)⟩
        have n4_ : Aside0 (Kd.N k48 48 (w37.setCell ⟨gb367, 0, none⟩ (.slice Ao38 t363.length co38)) w.heap.size (fun k_ => some k_ ≠ (.slice Ao21 t348.length co21 : Value).ownBlock ∧ some k_ ≠ (.slice Ao26 y353.length co26 : Value).ownBlock ∧ some k_ ≠ (.slice Ao28 t356.length co28 : Value).ownBlock ∧ some k_ ≠ (v361 : Value).ownBlock ∧ k_ ≠ gb352 ∧ k_ ≠ gb367) (.slice Ao38 t363.length co38) t363) := ⟨by (with_reducible repeat (first | apply Kd.N_alloc | apply Kd.N_drewN | apply Kd.N_drew)); exact Kd.N_mono (Kd.N_far (p := ⟨gb367, 0, none⟩) (Kd.N_mono HO365.out (fun k_ hk => (⟨hk, hk.2.2.2.2.2⟩ : _ ∧ k_ ≠ gb367))) (fun _ hk => hk.2) (.slice Ao38 t363.length co38)) (fun _ hk => ⟨hk.1.1, ⟨hk.1.2.1, ⟨hk.1.2.2.1, ⟨hk.1.2.2.2.1, ⟨hk.1.2.2.2.2.1, hk.1.2.2.2.2.2⟩⟩⟩⟩⟩)⟩
        have n5_ : Aside0 ((w37.setCell ⟨gb367, 0, none⟩ (.slice Ao38 t363.length co38)).heap[gb352]? = some (.cells #[.slice Ao28 t356.length co28] 24 (0, 0))) := ⟨by (with_reducible repeat (first | refine bN ?_ _ | refine bD ?_ | refine bA ?_ _)); refine blk_far ?_ NB352_367.out _; (with_reducible repeat (first | refine bN ?_ _ | refine bD ?_ | refine bA ?_ _)); exact BK352.out⟩
        have n6_ : Aside0 ((w37.setCell ⟨gb367, 0, none⟩ (.slice Ao38 t363.length co38)).heap[gb367]? = some (.cells #[.slice Ao38 t363.length co38] 24 (0, 0))) := ⟨by (with_reducible repeat (first | refine bN ?_ _ | refine bD ?_ | refine bA ?_ _)); refine blk_put (cs := #[.slice none 0 0]) ?_ 0 _ rfl; (with_reducible repeat (first | refine bN ?_ _ | refine bD ?_ | refine bA ?_ _)); exact BK367.out⟩
        have n7_ : Aside0 (Below w.heap.size w (w37.setCell ⟨gb367, 0, none⟩ (.slice Ao38 t363.length co38))) := ⟨by repeat (first | (with_reducible first | exact HB.out | apply wA | apply wN | apply wD | refine below_set ?_ GE352.out | refine below_set ?_ GE367.out) | exact HB.out)⟩
        (try clear HO350)
        (try clear HO355)
        (try clear HO358)
        (try clear HO362)
        (try clear HO365)
        (try clear BK352)
        (try clear BK367)
        (try clear HB)
        generalize (w37.setCell ⟨gb367, 0, none⟩ (.slice Ao38 t363.length co38)) = w40 at n0_ n1_ n2_ n3_ n4_ n5_ n6_ n7_ ⊢
        have HO350 := n0_
        have HO355 := n1_
        have HO358 := n2_
        have HO362 := n3_
        have HO365 := n4_
        have BK352 := n5_
        have BK367 := n6_
        have HB := n7_
        clear n0_ n1_ n2_ n3_ n4_ n5_ n6_ n7_
        have n0_ := aM (Kd.N_drew HO350.out)
        have n1_ := aM (Kd.R_drew HO355.out)
        have n2_ := aM (Kd.N_drew HO358.out)
        have n3_ := aM (Kd.R_drew HO362.out)
        have n4_ := aM (Kd.N_drew HO365.out)
        have n5_ := aM (bD BK352.out)
        have n6_ := aM (bD BK367.out)
        have n7_ := aM (wD HB.out)
        clear HO350
        clear HO355
        clear HO358
        clear HO362
        clear HO365
        clear BK352
        clear BK367
        clear HB
        have HO350 := n0_
        have HO355 := n1_
        have HO358 := n2_
        have HO362 := n3_
        have HO365 := n4_
        have BK352 := n5_
        have BK367 := n6_
        have HB := n7_
        clear n0_ n1_ n2_ n3_ n4_ n5_ n6_ n7_
        refine start_ (n := 12) (S := fun w' => w'.cell? ⟨gb352, 0, none⟩ = some (.slice Ao28 t356.length co28)) (ds := []) #[false, false, false, false, false, false, false, false, false, false, false, false] (by kernel_rfl) rfl rfl ((blk_cell BK352.out 0).trans rfl) (fun hHeld => ?_); refine with_tabW rollbacknetlaw10_DiskLimits.tab7 rollbacknetlaw10_DiskLimits.bits7 (fun HT_ HW_ => ?_)
        generalize w40.drew = w41 at HO350 HO355 HO358 HO362 HO365 BK352 BK367 HB hHeld ⊢
        refine pure_ (i := 1) (N := some 38) (v := ?_) (a' := ?_) #[false, true, false, false, false, false, false, false, false, false, false, false] rfl rfl (any_of HT_.out (by kernel_rfl)) (fun _ _ _ h => h) (Or.inl ⟨by rfl, ?_⟩) ?_ ?_
        rotate_left
        ·intro w'
         go_simp
         with_reducible rfl
        rotate_left
        ·simp only [Act.put, List.setIfInBounds_toArray, List.set_cons_zero, List.set_cons_succ, i64_w, i32_w]
         rfl
        refine pure_ (i := 2) (N := some 39) (v := ?_) (a' := ?_) #[false, true, true, false, false, false, false, false, false, false, false, false] rfl rfl (any_of HT_.out (by kernel_rfl)) (fun _ _ _ h => h) (Or.inl ⟨by rfl, ?_⟩) ?_ ?_
        rotate_left
        ·intro w'
         go_simp
         with_reducible rfl
        rotate_left
        ·simp only [Act.put, List.setIfInBounds_toArray, List.set_cons_zero, List.set_cons_succ, i64_w, i32_w]
         rfl
        refine pure_ (i := 3) (N := some 40) (v := ?_) (a' := ?_) #[false, true, true, true, false, false, false, false, false, false, false, false] rfl rfl (any_of HT_.out (by kernel_rfl)) (fun _ _ _ h => h) (Or.inl ⟨by rfl, ?_⟩) ?_ ?_
        rotate_left
        ·intro w'
         go_simp
         with_reducible rfl
        rotate_left
        ·simp only [Act.put, List.setIfInBounds_toArray, List.set_cons_zero, List.set_cons_succ, i64_w, i32_w]
         rfl
        refine take_ (i := 0) (N := some 37) (v := ?_) (a' := ?_) #[true, true, true, true, false, false, false, false, false, false, false, false] rfl rfl (take_ofW HT_.out HW_.out (by kernel_rfl)) (fun _ _ _ h => h) (Or.inl ⟨by rfl, ?_⟩) hHeld ?_ ?_
        rotate_left
        ·intro w' s0
         go_simp
         with_reducible rfl
        rotate_left
        ·simp only [Act.put, List.setIfInBounds_toArray, List.set_cons_zero, List.set_cons_succ, i64_w, i32_w]
         rfl
        refine join_ (σ := Value × Value × Nat) 2 #[true, true, true, true, true, true, true, true, true, true, false, false] (fun s_ => [(41, s_.1), (42, .tuple #[.agg #[s_.2.1], .int .i64 t374]), (11, .pointer (some ⟨s_.2.2, 0, none⟩)), (36, .tuple #[.agg #[s_.2.1], .int .i64 t374]), (43, .agg #[s_.2.1]), (44, .int .i64 t374)]) (fun s_ w' => (w'.cell? ⟨gb352, 0, none⟩ = some (.slice Ao28 t356.length co28)) ∧ (Kd.N k48 48 w' w.heap.size (fun k_ => some k_ ≠ (.slice Ao26 y353.length co26 : Value).ownBlock ∧ some k_ ≠ (.slice Ao28 t356.length co28 : Value).ownBlock ∧ some k_ ≠ (v361 : Value).ownBlock ∧ some k_ ≠ (.slice Ao38 t363.length co38 : Value).ownBlock ∧ some k_ ≠ (s_.1 : Value).ownBlock ∧ some k_ ≠ (s_.2.1 : Value).ownBlock ∧ k_ ≠ gb352 ∧ k_ ≠ gb367 ∧ k_ ≠ s_.2.2) (.slice Ao21 t348.length co21) t348) ∧ (Kd.R (Kd.int .u8) 5 w' w.heap.size (fun k_ => some k_ ≠ (v361 : Value).ownBlock ∧ some k_ ≠ (s_.1 : Value).ownBlock) (.slice Ao26 y353.length co26) y353) ∧ (Kd.N k48 48 w' w.heap.size (fun k_ => some k_ ≠ (.slice Ao21 t348.length co21 : Value).ownBlock ∧ some k_ ≠ (.slice Ao26 y353.length co26 : Value).ownBlock ∧ some k_ ≠ (v361 : Value).ownBlock ∧ some k_ ≠ (.slice Ao38 t363.length co38 : Value).ownBlock ∧ some k_ ≠ (s_.1 : Value).ownBlock ∧ some k_ ≠ (s_.2.1 : Value).ownBlock ∧ k_ ≠ gb352 ∧ k_ ≠ gb367 ∧ k_ ≠ s_.2.2) (.slice Ao28 t356.length co28) t356) ∧ (Kd.R (Kd.int .u8) 5 w' w.heap.size (fun k_ => some k_ ≠ (.slice Ao26 y353.length co26 : Value).ownBlock ∧ some k_ ≠ (s_.1 : Value).ownBlock) v361 y360) ∧ (Kd.N k48 48 w' w.heap.size (fun k_ => some k_ ≠ (.slice Ao21 t348.length co21 : Value).ownBlock ∧ some k_ ≠ (.slice Ao26 y353.length co26 : Value).ownBlock ∧ some k_ ≠ (.slice Ao28 t356.length co28 : Value).ownBlock ∧ some k_ ≠ (v361 : Value).ownBlock ∧ some k_ ≠ (s_.1 : Value).ownBlock ∧ some k_ ≠ (s_.2.1 : Value).ownBlock ∧ k_ ≠ gb352 ∧ k_ ≠ gb367 ∧ k_ ≠ s_.2.2) (.slice Ao38 t363.length co38) t363) ∧ (Kd.R (Kd.int .u8) 5 w' w.heap.size (fun k_ => some k_ ≠ (.slice Ao26 y353.length co26 : Value).ownBlock ∧ some k_ ≠ (v361 : Value).ownBlock) s_.1 y368) ∧ (Kd.N k48 48 w' w.heap.size (fun k_ => some k_ ≠ (.slice Ao21 t348.length co21 : Value).ownBlock ∧ some k_ ≠ (.slice Ao26 y353.length co26 : Value).ownBlock ∧ some k_ ≠ (.slice Ao28 t356.length co28 : Value).ownBlock ∧ some k_ ≠ (v361 : Value).ownBlock ∧ some k_ ≠ (.slice Ao38 t363.length co38 : Value).ownBlock ∧ some k_ ≠ (s_.1 : Value).ownBlock ∧ k_ ≠ gb352 ∧ k_ ≠ gb367 ∧ k_ ≠ s_.2.2) s_.2.1 t371) ∧ (w'.heap[gb352]? = some (.cells #[.slice Ao28 t356.length co28] 24 (0, 0))) ∧ (w'.heap[gb367]? = some (.cells #[.slice Ao38 t363.length co38] 24 (0, 0))) ∧ (w'.heap[s_.2.2]? = some (.cells #[.slice none 0 0] 24 (0, 0))) ∧ (w.heap.size ≤ s_.2.2) ∧ (w.heap.size ≤ s_.2.2) ∧ (gb352 ≠ s_.2.2) ∧ (s_.2.2 ≠ gb352) ∧ (gb367 ≠ s_.2.2) ∧ (s_.2.2 ≠ gb367) ∧ (Below w.heap.size w w')) ?_ ?_
        rotate_left
        ·intro hCont
         refine two_ (i := 4) (j := 9) (Ni := some 41) (Nj := some 11) #[true, true, true, true, true, false, false, false, false, false, false, false] #[true, true, true, true, false, false, false, false, false, true, false, false] rfl rfl rfl rfl (two_of HT_.out (by kernel_rfl)) (by decide) (by decide) (fun K hK => ?_) (fun K hK => ?_)
         ·skip
          refine Kd.R_make_step (Kd.int .u8) _ 5 (by rfl) (N := 41) rfl 30 _ _ rfl ji13 rfl rfl Try.underlying30 (.int .u8 0) 1 info5 rfl (by decide) (by omega) 0 (ok := fun _ => True) (okp := fun _ => True) rfl (fun _ hk => hk) trivial (of_decide_eq_true (by first | (with_reducible assumption) | assumption)) (Nat.le_trans (Nat.mul_le_mul_right _ (of_decide_eq_true (by first | (with_reducible assumption) | assumption) : ji13.toNat ≤ 281474976710656)) (by omega)) (Below.refl _ _) (Nat.le_refl _) ?_
          intro v369 w42 ho43 hb hg_ hnew_
          clear hg_ hnew_
          (first | rw [← Ny368.out] at ho43 | (simp only [Int.reduceToNat] at ho43; rw [← Ny368.out] at ho43))
          have n0_ := aM (Kd.N_elder' (by (with_reducible repeat (first | apply Kd.N_alloc | apply Kd.N_drewN | apply Kd.N_drew)); exact HO350.out) (Kd.R_base ho43) hb)
          have n1_ := aM (Kd.R_elder' (by (with_reducible repeat (first | apply Kd.R_alloc | apply Kd.R_drewN | apply Kd.R_drew)); exact HO355.out) (Kd.R_base ho43) hb)
          have n2_ := aM (Kd.N_elder' (by (with_reducible repeat (first | apply Kd.N_alloc | apply Kd.N_drewN | apply Kd.N_drew)); exact HO358.out) (Kd.R_base ho43) hb)
          have n3_ := aM (Kd.R_elder' (by (with_reducible repeat (first | apply Kd.R_alloc | apply Kd.R_drewN | apply Kd.R_drew)); exact HO362.out) (Kd.R_base ho43) hb)
          have n4_ := aM (Kd.N_elder' (by (with_reducible repeat (first | apply Kd.N_alloc | apply Kd.N_drewN | apply Kd.N_drew)); exact HO365.out) (Kd.R_base ho43) hb)
          have n5_ := aM (Kd.R_lower (Kd.R_new' (Kd.R_new' ho43 (Kd.R_lt (by (with_reducible repeat (first | apply Kd.R_alloc | apply Kd.R_drewN | apply Kd.R_drew)); exact HO355.out))) (Kd.R_lt (by (with_reducible repeat (first | apply Kd.R_alloc | apply Kd.R_drewN | apply Kd.R_drew)); exact HO362.out))) (below_size (by repeat (first | (with_reducible first | exact HB.out | apply wA | apply wN | apply wD | refine below_set ?_ GE352.out | refine below_set ?_ GE367.out) | exact HB.out))))
          have n6_ := aM (blk_below (g := gb352) (o := .cells #[.slice Ao28 t356.length co28] 24 (0, 0)) (by (with_reducible repeat (first | refine bN ?_ _ | refine bD ?_ | refine bA ?_ _)); exact BK352.out) hb)
          have n7_ := aM (blk_below (g := gb367) (o := .cells #[.slice Ao38 t363.length co38] 24 (0, 0)) (by (with_reducible repeat (first | refine bN ?_ _ | refine bD ?_ | refine bA ?_ _)); exact BK367.out) hb)
          have n8_ := aM (below_step (by repeat (first | (with_reducible first | exact HB.out | apply wA | apply wN | apply wD | refine below_set ?_ GE352.out | refine below_set ?_ GE367.out) | exact HB.out)) hb)
          clear HO350
          clear HO355
          clear HO358
          clear HO362
          clear HO365
          clear BK352
          clear BK367
          clear HB
          have HO350 := n0_
          have HO355 := n1_
          have HO358 := n2_
          have HO362 := n3_
          have HO365 := n4_
          have HO370 := n5_
          have BK352 := n6_
          have BK367 := n7_
          have HB := n8_
          clear n0_ n1_ n2_ n3_ n4_ n5_ n6_ n7_ n8_
          clear hb ho43
          obtain ⟨Ao44, co44, eo44⟩ := Kd.R_slice HO370.out
          (first | subst eo44 | (injection eo44 with f1_ f2_ f3_; have f4_ := f1_.symm; have f5_ := f3_.symm; clear f1_ f2_ f3_; subst f4_; subst f5_))
          refine hK.out _ _ ((blk_cell BK352.out 0).trans rfl) (fun hHeld => ?_)
          clear hK K
          refine norm_ (a' := ?_) ?_ ?_
          rotate_left
          ·show Act.put _ (some 41) _ = _
           simp only [Act.put, List.setIfInBounds_toArray, List.set_cons_zero, List.set_cons_succ, i64_w, i32_w]
           rfl
          refine two_ (i := 5) (j := 9) (Ni := some 42) (Nj := some 11) #[true, true, true, true, true, true, false, false, false, false, false, false] #[true, true, true, true, true, false, false, false, false, true, false, false] rfl rfl rfl rfl (two_of HT_.out (by kernel_rfl)) (by decide) (by decide) (fun K hK => ?_) (fun K hK => ?_)
          ·skip
           refine goes_ Try.func20 (by kernel_rfl) rfl #[.agg #[.slice Ao28 t356.length co28], .int .i64 0, .slice Ao44 y368.length co44] (by rfl) rfl rfl (by (try simp only [List.map_toArray, List.map_cons, List.map_nil]); first | done | rfl | (simp only [List.length_drop, List.length_take]; rfl)) ?_
           with_reducible refine (disk_Replace.calls k _ _ t356 0 _ _ y368 t371 t374 _ ?side1 ?side2 ?side3 ?side4 A16.out).mono ?_
           (case side1 => repeat (first | exact (Kd.N_reads' HO358.out).2.2 | (with_reducible refine Kd.C_alloc ?_ _) | (with_reducible refine Kd.C_drewN ?_ _) | (with_reducible refine Kd.C_drew ?_)))
           (case side2 => exact (Kd.N_reads' HO358.out).2.1)
           (case side3 => repeat (first | exact (Kd.R_reads' HO370.out).2.2 | (with_reducible refine Kd.C_alloc ?_ _) | (with_reducible refine Kd.C_drewN ?_ _) | (with_reducible refine Kd.C_drew ?_)))
           (case side4 => exact (Kd.R_reads' HO370.out).2.1)
           rintro e w45 ⟨v372, rfl, ho0, hb⟩
           refine ⟨_, rfl, ?_⟩
           have n0_ := aM (Kd.N_elder' (by (with_reducible repeat (first | apply Kd.N_alloc | apply Kd.N_drewN | apply Kd.N_drew)); exact HO350.out) (by first | exact Kd.N_base ho0 | exact Kd.N_base (Kd.S_N ho0)) hb)
           have n1_ := aM (Kd.R_below (by (with_reducible repeat (first | apply Kd.R_alloc | apply Kd.R_drewN | apply Kd.R_drew)); exact HO355.out) hb)
           have n2_ := aM (Kd.N_elder' (by (with_reducible repeat (first | apply Kd.N_alloc | apply Kd.N_drewN | apply Kd.N_drew)); exact HO358.out) (by first | exact Kd.N_base ho0 | exact Kd.N_base (Kd.S_N ho0)) hb)
           have n3_ := aM (Kd.R_below (by (with_reducible repeat (first | apply Kd.R_alloc | apply Kd.R_drewN | apply Kd.R_drew)); exact HO362.out) hb)
           have n4_ := aM (Kd.N_elder' (by (with_reducible repeat (first | apply Kd.N_alloc | apply Kd.N_drewN | apply Kd.N_drew)); exact HO365.out) (by first | exact Kd.N_base ho0 | exact Kd.N_base (Kd.S_N ho0)) hb)
           have n5_ := aM (Kd.R_below (by (with_reducible repeat (first | apply Kd.R_alloc | apply Kd.R_drewN | apply Kd.R_drew)); exact HO370.out) hb)
           have n6_ := aM (Kd.N_lower (Kd.N_mono (ok' := fun k_ => some k_ ≠ (.slice Ao21 t348.length co21 : Value).ownBlock ∧ some k_ ≠ (.slice Ao26 y353.length co26 : Value).ownBlock ∧ some k_ ≠ (.slice Ao28 t356.length co28 : Value).ownBlock ∧ some k_ ≠ (v361 : Value).ownBlock ∧ some k_ ≠ (.slice Ao38 t363.length co38 : Value).ownBlock ∧ some k_ ≠ (.slice Ao44 y368.length co44 : Value).ownBlock ∧ k_ ≠ gb352 ∧ k_ ≠ gb367) ho0 (fun k_ hk_ => ⟨(Kd.fresh' (Kd.N_lt (by (with_reducible repeat (first | apply Kd.N_alloc | apply Kd.N_drewN | apply Kd.N_drew)); exact HO350.out)) k_ hk_), (Kd.fresh' (Kd.R_lt (by (with_reducible repeat (first | apply Kd.R_alloc | apply Kd.R_drewN | apply Kd.R_drew)); exact HO355.out)) k_ hk_), (Kd.fresh' (Kd.N_lt (by (with_reducible repeat (first | apply Kd.N_alloc | apply Kd.N_drewN | apply Kd.N_drew)); exact HO358.out)) k_ hk_), (Kd.fresh' (Kd.R_lt (by (with_reducible repeat (first | apply Kd.R_alloc | apply Kd.R_drewN | apply Kd.R_drew)); exact HO362.out)) k_ hk_), (Kd.fresh' (Kd.N_lt (by (with_reducible repeat (first | apply Kd.N_alloc | apply Kd.N_drewN | apply Kd.N_drew)); exact HO365.out)) k_ hk_), (Kd.fresh' (Kd.R_lt (by (with_reducible repeat (first | apply Kd.R_alloc | apply Kd.R_drewN | apply Kd.R_drew)); exact HO370.out)) k_ hk_), (Kd.freshB (g := gb352) (o := .cells #[.slice Ao28 t356.length co28] 24 (0, 0)) (by (with_reducible repeat (first | refine bN ?_ _ | refine bD ?_ | refine bA ?_ _)); exact BK352.out) k_ hk_), (Kd.freshB (g := gb367) (o := .cells #[.slice Ao38 t363.length co38] 24 (0, 0)) (by (with_reducible repeat (first | refine bN ?_ _ | refine bD ?_ | refine bA ?_ _)); exact BK367.out) k_ hk_)⟩)) (below_size (by repeat (first | (with_reducible first | exact HB.out | apply wA | apply wN | apply wD | refine below_set ?_ GE352.out | refine below_set ?_ GE367.out) | exact HB.out))))
           have n7_ := aM (blk_below (g := gb352) (o := .cells #[.slice Ao28 t356.length co28] 24 (0, 0)) (by (with_reducible repeat (first | refine bN ?_ _ | refine bD ?_ | refine bA ?_ _)); exact BK352.out) hb)
           have n8_ := aM (blk_below (g := gb367) (o := .cells #[.slice Ao38 t363.length co38] 24 (0, 0)) (by (with_reducible repeat (first | refine bN ?_ _ | refine bD ?_ | refine bA ?_ _)); exact BK367.out) hb)
           have n9_ := aM (below_step (by repeat (first | (with_reducible first | exact HB.out | apply wA | apply wN | apply wD | refine below_set ?_ GE352.out | refine below_set ?_ GE367.out) | exact HB.out)) hb)
           clear HO350
           clear HO355
           clear HO358
           clear HO362
           clear HO365
           clear HO370
           clear BK352
           clear BK367
           clear HB
           have HO350 := n0_
           have HO355 := n1_
           have HO358 := n2_
           have HO362 := n3_
           have HO365 := n4_
           have HO370 := n5_
           have HO373 := n6_
           have BK352 := n7_
           have BK367 := n8_
           have HB := n9_
           clear n0_ n1_ n2_ n3_ n4_ n5_ n6_ n7_ n8_ n9_
           (try clear hb)
           (try clear hb2)
           (try clear hk)
           (try clear hi)
           (try clear ho0)
           refine hK.out _ _ ((blk_cell BK352.out 0).trans rfl) (fun hHeld => ?_)
           clear hK K
           refine norm_ (a' := ?_) ?_ ?_
           rotate_left
           ·show Act.put _ (some 42) _ = _
            simp only [Act.put, List.setIfInBounds_toArray, List.set_cons_zero, List.set_cons_succ, i64_w, i32_w]
            rfl
           refine pure_ (i := 6) (N := some 36) (v := ?_) (a' := ?_) #[true, true, true, true, true, true, true, false, false, false, false, false] rfl rfl (any_of HT_.out (by kernel_rfl)) (fun _ _ _ h => h) (Or.inl ⟨by rfl, ?_⟩) ?_ ?_
           rotate_left
           ·intro w'
            go_simp
            with_reducible rfl
           rotate_left
           ·simp only [Act.put, List.setIfInBounds_toArray, List.set_cons_zero, List.set_cons_succ, i64_w, i32_w]
            rfl
           refine pure_ (i := 7) (N := some 43) (v := ?_) (a' := ?_) #[true, true, true, true, true, true, true, true, false, false, false, false] rfl rfl (any_of HT_.out (by kernel_rfl)) (fun _ _ _ h => h) (Or.inl ⟨by rfl, ?_⟩) ?_ ?_
           rotate_left
           ·intro w'
            go_simp
            with_reducible rfl
           rotate_left
           ·simp only [Act.put, List.setIfInBounds_toArray, List.set_cons_zero, List.set_cons_succ, i64_w, i32_w]
            rfl
           refine pure_ (i := 8) (N := some 44) (v := ?_) (a' := ?_) #[true, true, true, true, true, true, true, true, true, false, false, false] rfl rfl (any_of HT_.out (by kernel_rfl)) (fun _ _ _ h => h) (Or.inl ⟨by rfl, ?_⟩) ?_ ?_
           rotate_left
           ·intro w'
            go_simp
            with_reducible rfl
           rotate_left
           ·simp only [Act.put, List.setIfInBounds_toArray, List.set_cons_zero, List.set_cons_succ, i64_w, i32_w]
            rfl
           refine one_ (i := 9) (N := some 11) #[true, true, true, true, true, true, true, true, true, true, false, false] rfl rfl (one_of HT_.out (by kernel_rfl)) (by decide) (fun K hK => ?_)
           refine box_step ?hg (N := 11) ?hd (cs := #[.slice none 0 0]) (t := 24) ?hr ?_; (case hd => rfl); (case hg => rfl); (case hr => first | (go_simp; done) | (go_simp; rfl))
           intro gb375 hg w46 hbox hb
           have n0_ := aM (Kd.N_below (Kd.N_elderB (by (with_reducible repeat (first | apply Kd.N_alloc | apply Kd.N_drewN | apply Kd.N_drew)); exact HO350.out) gb375 (Nat.le_of_eq hg.symm)) hb)
           have n1_ := aM (Kd.R_below (by (with_reducible repeat (first | apply Kd.R_alloc | apply Kd.R_drewN | apply Kd.R_drew)); exact HO355.out) hb)
           have n2_ := aM (Kd.N_below (Kd.N_elderB (by (with_reducible repeat (first | apply Kd.N_alloc | apply Kd.N_drewN | apply Kd.N_drew)); exact HO358.out) gb375 (Nat.le_of_eq hg.symm)) hb)
           have n3_ := aM (Kd.R_below (by (with_reducible repeat (first | apply Kd.R_alloc | apply Kd.R_drewN | apply Kd.R_drew)); exact HO362.out) hb)
           have n4_ := aM (Kd.N_below (Kd.N_elderB (by (with_reducible repeat (first | apply Kd.N_alloc | apply Kd.N_drewN | apply Kd.N_drew)); exact HO365.out) gb375 (Nat.le_of_eq hg.symm)) hb)
           have n5_ := aM (Kd.R_below (by (with_reducible repeat (first | apply Kd.R_alloc | apply Kd.R_drewN | apply Kd.R_drew)); exact HO370.out) hb)
           have n6_ := aM (Kd.N_below (Kd.N_elderB (by (with_reducible repeat (first | apply Kd.N_alloc | apply Kd.N_drewN | apply Kd.N_drew)); exact HO373.out) gb375 (Nat.le_of_eq hg.symm)) hb)
           have n7_ := aM (blk_below (g := gb352) (o := .cells #[.slice Ao28 t356.length co28] 24 (0, 0)) (by (with_reducible repeat (first | refine bN ?_ _ | refine bD ?_ | refine bA ?_ _)); exact BK352.out) hb)
           have n8_ := aM (blk_below (g := gb367) (o := .cells #[.slice Ao38 t363.length co38] 24 (0, 0)) (by (with_reducible repeat (first | refine bN ?_ _ | refine bD ?_ | refine bA ?_ _)); exact BK367.out) hb)
           have n9_ := aM (below_step (by repeat (first | (with_reducible first | exact HB.out | apply wA | apply wN | apply wD | refine below_set ?_ GE352.out | refine below_set ?_ GE367.out) | exact HB.out)) hb)
           have n10_ := aM (hbox)
           have n11_ := aM ((by rw [hg]; exact (below_size (by repeat (first | (with_reducible first | exact HB.out | apply wA | apply wN | apply wD | refine below_set ?_ GE352.out | refine below_set ?_ GE367.out) | exact HB.out))) : w.heap.size ≤ gb375))
           have n12_ := aM ((by rw [hg]; exact (below_size (by repeat (first | (with_reducible first | exact HB.out | apply wA | apply wN | apply wD | refine below_set ?_ GE352.out | refine below_set ?_ GE367.out) | exact HB.out))) : w.heap.size ≤ gb375))
           have n13_ := aM ((by rw [hg]; exact Nat.ne_of_lt (blk_lt (g := gb352) (o := .cells #[.slice Ao28 t356.length co28] 24 (0, 0)) (by (with_reducible repeat (first | refine bN ?_ _ | refine bD ?_ | refine bA ?_ _)); exact BK352.out)) : gb352 ≠ gb375))
           have n14_ := aM ((by rw [hg]; exact Nat.ne_of_gt (blk_lt (g := gb352) (o := .cells #[.slice Ao28 t356.length co28] 24 (0, 0)) (by (with_reducible repeat (first | refine bN ?_ _ | refine bD ?_ | refine bA ?_ _)); exact BK352.out)) : gb375 ≠ gb352))
           have n15_ := aM ((by rw [hg]; exact Nat.ne_of_lt (blk_lt (g := gb367) (o := .cells #[.slice Ao38 t363.length co38] 24 (0, 0)) (by (with_reducible repeat (first | refine bN ?_ _ | refine bD ?_ | refine bA ?_ _)); exact BK367.out)) : gb367 ≠ gb375))
           have n16_ := aM ((by rw [hg]; exact Nat.ne_of_gt (blk_lt (g := gb367) (o := .cells #[.slice Ao38 t363.length co38] 24 (0, 0)) (by (with_reducible repeat (first | refine bN ?_ _ | refine bD ?_ | refine bA ?_ _)); exact BK367.out)) : gb375 ≠ gb367))
           clear HO350
           clear HO355
           clear HO358
           clear HO362
           clear HO365
           clear HO370
           clear HO373
           clear BK352
           clear BK367
           clear HB
           have HO350 := n0_
           have HO355 := n1_
           have HO358 := n2_
           have HO362 := n3_
           have HO365 := n4_
           have HO370 := n5_
           have HO373 := n6_
           have BK352 := n7_
           have BK367 := n8_
           have HB := n9_
           have BK375 := n10_
           have GW375 := n11_
           have GE375 := n12_
           have NB352_375 := n13_
           have NB375_352 := n14_
           have NB367_375 := n15_
           have NB375_367 := n16_
           clear n0_ n1_ n2_ n3_ n4_ n5_ n6_ n7_ n8_ n9_ n10_ n11_ n12_ n13_ n14_ n15_ n16_
           clear hb hbox hg
           refine hK.out _ _ ((blk_cell BK352.out 0).trans rfl) (fun hHeld => ?_)
           clear hK K
           refine norm_ (a' := ?_) ?_ ?_
           rotate_left
           ·show Act.put _ (some 11) _ = _
            simp only [Act.put, List.setIfInBounds_toArray, List.set_cons_zero, List.set_cons_succ, i64_w, i32_w]
            rfl
           exact norm_ (by simp only [putAll, Act.put, List.setIfInBounds_toArray, List.set_cons_zero, List.set_cons_succ]) (hCont (.slice Ao44 y368.length co44, v372, gb375) _ ⟨hHeld, (by (with_reducible repeat (first | apply Kd.N_alloc | apply Kd.N_drewN | apply Kd.N_drew)); exact Kd.N_mono HO350.out (fun _ hk => ⟨hk.1.1.1.1, ⟨hk.1.1.1.2.1, ⟨hk.1.1.1.2.2.1, ⟨hk.1.1.1.2.2.2.1, ⟨hk.1.1.2, ⟨hk.1.2, ⟨hk.1.1.1.2.2.2.2.1, ⟨hk.1.1.1.2.2.2.2.2, hk.2⟩⟩⟩⟩⟩⟩⟩⟩)), (by (with_reducible repeat (first | apply Kd.R_alloc | apply Kd.R_drewN | apply Kd.R_drew)); exact HO355.out), (by (with_reducible repeat (first | apply Kd.N_alloc | apply Kd.N_drewN | apply Kd.N_drew)); exact Kd.N_mono HO358.out (fun _ hk => ⟨hk.1.1.1.1, ⟨hk.1.1.1.2.1, ⟨hk.1.1.1.2.2.1, ⟨hk.1.1.1.2.2.2.1, ⟨hk.1.1.2, ⟨hk.1.2, ⟨hk.1.1.1.2.2.2.2.1, ⟨hk.1.1.1.2.2.2.2.2, hk.2⟩⟩⟩⟩⟩⟩⟩⟩)), (by (with_reducible repeat (first | apply Kd.R_alloc | apply Kd.R_drewN | apply Kd.R_drew)); exact HO362.out), (by (with_reducible repeat (first | apply Kd.N_alloc | apply Kd.N_drewN | apply Kd.N_drew)); exact Kd.N_mono HO365.out (fun _ hk => ⟨hk.1.1.1.1, ⟨hk.1.1.1.2.1, ⟨hk.1.1.1.2.2.1, ⟨hk.1.1.1.2.2.2.1, ⟨hk.1.1.2, ⟨hk.1.2, ⟨hk.1.1.1.2.2.2.2.1, ⟨hk.1.1.1.2.2.2.2.2, hk.2⟩⟩⟩⟩⟩⟩⟩⟩)), (by (with_reducible repeat (first | apply Kd.R_alloc | apply Kd.R_drewN | apply Kd.R_drew)); exact Kd.R_mono HO370.out (fun _ hk => ⟨hk.1.2, hk.2⟩)), (by (with_reducible repeat (first | apply Kd.N_alloc | apply Kd.N_drewN | apply Kd.N_drew)); exact Kd.N_mono HO373.out (fun _ hk => ⟨hk.1.1, ⟨hk.1.2.1, ⟨hk.1.2.2.1, ⟨hk.1.2.2.2.1, ⟨hk.1.2.2.2.2.1, ⟨hk.1.2.2.2.2.2.1, ⟨hk.1.2.2.2.2.2.2.1, ⟨hk.1.2.2.2.2.2.2.2, hk.2⟩⟩⟩⟩⟩⟩⟩⟩)), (by (with_reducible repeat (first | refine bN ?_ _ | refine bD ?_ | refine bA ?_ _)); exact BK352.out), (by (with_reducible repeat (first | refine bN ?_ _ | refine bD ?_ | refine bA ?_ _)); exact BK367.out), (by (with_reducible repeat (first | refine bN ?_ _ | refine bD ?_ | refine bA ?_ _)); exact BK375.out), GW375.out, GE375.out, NB352_375.out, NB375_352.out, NB367_375.out, NB375_367.out, (by repeat (first | (with_reducible first | exact HB.out | apply wA | apply wN | apply wD | refine below_set ?_ GE352.out | refine below_set ?_ GE367.out | refine below_set ?_ GE375.out) | exact HB.out))⟩)
          ·skip
           refine box_step ?hg (N := 11) ?hd (cs := #[.slice none 0 0]) (t := 24) ?hr ?_; (case hd => rfl); (case hg => rfl); (case hr => first | (go_simp; done) | (go_simp; rfl))
           intro gb375 hg w44 hbox hb
           have n0_ := aM (Kd.N_below (Kd.N_elderB (by (with_reducible repeat (first | apply Kd.N_alloc | apply Kd.N_drewN | apply Kd.N_drew)); exact HO350.out) gb375 (Nat.le_of_eq hg.symm)) hb)
           have n1_ := aM (Kd.R_below (by (with_reducible repeat (first | apply Kd.R_alloc | apply Kd.R_drewN | apply Kd.R_drew)); exact HO355.out) hb)
           have n2_ := aM (Kd.N_below (Kd.N_elderB (by (with_reducible repeat (first | apply Kd.N_alloc | apply Kd.N_drewN | apply Kd.N_drew)); exact HO358.out) gb375 (Nat.le_of_eq hg.symm)) hb)
           have n3_ := aM (Kd.R_below (by (with_reducible repeat (first | apply Kd.R_alloc | apply Kd.R_drewN | apply Kd.R_drew)); exact HO362.out) hb)
           have n4_ := aM (Kd.N_below (Kd.N_elderB (by (with_reducible repeat (first | apply Kd.N_alloc | apply Kd.N_drewN | apply Kd.N_drew)); exact HO365.out) gb375 (Nat.le_of_eq hg.symm)) hb)
           have n5_ := aM (Kd.R_below (by (with_reducible repeat (first | apply Kd.R_alloc | apply Kd.R_drewN | apply Kd.R_drew)); exact HO370.out) hb)
           have n6_ := aM (blk_below (g := gb352) (o := .cells #[.slice Ao28 t356.length co28] 24 (0, 0)) (by (with_reducible repeat (first | refine bN ?_ _ | refine bD ?_ | refine bA ?_ _)); exact BK352.out) hb)
           have n7_ := aM (blk_below (g := gb367) (o := .cells #[.slice Ao38 t363.length co38] 24 (0, 0)) (by (with_reducible repeat (first | refine bN ?_ _ | refine bD ?_ | refine bA ?_ _)); exact BK367.out) hb)
           have n8_ := aM (below_step (by repeat (first | (with_reducible first | exact HB.out | apply wA | apply wN | apply wD | refine below_set ?_ GE352.out | refine below_set ?_ GE367.out) | exact HB.out)) hb)
           have n9_ := aM (hbox)
           have n10_ := aM ((by rw [hg]; exact (below_size (by repeat (first | (with_reducible first | exact HB.out | apply wA | apply wN | apply wD | refine below_set ?_ GE352.out | refine below_set ?_ GE367.out) | exact HB.out))) : w.heap.size ≤ gb375))
           have n11_ := aM ((by rw [hg]; exact (below_size (by repeat (first | (with_reducible first | exact HB.out | apply wA | apply wN | apply wD | refine below_set ?_ GE352.out | refine below_set ?_ GE367.out) | exact HB.out))) : w.heap.size ≤ gb375))
           have n12_ := aM ((by rw [hg]; exact Nat.ne_of_lt (blk_lt (g := gb352) (o := .cells #[.slice Ao28 t356.length co28] 24 (0, 0)) (by (with_reducible repeat (first | refine bN ?_ _ | refine bD ?_ | refine bA ?_ _)); exact BK352.out)) : gb352 ≠ gb375))
           have n13_ := aM ((by rw [hg]; exact Nat.ne_of_gt (blk_lt (g := gb352) (o := .cells #[.slice Ao28 t356.length co28] 24 (0, 0)) (by (with_reducible repeat (first | refine bN ?_ _ | refine bD ?_ | refine bA ?_ _)); exact BK352.out)) : gb375 ≠ gb352))
           have n14_ := aM ((by rw [hg]; exact Nat.ne_of_lt (blk_lt (g := gb367) (o := .cells #[.slice Ao38 t363.length co38] 24 (0, 0)) (by (with_reducible repeat (first | refine bN ?_ _ | refine bD ?_ | refine bA ?_ _)); exact BK367.out)) : gb367 ≠ gb375))
           have n15_ := aM ((by rw [hg]; exact Nat.ne_of_gt (blk_lt (g := gb367) (o := .cells #[.slice Ao38 t363.length co38] 24 (0, 0)) (by (with_reducible repeat (first | refine bN ?_ _ | refine bD ?_ | refine bA ?_ _)); exact BK367.out)) : gb375 ≠ gb367))
           clear HO350
           clear HO355
           clear HO358
           clear HO362
           clear HO365
           clear HO370
           clear BK352
           clear BK367
           clear HB
           have HO350 := n0_
           have HO355 := n1_
           have HO358 := n2_
           have HO362 := n3_
           have HO365 := n4_
           have HO370 := n5_
           have BK352 := n6_
           have BK367 := n7_
           have HB := n8_
           have BK375 := n9_
           have GW375 := n10_
           have GE375 := n11_
           have NB352_375 := n12_
           have NB375_352 := n13_
           have NB367_375 := n14_
           have NB375_367 := n15_
           clear n0_ n1_ n2_ n3_ n4_ n5_ n6_ n7_ n8_ n9_ n10_ n11_ n12_ n13_ n14_ n15_
           clear hb hbox hg
           obtain ⟨Ao45, co45, eo45⟩ := Kd.R_slice HO370.out
           (first | subst eo45 | (injection eo45 with f1_ f2_ f3_; have f4_ := f1_.symm; have f5_ := f3_.symm; clear f1_ f2_ f3_; subst f4_; subst f5_))
           refine hK.out _ _ ((blk_cell BK352.out 0).trans rfl) (fun hHeld => ?_)
           clear hK K
           refine norm_ (a' := ?_) ?_ ?_
           rotate_left
           ·show Act.put _ (some 11) _ = _
            simp only [Act.put, List.setIfInBounds_toArray, List.set_cons_zero, List.set_cons_succ, i64_w, i32_w]
            rfl
           refine one_ (i := 5) (N := some 42) #[true, true, true, true, true, true, false, false, false, true, false, false] rfl rfl (one_of HT_.out (by kernel_rfl)) (by decide) (fun K hK => ?_)
           refine goes_ Try.func20 (by kernel_rfl) rfl #[.agg #[.slice Ao28 t356.length co28], .int .i64 0, .slice Ao45 y368.length co45] (by rfl) rfl rfl (by (try simp only [List.map_toArray, List.map_cons, List.map_nil]); first | done | rfl | (simp only [List.length_drop, List.length_take]; rfl)) ?_
           with_reducible refine (disk_Replace.calls k _ _ t356 0 _ _ y368 t371 t374 _ ?side1 ?side2 ?side3 ?side4 A16.out).mono ?_
           (case side1 => repeat (first | exact (Kd.N_reads' HO358.out).2.2 | (with_reducible refine Kd.C_alloc ?_ _) | (with_reducible refine Kd.C_drewN ?_ _) | (with_reducible refine Kd.C_drew ?_)))
           (case side2 => exact (Kd.N_reads' HO358.out).2.1)
           (case side3 => repeat (first | exact (Kd.R_reads' HO370.out).2.2 | (with_reducible refine Kd.C_alloc ?_ _) | (with_reducible refine Kd.C_drewN ?_ _) | (with_reducible refine Kd.C_drew ?_)))
           (case side4 => exact (Kd.R_reads' HO370.out).2.1)
           rintro e w46 ⟨v372, rfl, ho0, hb⟩
           refine ⟨_, rfl, ?_⟩
           have n0_ := aM (Kd.N_elder' (by (with_reducible repeat (first | apply Kd.N_alloc | apply Kd.N_drewN | apply Kd.N_drew)); exact HO350.out) (by first | exact Kd.N_base ho0 | exact Kd.N_base (Kd.S_N ho0)) hb)
           have n1_ := aM (Kd.R_below (by (with_reducible repeat (first | apply Kd.R_alloc | apply Kd.R_drewN | apply Kd.R_drew)); exact HO355.out) hb)
           have n2_ := aM (Kd.N_elder' (by (with_reducible repeat (first | apply Kd.N_alloc | apply Kd.N_drewN | apply Kd.N_drew)); exact HO358.out) (by first | exact Kd.N_base ho0 | exact Kd.N_base (Kd.S_N ho0)) hb)
           have n3_ := aM (Kd.R_below (by (with_reducible repeat (first | apply Kd.R_alloc | apply Kd.R_drewN | apply Kd.R_drew)); exact HO362.out) hb)
           have n4_ := aM (Kd.N_elder' (by (with_reducible repeat (first | apply Kd.N_alloc | apply Kd.N_drewN | apply Kd.N_drew)); exact HO365.out) (by first | exact Kd.N_base ho0 | exact Kd.N_base (Kd.S_N ho0)) hb)
           have n5_ := aM (Kd.R_below (by (with_reducible repeat (first | apply Kd.R_alloc | apply Kd.R_drewN | apply Kd.R_drew)); exact HO370.out) hb)
           have n6_ := aM (Kd.N_lower (Kd.N_mono (ok' := fun k_ => some k_ ≠ (.slice Ao21 t348.length co21 : Value).ownBlock ∧ some k_ ≠ (.slice Ao26 y353.length co26 : Value).ownBlock ∧ some k_ ≠ (.slice Ao28 t356.length co28 : Value).ownBlock ∧ some k_ ≠ (v361 : Value).ownBlock ∧ some k_ ≠ (.slice Ao38 t363.length co38 : Value).ownBlock ∧ some k_ ≠ (.slice Ao45 y368.length co45 : Value).ownBlock ∧ k_ ≠ gb352 ∧ k_ ≠ gb367 ∧ k_ ≠ gb375) ho0 (fun k_ hk_ => ⟨(Kd.fresh' (Kd.N_lt (by (with_reducible repeat (first | apply Kd.N_alloc | apply Kd.N_drewN | apply Kd.N_drew)); exact HO350.out)) k_ hk_), (Kd.fresh' (Kd.R_lt (by (with_reducible repeat (first | apply Kd.R_alloc | apply Kd.R_drewN | apply Kd.R_drew)); exact HO355.out)) k_ hk_), (Kd.fresh' (Kd.N_lt (by (with_reducible repeat (first | apply Kd.N_alloc | apply Kd.N_drewN | apply Kd.N_drew)); exact HO358.out)) k_ hk_), (Kd.fresh' (Kd.R_lt (by (with_reducible repeat (first | apply Kd.R_alloc | apply Kd.R_drewN | apply Kd.R_drew)); exact HO362.out)) k_ hk_), (Kd.fresh' (Kd.N_lt (by (with_reducible repeat (first | apply Kd.N_alloc | apply Kd.N_drewN | apply Kd.N_drew)); exact HO365.out)) k_ hk_), (Kd.fresh' (Kd.R_lt (by (with_reducible repeat (first | apply Kd.R_alloc | apply Kd.R_drewN | apply Kd.R_drew)); exact HO370.out)) k_ hk_), (Kd.freshB (g := gb352) (o := .cells #[.slice Ao28 t356.length co28] 24 (0, 0)) (by (with_reducible repeat (first | refine bN ?_ _ | refine bD ?_ | refine bA ?_ _)); exact BK352.out) k_ hk_), (Kd.freshB (g := gb367) (o := .cells #[.slice Ao38 t363.length co38] 24 (0, 0)) (by (with_reducible repeat (first | refine bN ?_ _ | refine bD ?_ | refine bA ?_ _)); exact BK367.out) k_ hk_), (Kd.freshB (g := gb375) (o := .cells #[.slice none 0 0] 24 (0, 0)) (by (with_reducible repeat (first | refine bN ?_ _ | refine bD ?_ | refine bA ?_ _)); exact BK375.out) k_ hk_)⟩)) (below_size (by repeat (first | (with_reducible first | exact HB.out | apply wA | apply wN | apply wD | refine below_set ?_ GE352.out | refine below_set ?_ GE367.out | refine below_set ?_ GE375.out) | exact HB.out))))
           have n7_ := aM (blk_below (g := gb352) (o := .cells #[.slice Ao28 t356.length co28] 24 (0, 0)) (by (with_reducible repeat (first | refine bN ?_ _ | refine bD ?_ | refine bA ?_ _)); exact BK352.out) hb)
           have n8_ := aM (blk_below (g := gb367) (o := .cells #[.slice Ao38 t363.length co38] 24 (0, 0)) (by (with_reducible repeat (first | refine bN ?_ _ | refine bD ?_ | refine bA ?_ _)); exact BK367.out) hb)
           have n9_ := aM (blk_below (g := gb375) (o := .cells #[.slice none 0 0] 24 (0, 0)) (by (with_reducible repeat (first | refine bN ?_ _ | refine bD ?_ | refine bA ?_ _)); exact BK375.out) hb)
           have n10_ := aM (below_step (by repeat (first | (with_reducible first | exact HB.out | apply wA | apply wN | apply wD | refine below_set ?_ GE352.out | refine below_set ?_ GE367.out | refine below_set ?_ GE375.out) | exact HB.out)) hb)
           clear HO350
           clear HO355
           clear HO358
           clear HO362
           clear HO365
           clear HO370
           clear BK352
           clear BK367
           clear BK375
           clear HB
           have HO350 := n0_
           have HO355 := n1_
           have HO358 := n2_
           have HO362 := n3_
           have HO365 := n4_
           have HO370 := n5_
           have HO373 := n6_
           have BK352 := n7_
           have BK367 := n8_
           have BK375 := n9_
           have HB := n10_
           clear n0_ n1_ n2_ n3_ n4_ n5_ n6_ n7_ n8_ n9_ n10_
           (try clear hb)
           (try clear hb2)
           (try clear hk)
           (try clear hi)
           (try clear ho0)
           refine hK.out _ _ ((blk_cell BK352.out 0).trans rfl) (fun hHeld => ?_)
           clear hK K
           refine norm_ (a' := ?_) ?_ ?_
           rotate_left
           ·show Act.put _ (some 42) _ = _
            simp only [Act.put, List.setIfInBounds_toArray, List.set_cons_zero, List.set_cons_succ, i64_w, i32_w]
            rfl
           refine pure_ (i := 6) (N := some 36) (v := ?_) (a' := ?_) #[true, true, true, true, true, true, true, false, false, true, false, false] rfl rfl (any_of HT_.out (by kernel_rfl)) (fun _ _ _ h => h) (Or.inl ⟨by rfl, ?_⟩) ?_ ?_
           rotate_left
           ·intro w'
            go_simp
            with_reducible rfl
           rotate_left
           ·simp only [Act.put, List.setIfInBounds_toArray, List.set_cons_zero, List.set_cons_succ, i64_w, i32_w]
            rfl
           refine pure_ (i := 7) (N := some 43) (v := ?_) (a' := ?_) #[true, true, true, true, true, true, true, true, false, true, false, false] rfl rfl (any_of HT_.out (by kernel_rfl)) (fun _ _ _ h => h) (Or.inl ⟨by rfl, ?_⟩) ?_ ?_
           rotate_left
           ·intro w'
            go_simp
            with_reducible rfl
           rotate_left
           ·simp only [Act.put, List.setIfInBounds_toArray, List.set_cons_zero, List.set_cons_succ, i64_w, i32_w]
            rfl
           refine pure_ (i := 8) (N := some 44) (v := ?_) (a' := ?_) #[true, true, true, true, true, true, true, true, true, true, false, false] rfl rfl (any_of HT_.out (by kernel_rfl)) (fun _ _ _ h => h) (Or.inl ⟨by rfl, ?_⟩) ?_ ?_
           rotate_left
           ·intro w'
            go_simp
            with_reducible rfl
           rotate_left
           ·simp only [Act.put, List.setIfInBounds_toArray, List.set_cons_zero, List.set_cons_succ, i64_w, i32_w]
            rfl
           exact norm_ (by simp only [putAll, Act.put, List.setIfInBounds_toArray, List.set_cons_zero, List.set_cons_succ]) (hCont (.slice Ao45 y368.length co45, v372, gb375) _ ⟨hHeld, (by (with_reducible repeat (first | apply Kd.N_alloc | apply Kd.N_drewN | apply Kd.N_drew)); exact Kd.N_mono HO350.out (fun _ hk => ⟨hk.1.1.1.1, ⟨hk.1.1.1.2.1, ⟨hk.1.1.1.2.2.1, ⟨hk.1.1.1.2.2.2.1, ⟨hk.1.1.2, ⟨hk.2, ⟨hk.1.1.1.2.2.2.2.1, ⟨hk.1.1.1.2.2.2.2.2, hk.1.2⟩⟩⟩⟩⟩⟩⟩⟩)), (by (with_reducible repeat (first | apply Kd.R_alloc | apply Kd.R_drewN | apply Kd.R_drew)); exact HO355.out), (by (with_reducible repeat (first | apply Kd.N_alloc | apply Kd.N_drewN | apply Kd.N_drew)); exact Kd.N_mono HO358.out (fun _ hk => ⟨hk.1.1.1.1, ⟨hk.1.1.1.2.1, ⟨hk.1.1.1.2.2.1, ⟨hk.1.1.1.2.2.2.1, ⟨hk.1.1.2, ⟨hk.2, ⟨hk.1.1.1.2.2.2.2.1, ⟨hk.1.1.1.2.2.2.2.2, hk.1.2⟩⟩⟩⟩⟩⟩⟩⟩)), (by (with_reducible repeat (first | apply Kd.R_alloc | apply Kd.R_drewN | apply Kd.R_drew)); exact HO362.out), (by (with_reducible repeat (first | apply Kd.N_alloc | apply Kd.N_drewN | apply Kd.N_drew)); exact Kd.N_mono HO365.out (fun _ hk => ⟨hk.1.1.1.1, ⟨hk.1.1.1.2.1, ⟨hk.1.1.1.2.2.1, ⟨hk.1.1.1.2.2.2.1, ⟨hk.1.1.2, ⟨hk.2, ⟨hk.1.1.1.2.2.2.2.1, ⟨hk.1.1.1.2.2.2.2.2, hk.1.2⟩⟩⟩⟩⟩⟩⟩⟩)), (by (with_reducible repeat (first | apply Kd.R_alloc | apply Kd.R_drewN | apply Kd.R_drew)); exact Kd.R_mono HO370.out (fun _ hk => ⟨hk.1.2, hk.2⟩)), (by (with_reducible repeat (first | apply Kd.N_alloc | apply Kd.N_drewN | apply Kd.N_drew)); exact HO373.out), (by (with_reducible repeat (first | refine bN ?_ _ | refine bD ?_ | refine bA ?_ _)); exact BK352.out), (by (with_reducible repeat (first | refine bN ?_ _ | refine bD ?_ | refine bA ?_ _)); exact BK367.out), (by (with_reducible repeat (first | refine bN ?_ _ | refine bD ?_ | refine bA ?_ _)); exact BK375.out), GW375.out, GE375.out, NB352_375.out, NB375_352.out, NB367_375.out, NB375_367.out, (by repeat (first | (with_reducible first | exact HB.out | apply wA | apply wN | apply wD | refine below_set ?_ GE352.out | refine below_set ?_ GE367.out | refine below_set ?_ GE375.out) | exact HB.out))⟩)
         ·skip
          refine box_step ?hg (N := 11) ?hd (cs := #[.slice none 0 0]) (t := 24) ?hr ?_; (case hd => rfl); (case hg => rfl); (case hr => first | (go_simp; done) | (go_simp; rfl))
          intro gb375 hg w42 hbox hb
          have n0_ := aM (Kd.N_below (Kd.N_elderB (by (with_reducible repeat (first | apply Kd.N_alloc | apply Kd.N_drewN | apply Kd.N_drew)); exact HO350.out) gb375 (Nat.le_of_eq hg.symm)) hb)
          have n1_ := aM (Kd.R_below (by (with_reducible repeat (first | apply Kd.R_alloc | apply Kd.R_drewN | apply Kd.R_drew)); exact HO355.out) hb)
          have n2_ := aM (Kd.N_below (Kd.N_elderB (by (with_reducible repeat (first | apply Kd.N_alloc | apply Kd.N_drewN | apply Kd.N_drew)); exact HO358.out) gb375 (Nat.le_of_eq hg.symm)) hb)
          have n3_ := aM (Kd.R_below (by (with_reducible repeat (first | apply Kd.R_alloc | apply Kd.R_drewN | apply Kd.R_drew)); exact HO362.out) hb)
          have n4_ := aM (Kd.N_below (Kd.N_elderB (by (with_reducible repeat (first | apply Kd.N_alloc | apply Kd.N_drewN | apply Kd.N_drew)); exact HO365.out) gb375 (Nat.le_of_eq hg.symm)) hb)
          have n5_ := aM (blk_below (g := gb352) (o := .cells #[.slice Ao28 t356.length co28] 24 (0, 0)) (by (with_reducible repeat (first | refine bN ?_ _ | refine bD ?_ | refine bA ?_ _)); exact BK352.out) hb)
          have n6_ := aM (blk_below (g := gb367) (o := .cells #[.slice Ao38 t363.length co38] 24 (0, 0)) (by (with_reducible repeat (first | refine bN ?_ _ | refine bD ?_ | refine bA ?_ _)); exact BK367.out) hb)
          have n7_ := aM (below_step (by repeat (first | (with_reducible first | exact HB.out | apply wA | apply wN | apply wD | refine below_set ?_ GE352.out | refine below_set ?_ GE367.out) | exact HB.out)) hb)
          have n8_ := aM (hbox)
          have n9_ := aM ((by rw [hg]; exact (below_size (by repeat (first | (with_reducible first | exact HB.out | apply wA | apply wN | apply wD | refine below_set ?_ GE352.out | refine below_set ?_ GE367.out) | exact HB.out))) : w.heap.size ≤ gb375))
          have n10_ := aM ((by rw [hg]; exact (below_size (by repeat (first | (with_reducible first | exact HB.out | apply wA | apply wN | apply wD | refine below_set ?_ GE352.out | refine below_set ?_ GE367.out) | exact HB.out))) : w.heap.size ≤ gb375))
          have n11_ := aM ((by rw [hg]; exact Nat.ne_of_lt (blk_lt (g := gb352) (o := .cells #[.slice Ao28 t356.length co28] 24 (0, 0)) (by (with_reducible repeat (first | refine bN ?_ _ | refine bD ?_ | refine bA ?_ _)); exact BK352.out)) : gb352 ≠ gb375))
          have n12_ := aM ((by rw [hg]; exact Nat.ne_of_gt (blk_lt (g := gb352) (o := .cells #[.slice Ao28 t356.length co28] 24 (0, 0)) (by (with_reducible repeat (first | refine bN ?_ _ | refine bD ?_ | refine bA ?_ _)); exact BK352.out)) : gb375 ≠ gb352))
          have n13_ := aM ((by rw [hg]; exact Nat.ne_of_lt (blk_lt (g := gb367) (o := .cells #[.slice Ao38 t363.length co38] 24 (0, 0)) (by (with_reducible repeat (first | refine bN ?_ _ | refine bD ?_ | refine bA ?_ _)); exact BK367.out)) : gb367 ≠ gb375))
          have n14_ := aM ((by rw [hg]; exact Nat.ne_of_gt (blk_lt (g := gb367) (o := .cells #[.slice Ao38 t363.length co38] 24 (0, 0)) (by (with_reducible repeat (first | refine bN ?_ _ | refine bD ?_ | refine bA ?_ _)); exact BK367.out)) : gb375 ≠ gb367))
          clear HO350
          clear HO355
          clear HO358
          clear HO362
          clear HO365
          clear BK352
          clear BK367
          clear HB
          have HO350 := n0_
          have HO355 := n1_
          have HO358 := n2_
          have HO362 := n3_
          have HO365 := n4_
          have BK352 := n5_
          have BK367 := n6_
          have HB := n7_
          have BK375 := n8_
          have GW375 := n9_
          have GE375 := n10_
          have NB352_375 := n11_
          have NB375_352 := n12_
          have NB367_375 := n13_
          have NB375_367 := n14_
          clear n0_ n1_ n2_ n3_ n4_ n5_ n6_ n7_ n8_ n9_ n10_ n11_ n12_ n13_ n14_
          clear hb hbox hg
          refine hK.out _ _ ((blk_cell BK352.out 0).trans rfl) (fun hHeld => ?_)
          clear hK K
          refine norm_ (a' := ?_) ?_ ?_
          rotate_left
          ·show Act.put _ (some 11) _ = _
           simp only [Act.put, List.setIfInBounds_toArray, List.set_cons_zero, List.set_cons_succ, i64_w, i32_w]
           rfl
          refine one_ (i := 4) (N := some 41) #[true, true, true, true, true, false, false, false, false, true, false, false] rfl rfl (one_of HT_.out (by kernel_rfl)) (by decide) (fun K hK => ?_)
          refine Kd.R_make_step (Kd.int .u8) _ 5 (by rfl) (N := 41) rfl 30 _ _ rfl ji13 rfl rfl Try.underlying30 (.int .u8 0) 1 info5 rfl (by decide) (by omega) 0 (ok := fun _ => True) (okp := fun _ => True) rfl (fun _ hk => hk) trivial (of_decide_eq_true (by first | (with_reducible assumption) | assumption)) (Nat.le_trans (Nat.mul_le_mul_right _ (of_decide_eq_true (by first | (with_reducible assumption) | assumption) : ji13.toNat ≤ 281474976710656)) (by omega)) (Below.refl _ _) (Nat.le_refl _) ?_
          intro v369 w43 ho44 hb hg_ hnew_
          clear hg_ hnew_
          (first | rw [← Ny368.out] at ho44 | (simp only [Int.reduceToNat] at ho44; rw [← Ny368.out] at ho44))
          have n0_ := aM (Kd.N_elder' (by (with_reducible repeat (first | apply Kd.N_alloc | apply Kd.N_drewN | apply Kd.N_drew)); exact HO350.out) (Kd.R_base ho44) hb)
          have n1_ := aM (Kd.R_elder' (by (with_reducible repeat (first | apply Kd.R_alloc | apply Kd.R_drewN | apply Kd.R_drew)); exact HO355.out) (Kd.R_base ho44) hb)
          have n2_ := aM (Kd.N_elder' (by (with_reducible repeat (first | apply Kd.N_alloc | apply Kd.N_drewN | apply Kd.N_drew)); exact HO358.out) (Kd.R_base ho44) hb)
          have n3_ := aM (Kd.R_elder' (by (with_reducible repeat (first | apply Kd.R_alloc | apply Kd.R_drewN | apply Kd.R_drew)); exact HO362.out) (Kd.R_base ho44) hb)
          have n4_ := aM (Kd.N_elder' (by (with_reducible repeat (first | apply Kd.N_alloc | apply Kd.N_drewN | apply Kd.N_drew)); exact HO365.out) (Kd.R_base ho44) hb)
          have n5_ := aM (Kd.R_lower (Kd.R_new' (Kd.R_new' ho44 (Kd.R_lt (by (with_reducible repeat (first | apply Kd.R_alloc | apply Kd.R_drewN | apply Kd.R_drew)); exact HO355.out))) (Kd.R_lt (by (with_reducible repeat (first | apply Kd.R_alloc | apply Kd.R_drewN | apply Kd.R_drew)); exact HO362.out))) (below_size (by repeat (first | (with_reducible first | exact HB.out | apply wA | apply wN | apply wD | refine below_set ?_ GE352.out | refine below_set ?_ GE367.out | refine below_set ?_ GE375.out) | exact HB.out))))
          have n6_ := aM (blk_below (g := gb352) (o := .cells #[.slice Ao28 t356.length co28] 24 (0, 0)) (by (with_reducible repeat (first | refine bN ?_ _ | refine bD ?_ | refine bA ?_ _)); exact BK352.out) hb)
          have n7_ := aM (blk_below (g := gb367) (o := .cells #[.slice Ao38 t363.length co38] 24 (0, 0)) (by (with_reducible repeat (first | refine bN ?_ _ | refine bD ?_ | refine bA ?_ _)); exact BK367.out) hb)
          have n8_ := aM (blk_below (g := gb375) (o := .cells #[.slice none 0 0] 24 (0, 0)) (by (with_reducible repeat (first | refine bN ?_ _ | refine bD ?_ | refine bA ?_ _)); exact BK375.out) hb)
          have n9_ := aM (below_step (by repeat (first | (with_reducible first | exact HB.out | apply wA | apply wN | apply wD | refine below_set ?_ GE352.out | refine below_set ?_ GE367.out | refine below_set ?_ GE375.out) | exact HB.out)) hb)
          clear HO350
          clear HO355
          clear HO358
          clear HO362
          clear HO365
          clear BK352
          clear BK367
          clear BK375
          clear HB
          have HO350 := n0_
          have HO355 := n1_
          have HO358 := n2_
          have HO362 := n3_
          have HO365 := n4_
          have HO370 := n5_
          have BK352 := n6_
          have BK367 := n7_
          have BK375 := n8_
          have HB := n9_
          clear n0_ n1_ n2_ n3_ n4_ n5_ n6_ n7_ n8_ n9_
          clear hb ho44
          obtain ⟨Ao45, co45, eo45⟩ := Kd.R_slice HO370.out
          (first | subst eo45 | (injection eo45 with f1_ f2_ f3_; have f4_ := f1_.symm; have f5_ := f3_.symm; clear f1_ f2_ f3_; subst f4_; subst f5_))
          refine hK.out _ _ ((blk_cell BK352.out 0).trans rfl) (fun hHeld => ?_)
          clear hK K
          refine norm_ (a' := ?_) ?_ ?_
          rotate_left
          ·show Act.put _ (some 41) _ = _
           simp only [Act.put, List.setIfInBounds_toArray, List.set_cons_zero, List.set_cons_succ, i64_w, i32_w]
           rfl
          refine one_ (i := 5) (N := some 42) #[true, true, true, true, true, true, false, false, false, true, false, false] rfl rfl (one_of HT_.out (by kernel_rfl)) (by decide) (fun K hK => ?_)
          refine goes_ Try.func20 (by kernel_rfl) rfl #[.agg #[.slice Ao28 t356.length co28], .int .i64 0, .slice Ao45 y368.length co45] (by rfl) rfl rfl (by (try simp only [List.map_toArray, List.map_cons, List.map_nil]); first | done | rfl | (simp only [List.length_drop, List.length_take]; rfl)) ?_
          with_reducible refine (disk_Replace.calls k _ _ t356 0 _ _ y368 t371 t374 _ ?side1 ?side2 ?side3 ?side4 A16.out).mono ?_
          (case side1 => repeat (first | exact (Kd.N_reads' HO358.out).2.2 | (with_reducible refine Kd.C_alloc ?_ _) | (with_reducible refine Kd.C_drewN ?_ _) | (with_reducible refine Kd.C_drew ?_)))
          (case side2 => exact (Kd.N_reads' HO358.out).2.1)
          (case side3 => repeat (first | exact (Kd.R_reads' HO370.out).2.2 | (with_reducible refine Kd.C_alloc ?_ _) | (with_reducible refine Kd.C_drewN ?_ _) | (with_reducible refine Kd.C_drew ?_)))
          (case side4 => exact (Kd.R_reads' HO370.out).2.1)
          rintro e w46 ⟨v372, rfl, ho0, hb⟩
          refine ⟨_, rfl, ?_⟩
          have n0_ := aM (Kd.N_elder' (by (with_reducible repeat (first | apply Kd.N_alloc | apply Kd.N_drewN | apply Kd.N_drew)); exact HO350.out) (by first | exact Kd.N_base ho0 | exact Kd.N_base (Kd.S_N ho0)) hb)
          have n1_ := aM (Kd.R_below (by (with_reducible repeat (first | apply Kd.R_alloc | apply Kd.R_drewN | apply Kd.R_drew)); exact HO355.out) hb)
          have n2_ := aM (Kd.N_elder' (by (with_reducible repeat (first | apply Kd.N_alloc | apply Kd.N_drewN | apply Kd.N_drew)); exact HO358.out) (by first | exact Kd.N_base ho0 | exact Kd.N_base (Kd.S_N ho0)) hb)
          have n3_ := aM (Kd.R_below (by (with_reducible repeat (first | apply Kd.R_alloc | apply Kd.R_drewN | apply Kd.R_drew)); exact HO362.out) hb)
          have n4_ := aM (Kd.N_elder' (by (with_reducible repeat (first | apply Kd.N_alloc | apply Kd.N_drewN | apply Kd.N_drew)); exact HO365.out) (by first | exact Kd.N_base ho0 | exact Kd.N_base (Kd.S_N ho0)) hb)
          have n5_ := aM (Kd.R_below (by (with_reducible repeat (first | apply Kd.R_alloc | apply Kd.R_drewN | apply Kd.R_drew)); exact HO370.out) hb)
          have n6_ := aM (Kd.N_lower (Kd.N_mono (ok' := fun k_ => some k_ ≠ (.slice Ao21 t348.length co21 : Value).ownBlock ∧ some k_ ≠ (.slice Ao26 y353.length co26 : Value).ownBlock ∧ some k_ ≠ (.slice Ao28 t356.length co28 : Value).ownBlock ∧ some k_ ≠ (v361 : Value).ownBlock ∧ some k_ ≠ (.slice Ao38 t363.length co38 : Value).ownBlock ∧ some k_ ≠ (.slice Ao45 y368.length co45 : Value).ownBlock ∧ k_ ≠ gb352 ∧ k_ ≠ gb367 ∧ k_ ≠ gb375) ho0 (fun k_ hk_ => ⟨(Kd.fresh' (Kd.N_lt (by (with_reducible repeat (first | apply Kd.N_alloc | apply Kd.N_drewN | apply Kd.N_drew)); exact HO350.out)) k_ hk_), (Kd.fresh' (Kd.R_lt (by (with_reducible repeat (first | apply Kd.R_alloc | apply Kd.R_drewN | apply Kd.R_drew)); exact HO355.out)) k_ hk_), (Kd.fresh' (Kd.N_lt (by (with_reducible repeat (first | apply Kd.N_alloc | apply Kd.N_drewN | apply Kd.N_drew)); exact HO358.out)) k_ hk_), (Kd.fresh' (Kd.R_lt (by (with_reducible repeat (first | apply Kd.R_alloc | apply Kd.R_drewN | apply Kd.R_drew)); exact HO362.out)) k_ hk_), (Kd.fresh' (Kd.N_lt (by (with_reducible repeat (first | apply Kd.N_alloc | apply Kd.N_drewN | apply Kd.N_drew)); exact HO365.out)) k_ hk_), (Kd.fresh' (Kd.R_lt (by (with_reducible repeat (first | apply Kd.R_alloc | apply Kd.R_drewN | apply Kd.R_drew)); exact HO370.out)) k_ hk_), (Kd.freshB (g := gb352) (o := .cells #[.slice Ao28 t356.length co28] 24 (0, 0)) (by (with_reducible repeat (first | refine bN ?_ _ | refine bD ?_ | refine bA ?_ _)); exact BK352.out) k_ hk_), (Kd.freshB (g := gb367) (o := .cells #[.slice Ao38 t363.length co38] 24 (0, 0)) (by (with_reducible repeat (first | refine bN ?_ _ | refine bD ?_ | refine bA ?_ _)); exact BK367.out) k_ hk_), (Kd.freshB (g := gb375) (o := .cells #[.slice none 0 0] 24 (0, 0)) (by (with_reducible repeat (first | refine bN ?_ _ | refine bD ?_ | refine bA ?_ _)); exact BK375.out) k_ hk_)⟩)) (below_size (by repeat (first | (with_reducible first | exact HB.out | apply wA | apply wN | apply wD | refine below_set ?_ GE352.out | refine below_set ?_ GE367.out | refine below_set ?_ GE375.out) | exact HB.out))))
          have n7_ := aM (blk_below (g := gb352) (o := .cells #[.slice Ao28 t356.length co28] 24 (0, 0)) (by (with_reducible repeat (first | refine bN ?_ _ | refine bD ?_ | refine bA ?_ _)); exact BK352.out) hb)
          have n8_ := aM (blk_below (g := gb367) (o := .cells #[.slice Ao38 t363.length co38] 24 (0, 0)) (by (with_reducible repeat (first | refine bN ?_ _ | refine bD ?_ | refine bA ?_ _)); exact BK367.out) hb)
          have n9_ := aM (blk_below (g := gb375) (o := .cells #[.slice none 0 0] 24 (0, 0)) (by (with_reducible repeat (first | refine bN ?_ _ | refine bD ?_ | refine bA ?_ _)); exact BK375.out) hb)
          have n10_ := aM (below_step (by repeat (first | (with_reducible first | exact HB.out | apply wA | apply wN | apply wD | refine below_set ?_ GE352.out | refine below_set ?_ GE367.out | refine below_set ?_ GE375.out) | exact HB.out)) hb)
          clear HO350
          clear HO355
          clear HO358
          clear HO362
          clear HO365
          clear HO370
          clear BK352
          clear BK367
          clear BK375
          clear HB
          have HO350 := n0_
          have HO355 := n1_
          have HO358 := n2_
          have HO362 := n3_
          have HO365 := n4_
          have HO370 := n5_
          have HO373 := n6_
          have BK352 := n7_
          have BK367 := n8_
          have BK375 := n9_
          have HB := n10_
          clear n0_ n1_ n2_ n3_ n4_ n5_ n6_ n7_ n8_ n9_ n10_
          (try clear hb)
          (try clear hb2)
          (try clear hk)
          (try clear hi)
          (try clear ho0)
          refine hK.out _ _ ((blk_cell BK352.out 0).trans rfl) (fun hHeld => ?_)
          clear hK K
          refine norm_ (a' := ?_) ?_ ?_
          rotate_left
          ·show Act.put _ (some 42) _ = _
           simp only [Act.put, List.setIfInBounds_toArray, List.set_cons_zero, List.set_cons_succ, i64_w, i32_w]
           rfl
          refine pure_ (i := 6) (N := some 36) (v := ?_) (a' := ?_) #[true, true, true, true, true, true, true, false, false, true, false, false] rfl rfl (any_of HT_.out (by kernel_rfl)) (fun _ _ _ h => h) (Or.inl ⟨by rfl, ?_⟩) ?_ ?_
          rotate_left
          ·intro w'
           go_simp
           with_reducible rfl
          rotate_left
          ·simp only [Act.put, List.setIfInBounds_toArray, List.set_cons_zero, List.set_cons_succ, i64_w, i32_w]
           rfl
          refine pure_ (i := 7) (N := some 43) (v := ?_) (a' := ?_) #[true, true, true, true, true, true, true, true, false, true, false, false] rfl rfl (any_of HT_.out (by kernel_rfl)) (fun _ _ _ h => h) (Or.inl ⟨by rfl, ?_⟩) ?_ ?_
          rotate_left
          ·intro w'
           go_simp
           with_reducible rfl
          rotate_left
          ·simp only [Act.put, List.setIfInBounds_toArray, List.set_cons_zero, List.set_cons_succ, i64_w, i32_w]
           rfl
          refine pure_ (i := 8) (N := some 44) (v := ?_) (a' := ?_) #[true, true, true, true, true, true, true, true, true, true, false, false] rfl rfl (any_of HT_.out (by kernel_rfl)) (fun _ _ _ h => h) (Or.inl ⟨by rfl, ?_⟩) ?_ ?_
          rotate_left
          ·intro w'
           go_simp
           with_reducible rfl
          rotate_left
          ·simp only [Act.put, List.setIfInBounds_toArray, List.set_cons_zero, List.set_cons_succ, i64_w, i32_w]
           rfl
          exact norm_ (by simp only [putAll, Act.put, List.setIfInBounds_toArray, List.set_cons_zero, List.set_cons_succ]) (hCont (.slice Ao45 y368.length co45, v372, gb375) _ ⟨hHeld, (by (with_reducible repeat (first | apply Kd.N_alloc | apply Kd.N_drewN | apply Kd.N_drew)); exact Kd.N_mono HO350.out (fun _ hk => ⟨hk.1.1.1.1, ⟨hk.1.1.1.2.1, ⟨hk.1.1.1.2.2.1, ⟨hk.1.1.1.2.2.2.1, ⟨hk.1.2, ⟨hk.2, ⟨hk.1.1.1.2.2.2.2.1, ⟨hk.1.1.1.2.2.2.2.2, hk.1.1.2⟩⟩⟩⟩⟩⟩⟩⟩)), (by (with_reducible repeat (first | apply Kd.R_alloc | apply Kd.R_drewN | apply Kd.R_drew)); exact HO355.out), (by (with_reducible repeat (first | apply Kd.N_alloc | apply Kd.N_drewN | apply Kd.N_drew)); exact Kd.N_mono HO358.out (fun _ hk => ⟨hk.1.1.1.1, ⟨hk.1.1.1.2.1, ⟨hk.1.1.1.2.2.1, ⟨hk.1.1.1.2.2.2.1, ⟨hk.1.2, ⟨hk.2, ⟨hk.1.1.1.2.2.2.2.1, ⟨hk.1.1.1.2.2.2.2.2, hk.1.1.2⟩⟩⟩⟩⟩⟩⟩⟩)), (by (with_reducible repeat (first | apply Kd.R_alloc | apply Kd.R_drewN | apply Kd.R_drew)); exact HO362.out), (by (with_reducible repeat (first | apply Kd.N_alloc | apply Kd.N_drewN | apply Kd.N_drew)); exact Kd.N_mono HO365.out (fun _ hk => ⟨hk.1.1.1.1, ⟨hk.1.1.1.2.1, ⟨hk.1.1.1.2.2.1, ⟨hk.1.1.1.2.2.2.1, ⟨hk.1.2, ⟨hk.2, ⟨hk.1.1.1.2.2.2.2.1, ⟨hk.1.1.1.2.2.2.2.2, hk.1.1.2⟩⟩⟩⟩⟩⟩⟩⟩)), (by (with_reducible repeat (first | apply Kd.R_alloc | apply Kd.R_drewN | apply Kd.R_drew)); exact Kd.R_mono HO370.out (fun _ hk => ⟨hk.1.2, hk.2⟩)), (by (with_reducible repeat (first | apply Kd.N_alloc | apply Kd.N_drewN | apply Kd.N_drew)); exact HO373.out), (by (with_reducible repeat (first | refine bN ?_ _ | refine bD ?_ | refine bA ?_ _)); exact BK352.out), (by (with_reducible repeat (first | refine bN ?_ _ | refine bD ?_ | refine bA ?_ _)); exact BK367.out), (by (with_reducible repeat (first | refine bN ?_ _ | refine bD ?_ | refine bA ?_ _)); exact BK375.out), GW375.out, GE375.out, NB352_375.out, NB375_352.out, NB367_375.out, NB375_367.out, (by repeat (first | (with_reducible first | exact HB.out | apply wA | apply wN | apply wD | refine below_set ?_ GE352.out | refine below_set ?_ GE367.out | refine below_set ?_ GE375.out) | exact HB.out))⟩)
        rintro ⟨v369, v372, gb375⟩ w47 ⟨hS_, h0_, h1_, h2_, h3_, h4_, h5_, h6_, h7_, h8_, h9_, h10_, h11_, h12_, h13_, h14_, h15_, h16_⟩
        have n0_ : Aside0 (Kd.N k48 48 w47 w.heap.size (fun k_ => some k_ ≠ (.slice Ao26 y353.length co26 : Value).ownBlock ∧ some k_ ≠ (.slice Ao28 t356.length co28 : Value).ownBlock ∧ some k_ ≠ (v361 : Value).ownBlock ∧ some k_ ≠ (.slice Ao38 t363.length co38 : Value).ownBlock ∧ some k_ ≠ (v369 : Value).ownBlock ∧ some k_ ≠ (v372 : Value).ownBlock ∧ k_ ≠ gb352 ∧ k_ ≠ gb367 ∧ k_ ≠ gb375) (.slice Ao21 t348.length co21) t348) := ⟨h0_⟩
        have n1_ : Aside0 (Kd.R (Kd.int .u8) 5 w47 w.heap.size (fun k_ => some k_ ≠ (v361 : Value).ownBlock ∧ some k_ ≠ (v369 : Value).ownBlock) (.slice Ao26 y353.length co26) y353) := ⟨h1_⟩
        have n2_ : Aside0 (Kd.N k48 48 w47 w.heap.size (fun k_ => some k_ ≠ (.slice Ao21 t348.length co21 : Value).ownBlock ∧ some k_ ≠ (.slice Ao26 y353.length co26 : Value).ownBlock ∧ some k_ ≠ (v361 : Value).ownBlock ∧ some k_ ≠ (.slice Ao38 t363.length co38 : Value).ownBlock ∧ some k_ ≠ (v369 : Value).ownBlock ∧ some k_ ≠ (v372 : Value).ownBlock ∧ k_ ≠ gb352 ∧ k_ ≠ gb367 ∧ k_ ≠ gb375) (.slice Ao28 t356.length co28) t356) := ⟨h2_⟩
        have n3_ : Aside0 (Kd.R (Kd.int .u8) 5 w47 w.heap.size (fun k_ => some k_ ≠ (.slice Ao26 y353.length co26 : Value).ownBlock ∧ some k_ ≠ (v369 : Value).ownBlock) v361 y360) := ⟨h3_⟩
        have n4_ : Aside0 (Kd.N k48 48 w47 w.heap.size (fun k_ => some k_ ≠ (.slice Ao21 t348.length co21 : Value).ownBlock ∧ some k_ ≠ (.slice Ao26 y353.length co26 : Value).ownBlock ∧ some k_ ≠ (.slice Ao28 t356.length co28 : Value).ownBlock ∧ some k_ ≠ (v361 : Value).ownBlock ∧ some k_ ≠ (v369 : Value).ownBlock ∧ some k_ ≠ (v372 : Value).ownBlock ∧ k_ ≠ gb352 ∧ k_ ≠ gb367 ∧ k_ ≠ gb375) (.slice Ao38 t363.length co38) t363) := ⟨h4_⟩
        have n5_ : Aside0 (Kd.R (Kd.int .u8) 5 w47 w.heap.size (fun k_ => some k_ ≠ (.slice Ao26 y353.length co26 : Value).ownBlock ∧ some k_ ≠ (v361 : Value).ownBlock) v369 y368) := ⟨h5_⟩
        have n6_ : Aside0 (Kd.N k48 48 w47 w.heap.size (fun k_ => some k_ ≠ (.slice Ao21 t348.length co21 : Value).ownBlock ∧ some k_ ≠ (.slice Ao26 y353.length co26 : Value).ownBlock ∧ some k_ ≠ (.slice Ao28 t356.length co28 : Value).ownBlock ∧ some k_ ≠ (v361 : Value).ownBlock ∧ some k_ ≠ (.slice Ao38 t363.length co38 : Value).ownBlock ∧ some k_ ≠ (v369 : Value).ownBlock ∧ k_ ≠ gb352 ∧ k_ ≠ gb367 ∧ k_ ≠ gb375) v372 t371) := ⟨h6_⟩
        have n7_ : Aside0 (w47.heap[gb352]? = some (.cells #[.slice Ao28 t356.length co28] 24 (0, 0))) := ⟨h7_⟩
        have n8_ : Aside0 (w47.heap[gb367]? = some (.cells #[.slice Ao38 t363.length co38] 24 (0, 0))) := ⟨h8_⟩
        have n9_ : Aside0 (w47.heap[gb375]? = some (.cells #[.slice none 0 0] 24 (0, 0))) := ⟨h9_⟩
        have n10_ : Aside0 (w.heap.size ≤ gb375) := ⟨h10_⟩
        have n11_ : Aside0 (w.heap.size ≤ gb375) := ⟨h11_⟩
        have n12_ : Aside0 (gb352 ≠ gb375) := ⟨h12_⟩
        have n13_ : Aside0 (gb375 ≠ gb352) := ⟨h13_⟩
        have n14_ : Aside0 (gb367 ≠ gb375) := ⟨h14_⟩
        have n15_ : Aside0 (gb375 ≠ gb367) := ⟨h15_⟩
        have n16_ : Aside0 (Below w.heap.size w w47) := ⟨h16_⟩
        clear HO350
        clear HO355
        clear HO358
        clear HO362
        clear HO365
        clear BK352
        clear BK367
        clear HB
        clear h0_ h1_ h2_ h3_ h4_ h5_ h6_ h7_ h8_ h9_ h10_ h11_ h12_ h13_ h14_ h15_ h16_
        have HO350 := n0_
        have HO355 := n1_
        have HO358 := n2_
        have HO362 := n3_
        have HO365 := n4_
        have HO370 := n5_
        have HO373 := n6_
        have BK352 := n7_
        have BK367 := n8_
        have BK375 := n9_
        have GW375 := n10_
        have GE375 := n11_
        have NB352_375 := n12_
        have NB375_352 := n13_
        have NB367_375 := n14_
        have NB375_367 := n15_
        have HB := n16_
        clear n0_ n1_ n2_ n3_ n4_ n5_ n6_ n7_ n8_ n9_ n10_ n11_ n12_ n13_ n14_ n15_ n16_
        have hHeld : w47.cell? ⟨gb352, 0, none⟩ = some (.slice Ao28 t356.length co28) := hS_
        obtain ⟨Ao48, co48, eo48⟩ := Kd.N_slice HO373.out
        (first | subst eo48 | (injection eo48 with f1_ f2_ f3_; have f4_ := f1_.symm; have f5_ := f3_.symm; clear f1_ f2_ f3_; subst f4_; subst f5_))
        refine norm_ (a' := ?_) ?_ ?_
        rotate_left
        ·simp only [putAll, Act.put, List.setIfInBounds_toArray, List.set_cons_zero, List.set_cons_succ]
         rfl
        refine one_ (i := 10) (N := none) #[true, true, true, true, true, true, true, true, true, true, true, false] rfl rfl (one_of HT_.out (by kernel_rfl)) (by decide) (fun K hK => ?_)
        have hs49 : w47.cell? ⟨gb375, 0, none⟩ = some (.slice none 0 0) := (blk_cell BK375.out 0).trans rfl
        have hfs49 := blk_frozen BK375.out 0
        have hns49_0 := NB352_375.out
        have hns49_1 := NB367_375.out
        have hms49_0 := NB375_352.out
        have hms49_1 := NB375_367.out
        refine skip_ (w1 := ?_) (by rfl) rfl ?_ ?_
        rotate_left
        ·go_simp
         rfl
        refine hK.out _ _ (((cell_far (p := ⟨gb375, _, none⟩) NB352_375.out _).trans (hHeld))) (fun hHeld => ?_)
        clear hK K
        refine pure_ (i := 11) (N := some 12) (v := ?_) (a' := ?_) #[true, true, true, true, true, true, true, true, true, true, true, true] rfl rfl (any_of HT_.out (by kernel_rfl)) (fun _ _ _ h => h) (Or.inl ⟨by rfl, ?_⟩) ?_ ?_
        rotate_left
        ·intro w'
         go_simp
         with_reducible rfl
        rotate_left
        ·simp only [Act.put, List.setIfInBounds_toArray, List.set_cons_zero, List.set_cons_succ, i64_w, i32_w]
         rfl
        refine done_ (done_of HT_.out (by kernel_rfl)) ?_
        go_upto_region 8 with (fail)
        go_cut [61] (fun v61 wc => ∃ (kq : Nat) (x61_16 : Bool), v61 = .bool x61_16 ∧ Aside0 (rollbacknetlaw10_DiskLimits.j0 kq a0 a1 y353 t366 x61_16 t363 = some r) ∧ Aside0 (kq ≤ k) ∧ Aside0 (Kd.R (Kd.int .u8) 5 wc w.heap.size (fun _ => True) (.slice Ao26 y353.length co26) y353) ∧ Aside0 (Kd.N k48 48 wc w.heap.size (fun k_ => some k_ ≠ ((.slice Ao26 y353.length co26) : Value).ownBlock ∧ some k_ ≠ ((.slice Ao38 t363.length co38) : Value).ownBlock ∧ some k_ ≠ ((.slice Ao48 t371.length co48) : Value).ownBlock ∧ k_ ≠ gb352 ∧ k_ ≠ gb367 ∧ k_ ≠ gb375) (.slice Ao28 t356.length co28) t356) ∧ Aside0 (Kd.N k48 48 wc w.heap.size (fun k_ => some k_ ≠ ((.slice Ao26 y353.length co26) : Value).ownBlock ∧ some k_ ≠ ((.slice Ao28 t356.length co28) : Value).ownBlock ∧ some k_ ≠ ((.slice Ao48 t371.length co48) : Value).ownBlock ∧ k_ ≠ gb352 ∧ k_ ≠ gb367 ∧ k_ ≠ gb375) (.slice Ao38 t363.length co38) t363) ∧ Aside0 (Kd.N k48 48 wc w.heap.size (fun k_ => some k_ ≠ ((.slice Ao26 y353.length co26) : Value).ownBlock ∧ some k_ ≠ ((.slice Ao28 t356.length co28) : Value).ownBlock ∧ some k_ ≠ ((.slice Ao38 t363.length co38) : Value).ownBlock ∧ k_ ≠ gb352 ∧ k_ ≠ gb367 ∧ k_ ≠ gb375) (.slice Ao48 t371.length co48) t371) ∧ Aside0 (wc.heap[gb352]? = some (.cells #[(.slice Ao28 t356.length co28)] 24 (0, 0))) ∧ Aside0 (wc.heap[gb367]? = some (.cells #[(.slice Ao38 t363.length co38)] 24 (0, 0))) ∧ Aside0 (wc.heap[gb375]? = some (.cells #[(.slice Ao48 t371.length co48)] 24 (0, 0))) ∧ Aside0 (Below w.heap.size w wc))
        case first =>
         have H := HC17.out
         clear HC17
         by_cases c50 : t359 = 0
         ·rw [if_pos c50] at H
          have c50b0 : (t359 == 0) = true := beq_iff_eq.mpr c50
          have c50b1 : (t359 != 0) = false := bne_eq_false_iff_eq.mpr c50
          clear c50
          (first | rw [c50b0] | (simp only [i64_w, i32_w]; rw [c50b0]) | skip)
          by_cases c51 : ((t374 == 0) != (a1 == 0)) = true
          ·rw [if_pos c51] at H
           have c51b0 : ((t374 == 0) != (a1 == 0)) = true := c51
           (try (have c51b1 : decide ((t374 == 0) = (a1 == 0)) = false := by simpa using c51))
           (try (have c51b2 : ((t374 == 0) == (a1 == 0)) = false := by simpa using c51))
           (try (have c51b3 : ¬ ((t374 == 0) = (a1 == 0)) := by simpa using c51))
           clear c51
           have H' := aM H
           clear H
           go_wp2
           go_meet
           case rel => exact ⟨_, (true), (by first | rfl | (simp; done) | (simp [*]; done)), H', ⟨by first | omega | exact Nat.le_refl _⟩, ⟨by (with_reducible repeat (first | apply Kd.R_alloc | apply Kd.R_drewN | apply Kd.R_drew)); exact Kd.R_mono (Kd.R_far (p := ⟨gb375, 0, none⟩) (Kd.R_types HO355.out BK375.out (by decide)) (fun _ hk => hk.2) (.slice Ao48 t371.length co48)) (fun _ hk => trivial)⟩, ⟨by (with_reducible repeat (first | apply Kd.N_alloc | apply Kd.N_drewN | apply Kd.N_drew)); exact Kd.N_mono (Kd.N_far (p := ⟨gb375, 0, none⟩) (Kd.N_mono HO358.out (fun k_ hk => (⟨hk, hk.2.2.2.2.2.2.2.2⟩ : _ ∧ k_ ≠ gb375))) (fun _ hk => hk.2) (.slice Ao48 t371.length co48)) (fun _ hk => ⟨hk.1.2.1, ⟨hk.1.2.2.2.1, ⟨hk.1.2.2.2.2.2.1, ⟨hk.1.2.2.2.2.2.2.1, ⟨hk.1.2.2.2.2.2.2.2.1, hk.1.2.2.2.2.2.2.2.2⟩⟩⟩⟩⟩)⟩, ⟨by (with_reducible repeat (first | apply Kd.N_alloc | apply Kd.N_drewN | apply Kd.N_drew)); exact Kd.N_mono (Kd.N_far (p := ⟨gb375, 0, none⟩) (Kd.N_mono HO365.out (fun k_ hk => (⟨hk, hk.2.2.2.2.2.2.2.2⟩ : _ ∧ k_ ≠ gb375))) (fun _ hk => hk.2) (.slice Ao48 t371.length co48)) (fun _ hk => ⟨hk.1.2.1, ⟨hk.1.2.2.1, ⟨hk.1.2.2.2.2.2.1, ⟨hk.1.2.2.2.2.2.2.1, ⟨hk.1.2.2.2.2.2.2.2.1, hk.1.2.2.2.2.2.2.2.2⟩⟩⟩⟩⟩)⟩, ⟨by (with_reducible repeat (first | apply Kd.N_alloc | apply Kd.N_drewN | apply Kd.N_drew)); exact Kd.N_mono (Kd.N_far (p := ⟨gb375, 0, none⟩) (Kd.N_mono HO373.out (fun k_ hk => (⟨hk, hk.2.2.2.2.2.2.2.2⟩ : _ ∧ k_ ≠ gb375))) (fun _ hk => hk.2) (.slice Ao48 t371.length co48)) (fun _ hk => ⟨hk.1.2.1, ⟨hk.1.2.2.1, ⟨hk.1.2.2.2.2.1, ⟨hk.1.2.2.2.2.2.2.1, ⟨hk.1.2.2.2.2.2.2.2.1, hk.1.2.2.2.2.2.2.2.2⟩⟩⟩⟩⟩)⟩, ⟨by (with_reducible repeat (first | refine bN ?_ _ | refine bD ?_ | refine bA ?_ _)); refine blk_far ?_ NB352_375.out _; (with_reducible repeat (first | refine bN ?_ _ | refine bD ?_ | refine bA ?_ _)); exact BK352.out⟩, ⟨by (with_reducible repeat (first | refine bN ?_ _ | refine bD ?_ | refine bA ?_ _)); refine blk_far ?_ NB367_375.out _; (with_reducible repeat (first | refine bN ?_ _ | refine bD ?_ | refine bA ?_ _)); exact BK367.out⟩, ⟨by (with_reducible repeat (first | refine bN ?_ _ | refine bD ?_ | refine bA ?_ _)); refine blk_put (cs := #[.slice none 0 0]) ?_ 0 _ rfl; (with_reducible repeat (first | refine bN ?_ _ | refine bD ?_ | refine bA ?_ _)); exact BK375.out⟩, ⟨by repeat (first | (with_reducible first | exact HB.out | apply wA | apply wN | apply wD | refine below_set ?_ GE352.out | refine below_set ?_ GE367.out | refine below_set ?_ GE375.out) | exact HB.out)⟩⟩
          ·rw [if_neg c51] at H
           have c51b0 : ((t374 == 0) != (a1 == 0)) = false := by simpa using c51
           (try (have c51b1 : decide ((t374 == 0) = (a1 == 0)) = true := by simpa using c51))
           (try (have c51b2 : ((t374 == 0) == (a1 == 0)) = true := by simpa using c51))
           clear c51
           by_cases c52 : t374 = 0
           ·rw [if_pos c52] at H
            have c52b0 : (t374 == 0) = true := beq_iff_eq.mpr c52
            have c52b1 : (t374 != 0) = false := bne_eq_false_iff_eq.mpr c52
            have c51z : (a1 == 0) = true := by (have h_ := c51b0; rw [c52b0] at h_; simpa using h_)
            clear c51b0
            (try clear c51b1)
            (try clear c51b2)
            (try clear c51b3)
            clear c52
            have H' := aM H
            clear H
            go_wp2
            go_meet
            case rel => exact ⟨_, (false), (by first | rfl | (simp; done) | (simp [*]; done)), H', ⟨by first | omega | exact Nat.le_refl _⟩, ⟨by (with_reducible repeat (first | apply Kd.R_alloc | apply Kd.R_drewN | apply Kd.R_drew)); exact Kd.R_mono (Kd.R_far (p := ⟨gb375, 0, none⟩) (Kd.R_types HO355.out BK375.out (by decide)) (fun _ hk => hk.2) (.slice Ao48 t371.length co48)) (fun _ hk => trivial)⟩, ⟨by (with_reducible repeat (first | apply Kd.N_alloc | apply Kd.N_drewN | apply Kd.N_drew)); exact Kd.N_mono (Kd.N_far (p := ⟨gb375, 0, none⟩) (Kd.N_mono HO358.out (fun k_ hk => (⟨hk, hk.2.2.2.2.2.2.2.2⟩ : _ ∧ k_ ≠ gb375))) (fun _ hk => hk.2) (.slice Ao48 t371.length co48)) (fun _ hk => ⟨hk.1.2.1, ⟨hk.1.2.2.2.1, ⟨hk.1.2.2.2.2.2.1, ⟨hk.1.2.2.2.2.2.2.1, ⟨hk.1.2.2.2.2.2.2.2.1, hk.1.2.2.2.2.2.2.2.2⟩⟩⟩⟩⟩)⟩, ⟨by (with_reducible repeat (first | apply Kd.N_alloc | apply Kd.N_drewN | apply Kd.N_drew)); exact Kd.N_mono (Kd.N_far (p := ⟨gb375, 0, none⟩) (Kd.N_mono HO365.out (fun k_ hk => (⟨hk, hk.2.2.2.2.2.2.2.2⟩ : _ ∧ k_ ≠ gb375))) (fun _ hk => hk.2) (.slice Ao48 t371.length co48)) (fun _ hk => ⟨hk.1.2.1, ⟨hk.1.2.2.1, ⟨hk.1.2.2.2.2.2.1, ⟨hk.1.2.2.2.2.2.2.1, ⟨hk.1.2.2.2.2.2.2.2.1, hk.1.2.2.2.2.2.2.2.2⟩⟩⟩⟩⟩)⟩, ⟨by (with_reducible repeat (first | apply Kd.N_alloc | apply Kd.N_drewN | apply Kd.N_drew)); exact Kd.N_mono (Kd.N_far (p := ⟨gb375, 0, none⟩) (Kd.N_mono HO373.out (fun k_ hk => (⟨hk, hk.2.2.2.2.2.2.2.2⟩ : _ ∧ k_ ≠ gb375))) (fun _ hk => hk.2) (.slice Ao48 t371.length co48)) (fun _ hk => ⟨hk.1.2.1, ⟨hk.1.2.2.1, ⟨hk.1.2.2.2.2.1, ⟨hk.1.2.2.2.2.2.2.1, ⟨hk.1.2.2.2.2.2.2.2.1, hk.1.2.2.2.2.2.2.2.2⟩⟩⟩⟩⟩)⟩, ⟨by (with_reducible repeat (first | refine bN ?_ _ | refine bD ?_ | refine bA ?_ _)); refine blk_far ?_ NB352_375.out _; (with_reducible repeat (first | refine bN ?_ _ | refine bD ?_ | refine bA ?_ _)); exact BK352.out⟩, ⟨by (with_reducible repeat (first | refine bN ?_ _ | refine bD ?_ | refine bA ?_ _)); refine blk_far ?_ NB367_375.out _; (with_reducible repeat (first | refine bN ?_ _ | refine bD ?_ | refine bA ?_ _)); exact BK367.out⟩, ⟨by (with_reducible repeat (first | refine bN ?_ _ | refine bD ?_ | refine bA ?_ _)); refine blk_put (cs := #[.slice none 0 0]) ?_ 0 _ rfl; (with_reducible repeat (first | refine bN ?_ _ | refine bD ?_ | refine bA ?_ _)); exact BK375.out⟩, ⟨by repeat (first | (with_reducible first | exact HB.out | apply wA | apply wN | apply wD | refine below_set ?_ GE352.out | refine below_set ?_ GE367.out | refine below_set ?_ GE375.out) | exact HB.out)⟩⟩
           ·rw [if_neg c52] at H
            have c52b0 : (t374 == 0) = false := beq_eq_false_iff_ne.mpr c52
            have c52b1 : (t374 != 0) = true := bne_iff_ne.mpr c52
            have c51z : (a1 == 0) = false := by (have h_ := c51b0; rw [c52b0] at h_; simpa using h_)
            clear c51b0
            (try clear c51b1)
            (try clear c51b2)
            (try clear c51b3)
            have H' := aM H
            clear H
            go_wp2
            go_meet
            case rel => exact ⟨_, ((t374 != 5)), (by first | rfl | (simp; done) | (simp [*]; done)), H', ⟨by first | omega | exact Nat.le_refl _⟩, ⟨by (with_reducible repeat (first | apply Kd.R_alloc | apply Kd.R_drewN | apply Kd.R_drew)); exact Kd.R_mono (Kd.R_far (p := ⟨gb375, 0, none⟩) (Kd.R_types HO355.out BK375.out (by decide)) (fun _ hk => hk.2) (.slice Ao48 t371.length co48)) (fun _ hk => trivial)⟩, ⟨by (with_reducible repeat (first | apply Kd.N_alloc | apply Kd.N_drewN | apply Kd.N_drew)); exact Kd.N_mono (Kd.N_far (p := ⟨gb375, 0, none⟩) (Kd.N_mono HO358.out (fun k_ hk => (⟨hk, hk.2.2.2.2.2.2.2.2⟩ : _ ∧ k_ ≠ gb375))) (fun _ hk => hk.2) (.slice Ao48 t371.length co48)) (fun _ hk => ⟨hk.1.2.1, ⟨hk.1.2.2.2.1, ⟨hk.1.2.2.2.2.2.1, ⟨hk.1.2.2.2.2.2.2.1, ⟨hk.1.2.2.2.2.2.2.2.1, hk.1.2.2.2.2.2.2.2.2⟩⟩⟩⟩⟩)⟩, ⟨by (with_reducible repeat (first | apply Kd.N_alloc | apply Kd.N_drewN | apply Kd.N_drew)); exact Kd.N_mono (Kd.N_far (p := ⟨gb375, 0, none⟩) (Kd.N_mono HO365.out (fun k_ hk => (⟨hk, hk.2.2.2.2.2.2.2.2⟩ : _ ∧ k_ ≠ gb375))) (fun _ hk => hk.2) (.slice Ao48 t371.length co48)) (fun _ hk => ⟨hk.1.2.1, ⟨hk.1.2.2.1, ⟨hk.1.2.2.2.2.2.1, ⟨hk.1.2.2.2.2.2.2.1, ⟨hk.1.2.2.2.2.2.2.2.1, hk.1.2.2.2.2.2.2.2.2⟩⟩⟩⟩⟩)⟩, ⟨by (with_reducible repeat (first | apply Kd.N_alloc | apply Kd.N_drewN | apply Kd.N_drew)); exact Kd.N_mono (Kd.N_far (p := ⟨gb375, 0, none⟩) (Kd.N_mono HO373.out (fun k_ hk => (⟨hk, hk.2.2.2.2.2.2.2.2⟩ : _ ∧ k_ ≠ gb375))) (fun _ hk => hk.2) (.slice Ao48 t371.length co48)) (fun _ hk => ⟨hk.1.2.1, ⟨hk.1.2.2.1, ⟨hk.1.2.2.2.2.1, ⟨hk.1.2.2.2.2.2.2.1, ⟨hk.1.2.2.2.2.2.2.2.1, hk.1.2.2.2.2.2.2.2.2⟩⟩⟩⟩⟩)⟩, ⟨by (with_reducible repeat (first | refine bN ?_ _ | refine bD ?_ | refine bA ?_ _)); refine blk_far ?_ NB352_375.out _; (with_reducible repeat (first | refine bN ?_ _ | refine bD ?_ | refine bA ?_ _)); exact BK352.out⟩, ⟨by (with_reducible repeat (first | refine bN ?_ _ | refine bD ?_ | refine bA ?_ _)); refine blk_far ?_ NB367_375.out _; (with_reducible repeat (first | refine bN ?_ _ | refine bD ?_ | refine bA ?_ _)); exact BK367.out⟩, ⟨by (with_reducible repeat (first | refine bN ?_ _ | refine bD ?_ | refine bA ?_ _)); refine blk_put (cs := #[.slice none 0 0]) ?_ 0 _ rfl; (with_reducible repeat (first | refine bN ?_ _ | refine bD ?_ | refine bA ?_ _)); exact BK375.out⟩, ⟨by repeat (first | (with_reducible first | exact HB.out | apply wA | apply wN | apply wD | refine below_set ?_ GE352.out | refine below_set ?_ GE367.out | refine below_set ?_ GE375.out) | exact HB.out)⟩⟩
         ·rw [if_neg c50] at H
          have c50b0 : (t359 == 0) = false := beq_eq_false_iff_ne.mpr c50
          have c50b1 : (t359 != 0) = true := bne_iff_ne.mpr c50
          (first | rw [c50b0] | (simp only [i64_w, i32_w]; rw [c50b0]) | skip)
          have H' := aM H
          clear H
          go_wp2
          go_meet
          case rel => exact ⟨_, (true), (by first | rfl | (simp; done) | (simp [*]; done)), H', ⟨by first | omega | exact Nat.le_refl _⟩, ⟨by (with_reducible repeat (first | apply Kd.R_alloc | apply Kd.R_drewN | apply Kd.R_drew)); exact Kd.R_mono (Kd.R_far (p := ⟨gb375, 0, none⟩) (Kd.R_types HO355.out BK375.out (by decide)) (fun _ hk => hk.2) (.slice Ao48 t371.length co48)) (fun _ hk => trivial)⟩, ⟨by (with_reducible repeat (first | apply Kd.N_alloc | apply Kd.N_drewN | apply Kd.N_drew)); exact Kd.N_mono (Kd.N_far (p := ⟨gb375, 0, none⟩) (Kd.N_mono HO358.out (fun k_ hk => (⟨hk, hk.2.2.2.2.2.2.2.2⟩ : _ ∧ k_ ≠ gb375))) (fun _ hk => hk.2) (.slice Ao48 t371.length co48)) (fun _ hk => ⟨hk.1.2.1, ⟨hk.1.2.2.2.1, ⟨hk.1.2.2.2.2.2.1, ⟨hk.1.2.2.2.2.2.2.1, ⟨hk.1.2.2.2.2.2.2.2.1, hk.1.2.2.2.2.2.2.2.2⟩⟩⟩⟩⟩)⟩, ⟨by (with_reducible repeat (first | apply Kd.N_alloc | apply Kd.N_drewN | apply Kd.N_drew)); exact Kd.N_mono (Kd.N_far (p := ⟨gb375, 0, none⟩) (Kd.N_mono HO365.out (fun k_ hk => (⟨hk, hk.2.2.2.2.2.2.2.2⟩ : _ ∧ k_ ≠ gb375))) (fun _ hk => hk.2) (.slice Ao48 t371.length co48)) (fun _ hk => ⟨hk.1.2.1, ⟨hk.1.2.2.1, ⟨hk.1.2.2.2.2.2.1, ⟨hk.1.2.2.2.2.2.2.1, ⟨hk.1.2.2.2.2.2.2.2.1, hk.1.2.2.2.2.2.2.2.2⟩⟩⟩⟩⟩)⟩, ⟨by (with_reducible repeat (first | apply Kd.N_alloc | apply Kd.N_drewN | apply Kd.N_drew)); exact Kd.N_mono (Kd.N_far (p := ⟨gb375, 0, none⟩) (Kd.N_mono HO373.out (fun k_ hk => (⟨hk, hk.2.2.2.2.2.2.2.2⟩ : _ ∧ k_ ≠ gb375))) (fun _ hk => hk.2) (.slice Ao48 t371.length co48)) (fun _ hk => ⟨hk.1.2.1, ⟨hk.1.2.2.1, ⟨hk.1.2.2.2.2.1, ⟨hk.1.2.2.2.2.2.2.1, ⟨hk.1.2.2.2.2.2.2.2.1, hk.1.2.2.2.2.2.2.2.2⟩⟩⟩⟩⟩)⟩, ⟨by (with_reducible repeat (first | refine bN ?_ _ | refine bD ?_ | refine bA ?_ _)); refine blk_far ?_ NB352_375.out _; (with_reducible repeat (first | refine bN ?_ _ | refine bD ?_ | refine bA ?_ _)); exact BK352.out⟩, ⟨by (with_reducible repeat (first | refine bN ?_ _ | refine bD ?_ | refine bA ?_ _)); refine blk_far ?_ NB367_375.out _; (with_reducible repeat (first | refine bN ?_ _ | refine bD ?_ | refine bA ?_ _)); exact BK367.out⟩, ⟨by (with_reducible repeat (first | refine bN ?_ _ | refine bD ?_ | refine bA ?_ _)); refine blk_put (cs := #[.slice none 0 0]) ?_ 0 _ rfl; (with_reducible repeat (first | refine bN ?_ _ | refine bD ?_ | refine bA ?_ _)); exact BK375.out⟩, ⟨by repeat (first | (with_reducible first | exact HB.out | apply wA | apply wN | apply wD | refine below_set ?_ GE352.out | refine below_set ?_ GE367.out | refine below_set ?_ GE375.out) | exact HB.out)⟩⟩
        case rest =>
         clear HC17
         try clear c2
         try clear p2
         try clear c5
         try clear c20
         try clear c50
         try clear c50b0
         try clear c50b1
         try clear c51
         try clear c51b0
         try clear c51b1
         try clear c51b2
         try clear c52
         try clear c52b0
         try clear c52b1
         obtain ⟨kq, x61_16, rfl, HA, HJ16, HO_7, HO_353000, HO_368000, HO_376000, BK352, BK367, BK375, HB⟩ := hcut
         cases kq with
         | zero => exact absurd HA.out (by simp [rollbacknetlaw10_DiskLimits.j0])
         | succ kj16 =>
          have H := HA.out
          clear HA
          simp only [rollbacknetlaw10_DiskLimits.j0] at H
          by_cases c53 : x61_16 = true
          ·subst c53
           have H1 : (some false) = some r := by rw [if_pos rfl] at H; exact H
           clear H
           have H := H1
           clear H1
           obtain rfl := Option.some.inj H
           go_wp2
           go_ret
           exact ⟨by first | rfl | (simp [errW_none, errW_some] <;> rfl) | (simp only [← hji6, ← hji13]; first | rfl | (simp [errW_none, errW_some] <;> rfl)) | (simp [*, errW_none, errW_some] <;> rfl), by repeat (first | (with_reducible first | exact HB.out | apply wA | apply wN | apply wD | refine below_set ?_ GE352.out | refine below_set ?_ GE367.out | refine below_set ?_ GE375.out) | exact HB.out)⟩
          ·replace c53 := Bool.eq_false_iff.mpr c53
           subst c53
           have H1 : (if (wrap64 (a1)) > (wrap64 (a0)) then (if t366 = 5 then (some ((t363.length : Int) == 0)) else (some false)) else (if t366 = 0 then (if (t363.length : Int) = 1 then (if 0 < (t363.length : Int) then (some ((((rd_T48 t363 0).f1).length : Int) == (wrap64 ((y353.length : Int) + (wrap64 (a1)))))) else (none)) else (some false)) else (some false))) = some r := by rw [if_neg (show ¬ (false = true) by decide)] at H; exact H
           clear H
           have H := H1
           clear H1
           by_cases c54 : (wrap64 (a1)) > (wrap64 (a0))
           ·rw [if_pos c54] at H
            have c54b0 : decide ((wrap64 (a0)) < (wrap64 (a1))) = true := decide_eq_true c54
            clear c54
            by_cases c55 : t366 = 5
            ·rw [if_pos c55] at H
             have c55b0 : (t366 == 5) = true := beq_iff_eq.mpr c55
             have c55b1 : (t366 != 5) = false := bne_eq_false_iff_eq.mpr c55
             clear c55
             obtain rfl := Option.some.inj H
             have hnb56 := NB367_352.out
             have hnc56 := NB352_367.out
             have hnb57 := NB367_375.out
             have hnc57 := NB375_367.out
             have hcz58_0 : wc.cell? ⟨gb367, 0, none⟩ = some (.slice Ao38 t363.length co38) := (blk_cell BK367.out 0).trans rfl
             have hfz58_0 := blk_frozen BK367.out 0
             go_wp2
             go_ret
             exact ⟨by first | rfl | (simp [errW_none, errW_some] <;> rfl) | (simp only [← hji6, ← hji13]; first | rfl | (simp [errW_none, errW_some] <;> rfl)) | (simp [*, errW_none, errW_some] <;> rfl), by repeat (first | (with_reducible first | exact HB.out | apply wA | apply wN | apply wD | refine below_set ?_ GE352.out | refine below_set ?_ GE367.out | refine below_set ?_ GE375.out) | exact HB.out)⟩
            ·rw [if_neg c55] at H
             have c55b0 : (t366 == 5) = false := beq_eq_false_iff_ne.mpr c55
             have c55b1 : (t366 != 5) = true := bne_iff_ne.mpr c55
             obtain rfl := Option.some.inj H
             go_wp2
             go_ret
             exact ⟨by first | rfl | (simp [errW_none, errW_some] <;> rfl) | (simp only [← hji6, ← hji13]; first | rfl | (simp [errW_none, errW_some] <;> rfl)) | (simp [*, errW_none, errW_some] <;> rfl), by repeat (first | (with_reducible first | exact HB.out | apply wA | apply wN | apply wD | refine below_set ?_ GE352.out | refine below_set ?_ GE367.out | refine below_set ?_ GE375.out) | exact HB.out)⟩
           ·rw [if_neg c54] at H
            have c54b0 : decide ((wrap64 (a0)) < (wrap64 (a1))) = false := decide_eq_false c54
            clear c54
            by_cases c59 : t366 = 0
            ·rw [if_pos c59] at H
             have c59b0 : (t366 == 0) = true := beq_iff_eq.mpr c59
             have c59b1 : (t366 != 0) = false := bne_eq_false_iff_eq.mpr c59
             clear c59
             by_cases c60 : (t363.length : Int) = 1
             ·rw [if_pos c60] at H
              have c60b0 : ((t363.length : Int) == 1) = true := beq_iff_eq.mpr c60
              have c60b1 : ((t363.length : Int) != 1) = false := bne_eq_false_iff_eq.mpr c60
              clear c60
              by_cases c61 : 0 < (t363.length : Int)
              ·rw [if_pos c61] at H
               have c61b0 : decide (0 < (t363.length : Int)) = true := decide_eq_true c61
               have c61b1 : decide (0 < t363.length) = true := decide_eq_true (by omega)
               clear c61
               obtain rfl := Option.some.inj H
               have hnb62 := NB367_352.out
               have hnc62 := NB352_367.out
               have hnb63 := NB367_375.out
               have hnc63 := NB375_367.out
               have hcz64_0 : wc.cell? ⟨gb367, 0, none⟩ = some (.slice Ao38 t363.length co38) := (blk_cell BK367.out 0).trans rfl
               have hfz64_0 := blk_frozen BK367.out 0
               have p376 : 0 ≤ (0 : Int) := (by omega)
               have q376 : 0 < (t363.length : Int) := of_decide_eq_true (by first | (with_reducible assumption) | assumption)
               obtain ⟨ad376, A376_0, c376_0, A376_1, c376_1, e376, hx376_0, hx376_1, hl376_0, hi376_0, hl376_1, hi376_1⟩ := at_T48 (Kd.N_reads' HO_368000.out).2.2 0 p376 q376
               cases e376
               obtain ⟨ce376, hce376, hMe376, hcc376⟩ := Kd.N_get HO_368000.out z48 0 p376 (by first | exact q376 | exact of_decide_eq_true (by first | (with_reducible assumption) | assumption) | (have e_ := (Kd.N_reads' HO_368000.out).1; omega))
               obtain ⟨ua376_0, uc376_0, ua376_1, uc376_1, rfl, ul376_0, ge376_0, ul376_1, ge376_1⟩ := k48_openF hMe376
               have hv376_0 := hcc376 0 _ rfl
               rw [Nat.add_zero] at hv376_0
               replace hv376_0 := Option.some.inj (hv376_0.symm.trans hx376_0)
               injection hv376_0 with hva_ hvn_ hvc_
               rw [hva_] at ge376_0
               rw [hvc_] at ul376_0
               have HL376_0 := aM (show Kd.V (Kd.int .u8) 5 _ w.heap.size _ _ ((rd_T48 t363 0).f0) from Kd.V_mk ul376_0 ge376_0)
               clear hva_ hvn_ hvc_ ge376_0 ul376_0
               have hv376_1 := hcc376 1 _ rfl
               rw [add_field _ _ 1 (by omega)] at hv376_1
               replace hv376_1 := Option.some.inj (hv376_1.symm.trans hx376_1)
               injection hv376_1 with hva_ hvn_ hvc_
               rw [hva_] at ge376_1
               rw [hvc_] at ul376_1
               have HL376_1 := aM (show Kd.V (Kd.int .u8) 5 _ w.heap.size _ _ ((rd_T48 t363 0).f1) from Kd.V_mk ul376_1 ge376_1)
               clear hva_ hvn_ hvc_ ge376_1 ul376_1
               clear hcc376 hce376
               have qi376 : (0 < t363.length) = True := eq_true (by omega)
               (try rw [show ((0 : Int)).toNat = 0 from rfl] at hx376_0)
               (try rw [show 0 * 2 = 0 from rfl] at hx376_0)
               (try rw [Addr.add_zero'] at hx376_0)
               (try rw [show ((0 : Int)).toNat = 0 from rfl] at hx376_1)
               (try rw [show 0 * 2 = 0 from rfl] at hx376_1)
               (try rw [Addr.add_zero'] at hx376_1)
               have HR376_0 := aM hi376_0
               have HC376_0 := aM hl376_0
               clear hi376_0 hl376_0
               have HR376_1 := aM hi376_1
               have HC376_1 := aM hl376_1
               clear hi376_1 hl376_1
               replace p376 := eq_true p376
               replace q376 := eq_true q376
               go_wp2
               go_ret
               exact ⟨by first | rfl | (simp [errW_none, errW_some] <;> rfl) | (simp only [← hji6, ← hji13]; first | rfl | (simp [errW_none, errW_some] <;> rfl)) | (simp [*, errW_none, errW_some] <;> rfl), by repeat (first | (with_reducible first | exact HB.out | apply wA | apply wN | apply wD | refine below_set ?_ GE352.out | refine below_set ?_ GE367.out | refine below_set ?_ GE375.out) | exact HB.out)⟩
              ·rw [if_neg c61] at H
               exact absurd H (by simp)
             ·rw [if_neg c60] at H
              have c60b0 : ((t363.length : Int) == 1) = false := beq_eq_false_iff_ne.mpr c60
              have c60b1 : ((t363.length : Int) != 1) = true := bne_iff_ne.mpr c60
              obtain rfl := Option.some.inj H
              have hnb65 := NB367_352.out
              have hnc65 := NB352_367.out
              have hnb66 := NB367_375.out
              have hnc66 := NB375_367.out
              have hcz67_0 : wc.cell? ⟨gb367, 0, none⟩ = some (.slice Ao38 t363.length co38) := (blk_cell BK367.out 0).trans rfl
              have hfz67_0 := blk_frozen BK367.out 0
              go_wp2
              go_ret
              exact ⟨by first | rfl | (simp [errW_none, errW_some] <;> rfl) | (simp only [← hji6, ← hji13]; first | rfl | (simp [errW_none, errW_some] <;> rfl)) | (simp [*, errW_none, errW_some] <;> rfl), by repeat (first | (with_reducible first | exact HB.out | apply wA | apply wN | apply wD | refine below_set ?_ GE352.out | refine below_set ?_ GE367.out | refine below_set ?_ GE375.out) | exact HB.out)⟩
            ·rw [if_neg c59] at H
             have c59b0 : (t366 == 0) = false := beq_eq_false_iff_ne.mpr c59
             have c59b1 : (t366 != 0) = true := bne_iff_ne.mpr c59
             obtain rfl := Option.some.inj H
             go_wp2
             go_ret
             exact ⟨by first | rfl | (simp [errW_none, errW_some] <;> rfl) | (simp only [← hji6, ← hji13]; first | rfl | (simp [errW_none, errW_some] <;> rfl)) | (simp [*, errW_none, errW_some] <;> rfl), by repeat (first | (with_reducible first | exact HB.out | apply wA | apply wN | apply wD | refine below_set ?_ GE352.out | refine below_set ?_ GE367.out | refine below_set ?_ GE375.out) | exact HB.out)⟩
       ·rw [if_neg c15] at H
        exact absurd H (by simp)
      ·rw [if_neg c14] at H
       exact absurd H (by simp)
     ·rw [if_neg c11] at H
      exact absurd H (by simp)
    ·rw [if_neg c10] at H
     exact absurd H (by simp)
   ·rw [if_neg c8] at H
    exact absurd H (by simp)
  ·rw [if_neg c7] at H
   exact absurd H (by simp)
 ·replace c4 := Bool.eq_false_iff.mpr c4
  subst c4
  have H1 : (some false) = some r := by rw [if_neg (show ¬ (false = true) by decide)] at H; exact H
  clear H
  have H := H1
  clear H1
  obtain rfl := Option.some.inj H
  go_enter Try.func6, Try.ntmps6
  go_wp2_with (first | ((with_reducible refine gate_callee (f := 9) rfl ?_); refine goesL_ (some 13) rfl rfl Try.func9 (by kernel_rfl) rfl #[] rfl (by (try simp only [List.map_toArray, List.map_cons, List.map_nil]); first | done | rfl | (simp only [List.length_drop, List.length_take]; rfl)) ?_; (with_reducible refine (rollbacknetlaw10_awake.calls k  false _ A3.out).mono ?_); rintro e w68 ⟨rfl, hb⟩; refine ⟨_, rfl, ?_⟩; have n0_ := aM (below_step (by repeat (first | (with_reducible first | exact HB.out | apply wA | apply wN | apply wD) | exact HB.out)) hb); clear HB; have HB := n0_; clear n0_; (try clear hb); (try clear hb2); (try clear hk); (try clear hi)))
  go_ret
  exact ⟨by first | rfl | (simp [errW_none, errW_some] <;> rfl) | (simp [*, errW_none, errW_some] <;> rfl), by repeat (first | (with_reducible first | exact HB.out | apply wA | apply wN | apply wD) | exact HB.out)⟩

end Go.Proofs.Ytnfbjdnflifcoaa.PDk
