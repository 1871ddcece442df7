-- Laid by wip/tools/xprint.py, a program of this session over the kit's print: functions as Lean functions, each with its contract.
import Derived.Test.YtkjnledamamniaaPImx0
namespace Go.Proofs.Ytkjnledamamniaa.PIm
open Go.RowKit Go.Proofs.YtkjnledamamniaaW.PrintWords Go.Proofs.YtkjnledamamniaaW.PrintLast Go.Proofs.YtkjnledamamniaaW.PrintMore
attribute [local go_sem] max2_int min2_int max_two min_two max_three min_three max_four min_four   -- for this text's walks alone
set_option linter.unusedVariables false
set_option linter.unusedSimpArgs false

/-! ### rollbacknetref07_Count: function 19 -/
def rollbacknetref07_Count.f (l0 : List Int) : Option (Int) := if ((l0.length : Int) % 4) = 0 then (some (wrap64 ((l0.length : Int) / 4))) else (some (wrap64 ((wrap64 ((l0.length : Int) / 4)) + 1)))
set_option maxHeartbeats 8000000 in
set_option maxRecDepth 100000 in
theorem rollbacknetref07_Count.calls (A0 : Option Addr) (c0 : Nat) (l0 : List Int) (r : Int) (w : World) (hr0 : Kd.C (Kd.int .i64) w A0 l0.length l0) (hc0 : l0.length ≤ c0) (h : rollbacknetref07_Count.f l0 = some r) :
  Calls Try.prog 19 #[.slice A0 l0.length c0] w fun e w' => e = .returned (.int .i64 r) ∧ Drawn0 w w' := by
 have HR0 := aM hr0
 have HC0 := aM hc0
 clear hr0 hc0
 have H : (if ((l0.length : Int) % 4) = 0 then (some (wrap64 ((l0.length : Int) / 4))) else (some (wrap64 ((wrap64 ((l0.length : Int) / 4)) + 1)))) = some r := h
 clear h
 by_cases c2 : ((l0.length : Int) % 4) = 0
 ·rw [if_pos c2] at H
  have c2b0 : (((l0.length : Int) % 4) == 0) = true := beq_iff_eq.mpr c2
  have c2b1 : (((l0.length : Int) % 4) != 0) = false := bne_eq_false_iff_eq.mpr c2
  clear c2
  obtain rfl := Option.some.inj H
  go_enter Try.func19, Try.ntmps19
  go_wp2
  go_ret
  exact ⟨by first | rfl | (simp; done) | (simp [*]; done), by repeat (first | exact Drawn0.refl _ | apply Drawn0.step)⟩
 ·rw [if_neg c2] at H
  have c2b0 : (((l0.length : Int) % 4) == 0) = false := beq_eq_false_iff_ne.mpr c2
  have c2b1 : (((l0.length : Int) % 4) != 0) = true := bne_iff_ne.mpr c2
  obtain rfl := Option.some.inj H
  go_enter Try.func19, Try.ntmps19
  go_wp2
  go_ret
  exact ⟨by first | rfl | (simp; done) | (simp [*]; done), by repeat (first | exact Drawn0.refl _ | apply Drawn0.step)⟩

/-! ### rollbacknetref07_page: function 30 -/
def rollbacknetref07_page.f (l0 : List Int) (a1 : Int) : Option (List Int) := if a1 < 0 then (some ([] : List Int)) else ((rollbacknetref07_Count.f l0).bind fun t186 => (if a1 ≥ t186 then (some ([] : List Int)) else (if 0 ≤ (wrap64 (a1 * 4)) then (if (wrap64 (a1 * 4)) ≤ (mn (l0.length : Int) (wrap64 ((wrap64 (a1 * 4)) + 4))) then (if (mn (l0.length : Int) (wrap64 ((wrap64 (a1 * 4)) + 4))) ≤ (l0.length : Int) then (some ((l0.take ((mn (l0.length : Int) (wrap64 ((wrap64 (a1 * 4)) + 4))) : Int).toNat).drop ((wrap64 (a1 * 4)) : Int).toNat)) else (none)) else (none)) else (none))))
set_option maxHeartbeats 8000000 in
set_option maxRecDepth 100000 in
theorem rollbacknetref07_page.calls (P0_ : Nat → Prop) (A0 : Option Addr) (c0 : Nat) (l0 : List Int) (a1 : Int) (r : List Int) (w : World) (hs0 : Kd.V (Kd.int .i64) 3 w w.heap.size (fun k_ => P0_ k_) (.slice A0 l0.length c0) l0) (h : rollbacknetref07_page.f l0 a1 = some r) :
  Calls Try.prog 30 #[.slice A0 l0.length c0, .int .i64 a1] w fun e w' => ∃ v0_ : Value, e = .returned (v0_) ∧ Kd.V (Kd.int .i64) 3 w' w.heap.size (fun k_ => (P0_ k_ ∨ w.heap.size ≤ k_)) v0_ r ∧ Below w.heap.size w w' := by
 have HO0 := aM (show Kd.V (Kd.int .i64) 3 w w.heap.size (fun k_ => (P0_ k_ ∨ w.heap.size ≤ k_)) (.slice A0 l0.length c0) l0 from Kd.V_mono hs0 (fun k_ hk => .inl hk))
 have HB := aM (Below.refl w.heap.size w)
 have H : (if a1 < 0 then (some ([] : List Int)) else ((rollbacknetref07_Count.f l0).bind fun t186 => (if a1 ≥ t186 then (some ([] : List Int)) else (if 0 ≤ (wrap64 (a1 * 4)) then (if (wrap64 (a1 * 4)) ≤ (mn (l0.length : Int) (wrap64 ((wrap64 (a1 * 4)) + 4))) then (if (mn (l0.length : Int) (wrap64 ((wrap64 (a1 * 4)) + 4))) ≤ (l0.length : Int) then (some ((l0.take ((mn (l0.length : Int) (wrap64 ((wrap64 (a1 * 4)) + 4))) : Int).toNat).drop ((wrap64 (a1 * 4)) : Int).toNat)) else (none)) else (none)) else (none))))) = some r := h
 clear h
 by_cases c3 : a1 < 0
 ·rw [if_pos c3] at H
  have c3b0 : decide (a1 < 0) = true := decide_eq_true c3
  clear c3
  obtain rfl := Option.some.inj H
  go_enter Try.func30, Try.ntmps30
  go_wp2
  go_ret
  exact ⟨_, by first | rfl | (simp [errW_none, errW_some] <;> rfl) | (simp [*, errW_none, errW_some] <;> rfl), Kd.V_nil _ _ _ _ _, by repeat (first | (with_reducible first | exact HB.out | apply wA | apply wN | apply wD) | exact HB.out)⟩
 ·rw [if_neg c3] at H
  have c3b0 : decide (a1 < 0) = false := decide_eq_false c3
  clear c3
  replace H := Option.bind_eq_some_iff.mp H
  obtain ⟨t186, A40, H⟩ := H
  replace H : (if a1 ≥ t186 then (some ([] : List Int)) else (if 0 ≤ (wrap64 (a1 * 4)) then (if (wrap64 (a1 * 4)) ≤ (mn (l0.length : Int) (wrap64 ((wrap64 (a1 * 4)) + 4))) then (if (mn (l0.length : Int) (wrap64 ((wrap64 (a1 * 4)) + 4))) ≤ (l0.length : Int) then (some ((l0.take ((mn (l0.length : Int) (wrap64 ((wrap64 (a1 * 4)) + 4))) : Int).toNat).drop ((wrap64 (a1 * 4)) : Int).toNat)) else (none)) else (none)) else (none))) = some r := H
  have A4 := aM A40
  clear A40
  by_cases c5 : a1 ≥ t186
  ·rw [if_pos c5] at H
   have c5b0 : decide (t186 ≤ a1) = true := decide_eq_true c5
   clear c5
   obtain rfl := Option.some.inj H
   go_enter Try.func30, Try.ntmps30
   go_wp2_with (first | (go_at_call 19; (with_reducible refine (rollbacknetref07_Count.calls _ _ l0 t186 _ ?side1 ?side2 A4.out).mono ?_); (case side1 => repeat (first | exact (Kd.V_reads' HO0.out).2.2 | (with_reducible refine Kd.C_alloc ?_ _) | (with_reducible refine Kd.C_drewN ?_ _) | (with_reducible refine Kd.C_drew ?_))); (case side2 => exact (Kd.V_reads' HO0.out).2.1); rintro e w' ⟨rfl, ⟨nd, rfl⟩⟩))
   go_ret
   exact ⟨_, by first | rfl | (simp [errW_none, errW_some] <;> rfl) | (simp [*, errW_none, errW_some] <;> rfl), Kd.V_nil _ _ _ _ _, by repeat (first | (with_reducible first | exact HB.out | apply wA | apply wN | apply wD) | exact HB.out)⟩
  ·rw [if_neg c5] at H
   have c5b0 : decide (t186 ≤ a1) = false := decide_eq_false c5
   clear c5
   obtain ⟨ji6, hji6⟩ : ∃ j_ : Int, (mn (l0.length : Int) (wrap64 ((wrap64 (a1 * 4)) + 4))) = j_ := ⟨_, rfl⟩
   replace H : (if 0 ≤ (wrap64 (a1 * 4)) then (if (wrap64 (a1 * 4)) ≤ (ji6) then (if (ji6) ≤ (l0.length : Int) then (some ((l0.take ((ji6) : Int).toNat).drop ((wrap64 (a1 * 4)) : Int).toNat)) else (none)) else (none)) else (none)) = some r := by first | (rw [hji6] at H; exact H) | (simp only [hji6] at H ⊢; exact H)
   (try rw [hji6] at A4)
   have hji6_ : (if (wrap64 ((wrap64 (a1 * 4)) + 4)) < (l0.length : Int) then (wrap64 ((wrap64 (a1 * 4)) + 4)) else (l0.length : Int)) = ji6 := hji6
   obtain ⟨ji7, hji7⟩ : ∃ j_ : Int, (wrap64 (a1 * 4)) = j_ := ⟨_, rfl⟩
   (try rw [hji7] at hji6_)
   replace H : (if 0 ≤ (ji7) then (if (ji7) ≤ (ji6) then (if (ji6) ≤ (l0.length : Int) then (some ((l0.take ((ji6) : Int).toNat).drop ((ji7) : Int).toNat)) else (none)) else (none)) else (none)) = some r := by first | (rw [hji7] at H; exact H) | (simp only [hji7] at H ⊢; exact H)
   (try rw [hji7] at A4)
   have hji7w : (IntKind.i64.wrap (a1 * 4)) = ji7 := (i64_w _).trans hji7
   by_cases c8 : 0 ≤ (ji7)
   ·rw [if_pos c8] at H
    have c8b0 := eq_true c8
    have c8b1 : decide (0 ≤ (ji7)) = true := decide_eq_true c8
    clear c8
    by_cases c9 : (ji7) ≤ (ji6)
    ·rw [if_pos c9] at H
     have c9b0 := eq_true c9
     have c9b1 : decide ((ji7) ≤ (ji6)) = true := decide_eq_true c9
     clear c9
     by_cases c10 : (ji6) ≤ (l0.length : Int)
     ·rw [if_pos c10] at H
      have c10b0 := eq_true c10
      have c10b1 : decide ((ji6) ≤ (l0.length : Int)) = true := decide_eq_true c10
      clear c10
      obtain ⟨y187, hy187⟩ : ∃ y_ : List Int, y_ = ((l0.take ((ji6) : Int).toNat).drop ((ji7) : Int).toNat) := ⟨_, rfl⟩
      replace H : (some y187) = some r := by first | (rw [hy187]; with_reducible exact H) | (have H2_ := (Option.bind_some _ _).symm.trans H; rw [hy187]; with_reducible exact H2_) | (have H2_ := (Option.bind_some _ _).symm.trans H; with_reducible exact H2_) | with_reducible exact H | (rw [hy187]; exact H) | exact H
      have Ny187 := aM hy187
      clear hy187
      obtain rfl := Option.some.inj H
      go_enter Try.func30, Try.ntmps30
      go_wp2_with (first | (go_at_call 19; (with_reducible refine (rollbacknetref07_Count.calls _ _ l0 t186 _ ?side1 ?side2 A4.out).mono ?_); (case side1 => repeat (first | exact (Kd.V_reads' HO0.out).2.2 | (with_reducible refine Kd.C_alloc ?_ _) | (with_reducible refine Kd.C_drewN ?_ _) | (with_reducible refine Kd.C_drew ?_))); (case side2 => exact (Kd.V_reads' HO0.out).2.1); rintro e w' ⟨rfl, ⟨nd, rfl⟩⟩; have q11 : ((ji6) : Int) ≤ ((l0.length : Int) : Int) := of_decide_eq_true (by first | (with_reducible assumption) | assumption); obtain ⟨i011, hi011, _, hsz11, _⟩ := info_parts info3; have hroom11 : l0.length ≤ c0 := (Kd.V_reads' HO0.out).2.1; have hC11 : Kd.F (Kd.int .i64) _ _ A0 l0.length l0 := (Kd.V_at (base := w.heap.size) HO0.out).2.2; have ql11 : ((ji7) : Int) ≤ ((ji6) : Int) := of_decide_eq_true (by first | (with_reducible assumption) | assumption); have q011 : (0 : Int) ≤ ((ji7) : Int) := of_decide_eq_true (by first | (with_reducible assumption) | assumption); have hcut11 := cut_mid (P := Try.prog) 22 3 .i64 .i64 Try.underlying22 hi011 1 hsz11 A0 l0.length c0 (ji7) (ji6) q011 ql11 q11 hroom11; have hr11 := Kd.F_mid (lo := ((ji7) : Int).toNat) (hi := ((ji6) : Int).toNat) (c := c0) hC11 (by omega) (by omega) hroom11; obtain ⟨A11, hA11⟩ : ∃ A1, A1 = (if c0 = ((ji7) : Int).toNat then A0 else (A0 : Option Addr).map (·.add (((ji7) : Int).toNat * 1))) := ⟨_, rfl⟩; obtain ⟨c11, hc11⟩ : ∃ c1, c1 = c0 - ((ji7) : Int).toNat := ⟨_, rfl⟩; have hy11 : y187.length = ((ji6) : Int).toNat - ((ji7) : Int).toNat := (by rw [Ny187.out, List.length_drop, List.length_take] <;> omega); rw [show ((l0).take ((ji6) : Int).toNat).drop ((ji7) : Int).toNat = y187 from Ny187.out.symm] at hr11; replace hr11 : Kd.F (Kd.int .i64) _ _ A11 y187.length y187 := (by rw [hA11]; exact hr11); rw [← hy11, ← hA11, ← hc11] at hcut11; have HO191 := aM (show Kd.V (Kd.int .i64) 3 _ w.heap.size _ (.slice A11 y187.length c11) y187 from Kd.V_mk (by rw [hy11, hc11]; exact Nat.sub_le_sub_right (Nat.le_trans (by omega) hroom11) _) hr11); have HC191 := aM (show y187.length ≤ c11 from by rw [hy11, hc11]; exact Nat.sub_le_sub_right (Nat.le_trans (by omega) hroom11) _); clear hr11 hC11 hroom11 hi011 hsz11 hc11; have KY11 := aM hy11; have KA11 := aM hA11; clear hy11 hA11; replace q11 := eq_true q11))
      go_ret
      exact ⟨_, by first | rfl | (simp [errW_none, errW_some] <;> rfl) | (simp only [← hji6, ← hji7]; first | rfl | (simp [errW_none, errW_some] <;> rfl)) | (simp [*, errW_none, errW_some] <;> rfl), by (with_reducible repeat (first | apply Kd.V_alloc | apply Kd.V_drewN | apply Kd.V_drew)); exact HO191.out, by repeat (first | (with_reducible first | exact HB.out | apply wA | apply wN | apply wD) | exact HB.out)⟩
     ·rw [if_neg c10] at H
      exact absurd H (by simp)
    ·rw [if_neg c9] at H
     exact absurd H (by simp)
   ·rw [if_neg c8] at H
    exact absurd H (by simp)

end Go.Proofs.Ytkjnledamamniaa.PIm
