-- Laid by wip/tools/xprint.py, a program of this session over the kit's print: functions as Lean functions, each with its contract.
import Derived.Test.YtiflebfnhjlfdaaPNkx0
import Derived.Test.YtiflebfnhjlfdaaPNkx10
namespace Go.Proofs.Ytiflebfnhjlfdaa.PNk
open Go.RowKit Go.Proofs.YtiflebfnhjlfdaaW.PrintWords Go.Proofs.YtiflebfnhjlfdaaW.PrintLast Go.Proofs.YtiflebfnhjlfdaaW.PrintMore
attribute [local go_sem] max2_int min2_int max_two min_two max_three min_three max_four min_four   -- for this text's walks alone
set_option linter.unusedVariables false
set_option linter.unusedSimpArgs false

/-! ### rollbacknetref14_has: function 35 -/
def rollbacknetref14_has.f (l0 : List (S32)) (a1 : Int) : Option (Bool) := if a1 ≥ 0 then (some (decide (a1 < (l0.length : Int)))) else (some false)
set_option maxHeartbeats 8000000 in
set_option maxRecDepth 100000 in
theorem rollbacknetref14_has.calls (A0 : Option Addr) (c0 : Nat) (l0 : List (S32)) (a1 : Int) (r : Bool) (w : World) (hr0 : Kd.C k32 w A0 l0.length l0) (hc0 : l0.length ≤ c0) (h : rollbacknetref14_has.f l0 a1 = some r) :
  Calls Try.prog 35 #[.slice A0 l0.length c0, .int .i64 a1] w fun e w' => e = .returned (.bool r) ∧ Drawn0 w w' := by
 have HR0 := aM hr0
 have HC0 := aM hc0
 clear hr0 hc0
 have H : (if a1 ≥ 0 then (some (decide (a1 < (l0.length : Int)))) else (some false)) = some r := h
 clear h
 by_cases c3 : a1 ≥ 0
 ·rw [if_pos c3] at H
  have c3b0 : decide (0 ≤ a1) = true := decide_eq_true c3
  clear c3
  obtain rfl := Option.some.inj H
  go_enter Try.func35, Try.ntmps35
  go_wp2
  go_ret
  exact ⟨by first | rfl | (simp; done) | (simp [*]; done), by repeat (first | exact Drawn0.refl _ | apply Drawn0.step)⟩
 ·rw [if_neg c3] at H
  have c3b0 : decide (0 ≤ a1) = false := decide_eq_false c3
  clear c3
  obtain rfl := Option.some.inj H
  go_enter Try.func35, Try.ntmps35
  go_wp2
  go_ret
  exact ⟨by first | rfl | (simp; done) | (simp [*]; done), by repeat (first | exact Drawn0.refl _ | apply Drawn0.step)⟩

/-! ### rollbacknetref14_Oldest: function 17, by hand -/
def rollbacknetref14_Oldest.f (k : Nat) (l0 : List (S32)) (a1 : Int) : Option (Int) := if 0 ≤ a1 ∧ a1 < (l0.length : Int) then ((rollbacknetref14_Channel.f k l0 (rd_T32 l0 a1).f0 (rd_T32 l0 a1).f1).bind fun c => if 0 < (c.length : Int) then some (rd c 0) else none) else some (-1)
theorem rollbacknetref14_Oldest.mono : ∀ a0 a1 k, LeO (rollbacknetref14_Oldest.f k a0 a1) (rollbacknetref14_Oldest.f (k + 1) a0 a1) := fun _ _ k => by
  unfold rollbacknetref14_Oldest.f
  exact LeO.ite (LeO.bind (rollbacknetref14_Channel.mono _ _ _ _) (fun _ => LeO.refl _)) (LeO.refl _)

set_option maxHeartbeats 4000000 in
set_option maxRecDepth 100000 in
theorem rollbacknetref14_Oldest.calls (k : Nat) (A0 : Option Addr) (c0 : Nat) (l0 : List (S32)) (a1 : Int) (r : Int) (w : World) (hr0 : Kd.C k32 w A0 l0.length l0) (hc0 : l0.length ≤ c0) (h : rollbacknetref14_Oldest.f k l0 a1 = some r) :
    Calls Try.prog 17 #[.slice A0 l0.length c0, .int .i64 a1] w fun e w' => e = .returned (.int .i64 r) ∧ Below w.heap.size w w' := by
  unfold rollbacknetref14_Oldest.f at h
  by_cases hin : 0 ≤ a1 ∧ a1 < (l0.length : Int)
  case neg =>
    rw [if_neg hin] at h
    cases Option.some.inj h
    have hhas : rollbacknetref14_has.f l0 a1 = some false := by
      unfold rollbacknetref14_has.f
      by_cases h0 : a1 ≥ 0
      · rw [if_pos h0, decide_eq_false (by omega)]
      · rw [if_neg h0]
    have HHAS := aM hhas
    have HR0 := aM hr0
    have HC0 := aM hc0
    have HB := aM (Below.refl w.heap.size w)
    clear hhas h hin hr0 hc0
    go_enter Try.func17, Try.ntmps17
    go_wp2_with (go_at_call 35; refine (rollbacknetref14_has.calls A0 c0 l0 a1 false _ HR0.out HC0.out HHAS.out).mono ?_; rintro e w' ⟨rfl, hd⟩; obtain ⟨⟨nd, rfl⟩⟩ := hd)
    go_ret
    exact ⟨rfl, pw_below_drewN HB.out nd⟩
  rw [if_pos hin] at h
  obtain ⟨c, hc, h⟩ := Option.bind_eq_some_iff.1 h
  by_cases hl : 0 < (c.length : Int)
  case neg => rw [if_neg hl] at h; cases h
  rw [if_pos hl] at h
  cases Option.some.inj h
  have hhas : rollbacknetref14_has.f l0 a1 = some true := by
    unfold rollbacknetref14_has.f
    rw [if_pos hin.1, decide_eq_true hin.2]
  have HHAS := aM hhas
  have HR0 := aM hr0
  have HC0 := aM hc0
  have HCH := aM hc
  have HB := aM (Below.refl w.heap.size w)
  obtain ⟨ad1, A7, c7, A8, c8, eA, hx0, hx1, _⟩ := at_T32 hr0 a1 hin.1 hin.2
  cases eA
  have p1 : (0 ≤ a1) = True := eq_true hin.1
  have p2 : (a1 < (l0.length : Int)) = True := eq_true hin.2
  have p3 : (0 < (c.length : Int)) = True := eq_true hl
  have p4 : (0 < c.length) = True := eq_true (by omega)
  have hmx : Try.prog.follows .mixedOrders = true := by kernel_rfl
  clear hhas h hin hr0 hc0 hc hl
  go_enter Try.func17, Try.ntmps17
  go_wp2_with (go_at_call 35; refine (rollbacknetref14_has.calls _ c0 l0 a1 true _ HR0.out HC0.out HHAS.out).mono ?_; rintro e w' ⟨rfl, hd⟩; obtain ⟨⟨nd, rfl⟩⟩ := hd)
  go_region_with (go_at_call 15; refine (rollbacknetref14_Channel.calls k _ c0 l0 _ _ c _ (Kd.C_below HR0.out (pw_below_drewN (Below.refl _ _) _)) HC0.out HCH.out).mono ?_; rintro e w' ⟨v0, rfl, hR, hb⟩; obtain ⟨Ac, cc, ec⟩ := Kd.R_slice hR; subst ec; obtain ⟨adc, eC, hcz⟩ := Kd.at_int (Kd.R_reads' hR).2.2 0 (by omega) (of_eq_true p3); cases eC; rw [show ((0 : Int)).toNat = 0 from rfl, Addr.add_zero'] at hcz; have HB2 := aM (below_step (pw_below_drewN HB.out (nd + 1)) hb); clear hR hb)
  all_goals
    go_wp2
    go_ret
    exact ⟨rfl, by repeat (first | exact HB2.out | apply wA | apply wN | apply wD)⟩

end Go.Proofs.Ytiflebfnhjlfdaa.PNk
