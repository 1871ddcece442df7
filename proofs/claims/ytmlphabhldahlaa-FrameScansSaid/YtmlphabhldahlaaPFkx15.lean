-- Laid by wip/tools/xprint.py, a program of this session over the kit's print: functions as Lean functions, each with its contract.
import Derived.Test.YtmlphabhldahlaaPFkx0
import Derived.Test.YtmlphabhldahlaaPFkx4
import Derived.Test.YtmlphabhldahlaaPFkx13
import Derived.Test.YtmlphabhldahlaaPFkx14
namespace Go.Proofs.Ytmlphabhldahlaa.PFk
open Go.RowKit Go.Proofs.YtmlphabhldahlaaW.PrintWords Go.Proofs.YtmlphabhldahlaaW.PrintLast Go.Proofs.YtmlphabhldahlaaW.PrintMore
attribute [local go_sem] max2_int min2_int max_two min_two max_three min_three max_four min_four   -- for this text's walks alone
set_option linter.unusedVariables false
set_option linter.unusedSimpArgs false

/-! ### rollbacknetlaw11_same: function 15 -/
def rollbacknetlaw11_same.f (k : Nat) (l0 : List Int) (a1 : Int) : Option (Bool) := (frame_Next.f k l0 a1).bind fun bt200 => ((rollbacknetref11_Next.f k l0 a1).bind fun bt205 => (if bt200.2.2 = bt205.2.2 then (if bt200.2.1 = bt205.2.1 then ((rollbacknetref08_SameBytes.f k bt200.1 bt205.1).bind fun t210 => (some t210)) else (some false)) else (some false)))
theorem rollbacknetlaw11_same.mono : ∀ a0 a1 k, LeO (rollbacknetlaw11_same.f k a0 a1) (rollbacknetlaw11_same.f (k + 1) a0 a1) := by
 intro a0 a1 k
 unfold rollbacknetlaw11_same.f
 repeat' first
   | (with_reducible exact frame_Next.mono _ _ _)
   | (with_reducible exact rollbacknetref08_SameBytes.mono _ _ _)
   | (with_reducible exact rollbacknetref11_Next.mono _ _ _)
   | (with_reducible exact LeO.refl _)
   | (with_reducible exact LeO.none _)
   | (with_reducible refine LeO.ite ?_ ?_)
   | (with_reducible refine LeO.bind ?_ (fun _ => ?_))
   | exact frame_Next.mono _ _ _
   | exact rollbacknetref08_SameBytes.mono _ _ _
   | exact rollbacknetref11_Next.mono _ _ _
   | exact LeO.none _
   | refine LeO.ite ?_ ?_
   | refine LeO.bind ?_ (fun _ => ?_)
set_option maxHeartbeats 8000000 in
set_option maxRecDepth 100000 in
theorem rollbacknetlaw11_same.calls (k : Nat) (A0 : Option Addr) (c0 : Nat) (l0 : List Int) (a1 : Int) (r : Bool) (w : World) (hr0 : Kd.C (Kd.int .u8) w A0 l0.length l0) (hc0 : l0.length ≤ c0) (h : rollbacknetlaw11_same.f k l0 a1 = some r) :
  Calls Try.prog 15 #[.slice A0 l0.length c0, .int .i64 a1] w fun e w' => e = .returned (.bool r) ∧ Below w.heap.size w w' := by
 have HR0 := aM hr0
 have HC0 := aM hc0
 clear hr0 hc0
 have HB := aM (Below.refl w.heap.size w)
 have H : ((frame_Next.f k l0 a1).bind fun bt200 => ((rollbacknetref11_Next.f k l0 a1).bind fun bt205 => (if bt200.2.2 = bt205.2.2 then (if bt200.2.1 = bt205.2.1 then ((rollbacknetref08_SameBytes.f k bt200.1 bt205.1).bind fun t210 => (some t210)) else (some false)) else (some false)))) = some r := h
 clear h
 replace H := Option.bind_eq_some_iff.mp H
 obtain ⟨⟨t200, t201, t202⟩, A30, H⟩ := H
 replace H : ((rollbacknetref11_Next.f k l0 a1).bind fun bt205 => (if t202 = bt205.2.2 then (if t201 = bt205.2.1 then ((rollbacknetref08_SameBytes.f k t200 bt205.1).bind fun t210 => (some t210)) else (some false)) else (some false))) = some r := H
 have A3 := aM A30
 clear A30
 replace H := Option.bind_eq_some_iff.mp H
 obtain ⟨⟨t205, t206, t207⟩, A40, H⟩ := H
 replace H : (if t202 = t207 then (if t201 = t206 then ((rollbacknetref08_SameBytes.f k t200 t205).bind fun t210 => (some t210)) else (some false)) else (some false)) = some r := H
 have A4 := aM A40
 clear A40
 by_cases c5 : t202 = t207
 ·rw [if_pos c5] at H
  have c5b0 : (t202 == t207) = true := beq_iff_eq.mpr c5
  have c5b1 : (t202 != t207) = false := bne_eq_false_iff_eq.mpr c5
  clear c5
  by_cases c6 : t201 = t206
  ·rw [if_pos c6] at H
   have c6b0 : (t201 == t206) = true := beq_iff_eq.mpr c6
   have c6b1 : (t201 != t206) = false := bne_eq_false_iff_eq.mpr c6
   clear c6
   replace H := Option.bind_eq_some_iff.mp H
   obtain ⟨t210, A70, H⟩ := H
   replace H : (some t210) = some r := H
   have A7 := aM A70
   clear A70
   obtain rfl := Option.some.inj H
   go_enter Try.func15, Try.ntmps15
   go_wp2_with (first | ((with_reducible refine gate_callee (f := 17) rfl ?_); refine goesL_ (some 14) rfl rfl Try.func17 (by kernel_rfl) rfl #[.slice A0 l0.length c0, .int .i64 a1] rfl (by (try simp only [List.map_toArray, List.map_cons, List.map_nil]); first | done | rfl | (simp only [List.length_drop, List.length_take]; rfl)) ?_; (with_reducible refine (frame_Next.calls k _ _ l0 a1 t200 t201 t202 _ ?side1 ?side2 A3.out).mono ?_); (case side1 => repeat (first | exact HR0.out | (with_reducible refine Kd.C_alloc ?_ _) | (with_reducible refine Kd.C_drewN ?_ _) | (with_reducible refine Kd.C_drew ?_))); (case side2 => exact HC0.out); rintro e w8 ⟨v203, rfl, ho0, hb⟩; refine ⟨_, rfl, ?_⟩; have n0_ := aM (Kd.R_lower ho0 (below_size (by repeat (first | (with_reducible first | exact HB.out | apply wA | apply wN | apply wD) | exact HB.out)))); have n1_ := aM (below_step (by repeat (first | (with_reducible first | exact HB.out | apply wA | apply wN | apply wD) | exact HB.out)) hb); clear HB; have HO204 := n0_; have HB := n1_; clear n0_ n1_; (try clear hb); (try clear hb2); (try clear hk); (try clear hi); (try clear hge_); (try clear ho0)) | ((with_reducible refine gate_callee (f := 26) rfl ?_); refine goesL_ (some 21) rfl rfl Try.func26 (by kernel_rfl) rfl #[.slice A0 l0.length c0, .int .i64 a1] rfl (by (try simp only [List.map_toArray, List.map_cons, List.map_nil]); first | done | rfl | (simp only [List.length_drop, List.length_take]; rfl)) ?_; (with_reducible refine (rollbacknetref11_Next.calls k _ _ l0 a1 t205 t206 t207 _ ?side1 ?side2 A4.out).mono ?_); (case side1 => repeat (first | exact (Kd.C_below HR0.out HB.out) | (with_reducible refine Kd.C_alloc ?_ _) | (with_reducible refine Kd.C_drewN ?_ _) | (with_reducible refine Kd.C_drew ?_))); (case side2 => exact HC0.out); rintro e w9 ⟨v208, rfl, ho0, hb⟩; refine ⟨_, rfl, ?_⟩; have n0_ := aM (Kd.R_elder' (by (with_reducible repeat (first | apply Kd.R_alloc | apply Kd.R_drewN | apply Kd.R_drew)); exact HO204.out) (Kd.R_base ho0) hb); have n1_ := aM (Kd.R_lower (Kd.R_new' ho0 (Kd.R_lt (by (with_reducible repeat (first | apply Kd.R_alloc | apply Kd.R_drewN | apply Kd.R_drew)); exact HO204.out))) (below_size (by repeat (first | (with_reducible first | exact HB.out | apply wA | apply wN | apply wD) | exact HB.out)))); have n2_ := aM (below_step (by repeat (first | (with_reducible first | exact HB.out | apply wA | apply wN | apply wD) | exact HB.out)) hb); clear HO204; clear HB; have HO204 := n0_; have HO209 := n1_; have HB := n2_; clear n0_ n1_ n2_; (try clear hb); (try clear hb2); (try clear hk); (try clear hi); (try clear hge_); (try clear ho0); obtain ⟨Ao10, co10, eo10⟩ := Kd.R_slice HO204.out; subst eo10; obtain ⟨Ao11, co11, eo11⟩ := Kd.R_slice HO209.out; subst eo11) | (go_at_call 12; (with_reducible refine (rollbacknetref08_SameBytes.calls k _ _ t200 _ _ t205 t210 _ ?side1 ?side2 ?side3 ?side4 A7.out).mono ?_); (case side1 => repeat (first | exact (Kd.R_reads' HO204.out).2.2 | (with_reducible refine Kd.C_alloc ?_ _) | (with_reducible refine Kd.C_drewN ?_ _) | (with_reducible refine Kd.C_drew ?_))); (case side2 => exact (Kd.R_reads' HO204.out).2.1); (case side3 => repeat (first | exact (Kd.R_reads' HO209.out).2.2 | (with_reducible refine Kd.C_alloc ?_ _) | (with_reducible refine Kd.C_drewN ?_ _) | (with_reducible refine Kd.C_drew ?_))); (case side4 => exact (Kd.R_reads' HO209.out).2.1); rintro e w' ⟨rfl, ⟨nd, rfl⟩⟩))
   go_ret
   exact ⟨by first | rfl | (simp [errW_none, errW_some] <;> rfl) | (simp [*, errW_none, errW_some] <;> rfl), by repeat (first | (with_reducible first | exact HB.out | apply wA | apply wN | apply wD) | exact HB.out)⟩
  ·rw [if_neg c6] at H
   have c6b0 : (t201 == t206) = false := beq_eq_false_iff_ne.mpr c6
   have c6b1 : (t201 != t206) = true := bne_iff_ne.mpr c6
   obtain rfl := Option.some.inj H
   go_enter Try.func15, Try.ntmps15
   go_wp2_with (first | ((with_reducible refine gate_callee (f := 17) rfl ?_); refine goesL_ (some 14) rfl rfl Try.func17 (by kernel_rfl) rfl #[.slice A0 l0.length c0, .int .i64 a1] rfl (by (try simp only [List.map_toArray, List.map_cons, List.map_nil]); first | done | rfl | (simp only [List.length_drop, List.length_take]; rfl)) ?_; (with_reducible refine (frame_Next.calls k _ _ l0 a1 t200 t201 t202 _ ?side1 ?side2 A3.out).mono ?_); (case side1 => repeat (first | exact HR0.out | (with_reducible refine Kd.C_alloc ?_ _) | (with_reducible refine Kd.C_drewN ?_ _) | (with_reducible refine Kd.C_drew ?_))); (case side2 => exact HC0.out); rintro e w12 ⟨v203, rfl, ho0, hb⟩; refine ⟨_, rfl, ?_⟩; have n0_ := aM (Kd.R_lower ho0 (below_size (by repeat (first | (with_reducible first | exact HB.out | apply wA | apply wN | apply wD) | exact HB.out)))); have n1_ := aM (below_step (by repeat (first | (with_reducible first | exact HB.out | apply wA | apply wN | apply wD) | exact HB.out)) hb); clear HB; have HO204 := n0_; have HB := n1_; clear n0_ n1_; (try clear hb); (try clear hb2); (try clear hk); (try clear hi); (try clear hge_); (try clear ho0)) | ((with_reducible refine gate_callee (f := 26) rfl ?_); refine goesL_ (some 21) rfl rfl Try.func26 (by kernel_rfl) rfl #[.slice A0 l0.length c0, .int .i64 a1] rfl (by (try simp only [List.map_toArray, List.map_cons, List.map_nil]); first | done | rfl | (simp only [List.length_drop, List.length_take]; rfl)) ?_; (with_reducible refine (rollbacknetref11_Next.calls k _ _ l0 a1 t205 t206 t207 _ ?side1 ?side2 A4.out).mono ?_); (case side1 => repeat (first | exact (Kd.C_below HR0.out HB.out) | (with_reducible refine Kd.C_alloc ?_ _) | (with_reducible refine Kd.C_drewN ?_ _) | (with_reducible refine Kd.C_drew ?_))); (case side2 => exact HC0.out); rintro e w13 ⟨v208, rfl, ho0, hb⟩; refine ⟨_, rfl, ?_⟩; have n0_ := aM (Kd.R_elder' (by (with_reducible repeat (first | apply Kd.R_alloc | apply Kd.R_drewN | apply Kd.R_drew)); exact HO204.out) (Kd.R_base ho0) hb); have n1_ := aM (Kd.R_lower (Kd.R_new' ho0 (Kd.R_lt (by (with_reducible repeat (first | apply Kd.R_alloc | apply Kd.R_drewN | apply Kd.R_drew)); exact HO204.out))) (below_size (by repeat (first | (with_reducible first | exact HB.out | apply wA | apply wN | apply wD) | exact HB.out)))); have n2_ := aM (below_step (by repeat (first | (with_reducible first | exact HB.out | apply wA | apply wN | apply wD) | exact HB.out)) hb); clear HO204; clear HB; have HO204 := n0_; have HO209 := n1_; have HB := n2_; clear n0_ n1_ n2_; (try clear hb); (try clear hb2); (try clear hk); (try clear hi); (try clear hge_); (try clear ho0)))
   go_ret
   exact ⟨by first | rfl | (simp [errW_none, errW_some] <;> rfl) | (simp [*, errW_none, errW_some] <;> rfl), by repeat (first | (with_reducible first | exact HB.out | apply wA | apply wN | apply wD) | exact HB.out)⟩
 ·rw [if_neg c5] at H
  have c5b0 : (t202 == t207) = false := beq_eq_false_iff_ne.mpr c5
  have c5b1 : (t202 != t207) = true := bne_iff_ne.mpr c5
  obtain rfl := Option.some.inj H
  go_enter Try.func15, Try.ntmps15
  go_wp2_with (first | ((with_reducible refine gate_callee (f := 17) rfl ?_); refine goesL_ (some 14) rfl rfl Try.func17 (by kernel_rfl) rfl #[.slice A0 l0.length c0, .int .i64 a1] rfl (by (try simp only [List.map_toArray, List.map_cons, List.map_nil]); first | done | rfl | (simp only [List.length_drop, List.length_take]; rfl)) ?_; (with_reducible refine (frame_Next.calls k _ _ l0 a1 t200 t201 t202 _ ?side1 ?side2 A3.out).mono ?_); (case side1 => repeat (first | exact HR0.out | (with_reducible refine Kd.C_alloc ?_ _) | (with_reducible refine Kd.C_drewN ?_ _) | (with_reducible refine Kd.C_drew ?_))); (case side2 => exact HC0.out); rintro e w14 ⟨v203, rfl, ho0, hb⟩; refine ⟨_, rfl, ?_⟩; have n0_ := aM (Kd.R_lower ho0 (below_size (by repeat (first | (with_reducible first | exact HB.out | apply wA | apply wN | apply wD) | exact HB.out)))); have n1_ := aM (below_step (by repeat (first | (with_reducible first | exact HB.out | apply wA | apply wN | apply wD) | exact HB.out)) hb); clear HB; have HO204 := n0_; have HB := n1_; clear n0_ n1_; (try clear hb); (try clear hb2); (try clear hk); (try clear hi); (try clear hge_); (try clear ho0)) | ((with_reducible refine gate_callee (f := 26) rfl ?_); refine goesL_ (some 21) rfl rfl Try.func26 (by kernel_rfl) rfl #[.slice A0 l0.length c0, .int .i64 a1] rfl (by (try simp only [List.map_toArray, List.map_cons, List.map_nil]); first | done | rfl | (simp only [List.length_drop, List.length_take]; rfl)) ?_; (with_reducible refine (rollbacknetref11_Next.calls k _ _ l0 a1 t205 t206 t207 _ ?side1 ?side2 A4.out).mono ?_); (case side1 => repeat (first | exact (Kd.C_below HR0.out HB.out) | (with_reducible refine Kd.C_alloc ?_ _) | (with_reducible refine Kd.C_drewN ?_ _) | (with_reducible refine Kd.C_drew ?_))); (case side2 => exact HC0.out); rintro e w15 ⟨v208, rfl, ho0, hb⟩; refine ⟨_, rfl, ?_⟩; have n0_ := aM (Kd.R_elder' (by (with_reducible repeat (first | apply Kd.R_alloc | apply Kd.R_drewN | apply Kd.R_drew)); exact HO204.out) (Kd.R_base ho0) hb); have n1_ := aM (Kd.R_lower (Kd.R_new' ho0 (Kd.R_lt (by (with_reducible repeat (first | apply Kd.R_alloc | apply Kd.R_drewN | apply Kd.R_drew)); exact HO204.out))) (below_size (by repeat (first | (with_reducible first | exact HB.out | apply wA | apply wN | apply wD) | exact HB.out)))); have n2_ := aM (below_step (by repeat (first | (with_reducible first | exact HB.out | apply wA | apply wN | apply wD) | exact HB.out)) hb); clear HO204; clear HB; have HO204 := n0_; have HO209 := n1_; have HB := n2_; clear n0_ n1_ n2_; (try clear hb); (try clear hb2); (try clear hk); (try clear hi); (try clear hge_); (try clear ho0)))
  go_ret
  exact ⟨by first | rfl | (simp [errW_none, errW_some] <;> rfl) | (simp [*, errW_none, errW_some] <;> rfl), by repeat (first | (with_reducible first | exact HB.out | apply wA | apply wN | apply wD) | exact HB.out)⟩

/-! ### rollbacknetmake_Mod: function 16 -/
def rollbacknetmake_Mod.f (a0 : Int) (a1 : Int) : Option (Int) := if a1 = 0 then (none) else (if (Int.tmod a0 a1) < 0 then (some (wrap64 ((Int.tmod a0 a1) + a1))) else (some (Int.tmod a0 a1)))
set_option maxHeartbeats 8000000 in
set_option maxRecDepth 100000 in
theorem rollbacknetmake_Mod.calls (a0 : Int) (a1 : Int) (r : Int) (w : World) (h : rollbacknetmake_Mod.f a0 a1 = some r) :
  Calls Try.prog 16 #[.int .i64 a0, .int .i64 a1] w fun e w' => e = .returned (.int .i64 r) ∧ Drawn0 w w' := by
 have H : (if a1 = 0 then (none) else (if (Int.tmod a0 a1) < 0 then (some (wrap64 ((Int.tmod a0 a1) + a1))) else (some (Int.tmod a0 a1)))) = some r := h
 clear h
 by_cases c3 : a1 = 0
 ·rw [if_pos c3] at H
  exact absurd H (by simp)
 ·rw [if_neg c3] at H
  have c3b0 : (a1 == 0) = false := beq_eq_false_iff_ne.mpr c3
  have c3b1 : (a1 != 0) = true := bne_iff_ne.mpr c3
  by_cases c4 : (Int.tmod a0 a1) < 0
  ·rw [if_pos c4] at H
   have c4b0 : decide ((Int.tmod a0 a1) < 0) = true := decide_eq_true c4
   clear c4
   obtain rfl := Option.some.inj H
   go_enter Try.func16, Try.ntmps16
   go_wp2
   go_ret
   exact ⟨by first | rfl | (simp; done) | (simp [*]; done), by repeat (first | exact Drawn0.refl _ | apply Drawn0.step)⟩
  ·rw [if_neg c4] at H
   have c4b0 : decide ((Int.tmod a0 a1) < 0) = false := decide_eq_false c4
   clear c4
   obtain rfl := Option.some.inj H
   go_enter Try.func16, Try.ntmps16
   go_wp2
   go_ret
   exact ⟨by first | rfl | (simp; done) | (simp [*]; done), by repeat (first | exact Drawn0.refl _ | apply Drawn0.step)⟩

end Go.Proofs.Ytmlphabhldahlaa.PFk
