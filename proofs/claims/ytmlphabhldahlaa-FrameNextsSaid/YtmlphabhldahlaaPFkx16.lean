-- Laid by wip/tools/xprint.py, a program of this session over the kit's print: functions as Lean functions, each with its contract.
import Derived.Test.YtmlphabhldahlaaPFkx0
import Derived.Test.YtmlphabhldahlaaPFkx5
import Derived.Test.YtmlphabhldahlaaPFkx8
import Derived.Test.YtmlphabhldahlaaPFkx11
import Derived.Test.YtmlphabhldahlaaPFkx15
namespace Go.Proofs.Ytmlphabhldahlaa.PFk
open Go.RowKit Go.Proofs.YtmlphabhldahlaaW.PrintWords Go.Proofs.YtmlphabhldahlaaW.PrintLast Go.Proofs.YtmlphabhldahlaaW.PrintMore
attribute [local go_sem] max2_int min2_int max_two min_two max_three min_three max_four min_four   -- for this text's walks alone
set_option linter.unusedVariables false
set_option linter.unusedSimpArgs false

/-! ### rollbacknetlaw11_FrameNexts: function 4 -/
def rollbacknetlaw11_FrameNexts.j0 : Nat → Int → Int → List Int → Bool → Option (Bool)
 | 0, _, _, _, _ => none
 | k + 1, x3, x4, x11, x50 => if x50 = true then (some false) else (if (x11.length : Int) = 0 then (some true) else (if ([] : List Int).length + x11.length < 140737488355328 then ((some (([] : List Int) ++ x11 : List Int)).bind fun y224 => ((rollbacknetmake_Mod.f x3 (y224.length : Int)).bind fun t227 => (if 0 ≤ t227 then (if t227 < (y224.length : Int) then ((rollbacknetlaw11_same.f k (y224.set (t227 : Int).toNat (Go.bits .xor .u8 (rd y224 t227) x4)) 0).bind fun t230 => (if t230 = true then ((rollbacknetmake_Mod.f x3 (x11.length : Int)).bind fun t231 => (if 0 ≤ t231 then (if t231 ≤ (x11.length : Int) then ((rollbacknetlaw11_same.f k (x11.take (t231 : Int).toNat) 0).bind fun t236 => (some t236)) else (none)) else (none))) else (some false))) else (none)) else (none)))) else (none)))
def rollbacknetlaw11_FrameNexts.f (k : Nat) (l0 : List Int) (a1 : Int) (l2 : List Int) (a3 : Int) (a4 : Int) : Option (Bool) := (rollbacknetlaw11_awake.f k).bind fun t211 => (if t211 = true then (if (l0.length : Int) > 2000 then (some true) else ((rollbacknetlaw11_bodies.f k l2).bind fun t212 => ((rollbacknetlaw11_seal.f k t212).bind fun t215 => ((rollbacknetlaw11_same.f k l0 a1).bind fun t218 => (if t218 = true then ((rollbacknetmake_Mod.f a1 (wrap64 ((l0.length : Int) + 1))).bind fun t219 => ((rollbacknetlaw11_same.f k l0 t219).bind fun t220 => (if t220 = true then ((rollbacknetmake_Mod.f a1 (wrap64 ((t215.length : Int) + 1))).bind fun t221 => ((rollbacknetlaw11_same.f k t215 t221).bind fun t222 => (if t222 = true then ((rollbacknetlaw11_same.f k t215 a1).bind fun t223 => (rollbacknetlaw11_FrameNexts.j0 k a3 a4 t215 (!t223))) else (rollbacknetlaw11_FrameNexts.j0 k a3 a4 t215 true)))) else (rollbacknetlaw11_FrameNexts.j0 k a3 a4 t215 true)))) else (rollbacknetlaw11_FrameNexts.j0 k a3 a4 t215 true)))))) else (some false))
theorem rollbacknetlaw11_FrameNexts.mono_l : ∀ k, (∀ y0 y1 y2 y3, LeO (rollbacknetlaw11_FrameNexts.j0 k y0 y1 y2 y3) (rollbacknetlaw11_FrameNexts.j0 (k + 1) y0 y1 y2 y3))
 | 0 => fun _ _ _ _ r h => by simp [rollbacknetlaw11_FrameNexts.j0] at h
 | k + 1 => by
  have ih0 := rollbacknetlaw11_FrameNexts.mono_l k
  ·intro y0 y1 y2 y3
   unfold rollbacknetlaw11_FrameNexts.j0
   repeat' first
   | (with_reducible exact ih0 _ _ _ _)
   | (with_reducible exact rollbacknetlaw11_awake.mono _)
   | (with_reducible exact rollbacknetlaw11_bodies.mono _ _)
   | (with_reducible exact rollbacknetlaw11_same.mono _ _ _)
   | (with_reducible exact rollbacknetlaw11_seal.mono _ _)
   | (with_reducible exact LeO.refl _)
   | (with_reducible exact LeO.none _)
   | (with_reducible refine LeO.ite ?_ ?_)
   | (with_reducible refine LeO.bind ?_ (fun _ => ?_))
   | exact ih0 _ _ _ _
   | exact rollbacknetlaw11_awake.mono _
   | exact rollbacknetlaw11_bodies.mono _ _
   | exact rollbacknetlaw11_same.mono _ _ _
   | exact rollbacknetlaw11_seal.mono _ _
   | exact LeO.none _
   | refine LeO.ite ?_ ?_
   | refine LeO.bind ?_ (fun _ => ?_)
theorem rollbacknetlaw11_FrameNexts.mono : ∀ a0 a1 a2 a3 a4 k, LeO (rollbacknetlaw11_FrameNexts.f k a0 a1 a2 a3 a4) (rollbacknetlaw11_FrameNexts.f (k + 1) a0 a1 a2 a3 a4) := by
 intro a0 a1 a2 a3 a4 k
 have ih0 := rollbacknetlaw11_FrameNexts.mono_l k
 unfold rollbacknetlaw11_FrameNexts.f
 repeat' first
   | (with_reducible exact ih0 _ _ _ _)
   | (with_reducible exact rollbacknetlaw11_awake.mono _)
   | (with_reducible exact rollbacknetlaw11_bodies.mono _ _)
   | (with_reducible exact rollbacknetlaw11_same.mono _ _ _)
   | (with_reducible exact rollbacknetlaw11_seal.mono _ _)
   | (with_reducible exact LeO.refl _)
   | (with_reducible exact LeO.none _)
   | (with_reducible refine LeO.ite ?_ ?_)
   | (with_reducible refine LeO.bind ?_ (fun _ => ?_))
   | exact ih0 _ _ _ _
   | exact rollbacknetlaw11_awake.mono _
   | exact rollbacknetlaw11_bodies.mono _ _
   | exact rollbacknetlaw11_same.mono _ _ _
   | exact rollbacknetlaw11_seal.mono _ _
   | exact LeO.none _
   | refine LeO.ite ?_ ?_
   | refine LeO.bind ?_ (fun _ => ?_)
set_option maxHeartbeats 8000000 in
set_option maxRecDepth 100000 in
theorem rollbacknetlaw11_FrameNexts.calls (k : Nat) (A0 : Option Addr) (c0 : Nat) (l0 : List Int) (a1 : Int) (A2 : Option Addr) (c2 : Nat) (l2 : List Int) (a3 : Int) (a4 : Int) (r : Bool) (w : World) (hr0 : Kd.C (Kd.int .u8) w A0 l0.length l0) (hc0 : l0.length ≤ c0) (hr2 : Kd.C (Kd.int .u8) w A2 l2.length l2) (hc2 : l2.length ≤ c2) (h : rollbacknetlaw11_FrameNexts.f k l0 a1 l2 a3 a4 = some r) :
  Calls Try.prog 4 #[.slice A0 l0.length c0, .int .i64 a1, .slice A2 l2.length c2, .int .i64 a3, .int .u8 a4] w fun e w' => e = .returned (.bool r) ∧ Below w.heap.size w w' := by
 have HR0 := aM hr0
 have HC0 := aM hc0
 clear hr0 hc0
 have HR2 := aM hr2
 have HC2 := aM hc2
 clear hr2 hc2
 have HB := aM (Below.refl w.heap.size w)
 have H : ((rollbacknetlaw11_awake.f k).bind fun t211 => (if t211 = true then (if (l0.length : Int) > 2000 then (some true) else ((rollbacknetlaw11_bodies.f k l2).bind fun t212 => ((rollbacknetlaw11_seal.f k t212).bind fun t215 => ((rollbacknetlaw11_same.f k l0 a1).bind fun t218 => (if t218 = true then ((rollbacknetmake_Mod.f a1 (wrap64 ((l0.length : Int) + 1))).bind fun t219 => ((rollbacknetlaw11_same.f k l0 t219).bind fun t220 => (if t220 = true then ((rollbacknetmake_Mod.f a1 (wrap64 ((t215.length : Int) + 1))).bind fun t221 => ((rollbacknetlaw11_same.f k t215 t221).bind fun t222 => (if t222 = true then ((rollbacknetlaw11_same.f k t215 a1).bind fun t223 => (rollbacknetlaw11_FrameNexts.j0 k a3 a4 t215 (!t223))) else (rollbacknetlaw11_FrameNexts.j0 k a3 a4 t215 true)))) else (rollbacknetlaw11_FrameNexts.j0 k a3 a4 t215 true)))) else (rollbacknetlaw11_FrameNexts.j0 k a3 a4 t215 true)))))) else (some false))) = some r := h
 clear h
 replace H := Option.bind_eq_some_iff.mp H
 obtain ⟨t211, A60, H⟩ := H
 replace H : (if t211 = true then (if (l0.length : Int) > 2000 then (some true) else ((rollbacknetlaw11_bodies.f k l2).bind fun t212 => ((rollbacknetlaw11_seal.f k t212).bind fun t215 => ((rollbacknetlaw11_same.f k l0 a1).bind fun t218 => (if t218 = true then ((rollbacknetmake_Mod.f a1 (wrap64 ((l0.length : Int) + 1))).bind fun t219 => ((rollbacknetlaw11_same.f k l0 t219).bind fun t220 => (if t220 = true then ((rollbacknetmake_Mod.f a1 (wrap64 ((t215.length : Int) + 1))).bind fun t221 => ((rollbacknetlaw11_same.f k t215 t221).bind fun t222 => (if t222 = true then ((rollbacknetlaw11_same.f k t215 a1).bind fun t223 => (rollbacknetlaw11_FrameNexts.j0 k a3 a4 t215 (!t223))) else (rollbacknetlaw11_FrameNexts.j0 k a3 a4 t215 true)))) else (rollbacknetlaw11_FrameNexts.j0 k a3 a4 t215 true)))) else (rollbacknetlaw11_FrameNexts.j0 k a3 a4 t215 true)))))) else (some false)) = some r := H
 have A6 := aM A60
 clear A60
 by_cases c7 : t211 = true
 ·subst c7
  have H1 : (if (l0.length : Int) > 2000 then (some true) else ((rollbacknetlaw11_bodies.f k l2).bind fun t212 => ((rollbacknetlaw11_seal.f k t212).bind fun t215 => ((rollbacknetlaw11_same.f k l0 a1).bind fun t218 => (if t218 = true then ((rollbacknetmake_Mod.f a1 (wrap64 ((l0.length : Int) + 1))).bind fun t219 => ((rollbacknetlaw11_same.f k l0 t219).bind fun t220 => (if t220 = true then ((rollbacknetmake_Mod.f a1 (wrap64 ((t215.length : Int) + 1))).bind fun t221 => ((rollbacknetlaw11_same.f k t215 t221).bind fun t222 => (if t222 = true then ((rollbacknetlaw11_same.f k t215 a1).bind fun t223 => (rollbacknetlaw11_FrameNexts.j0 k a3 a4 t215 (!t223))) else (rollbacknetlaw11_FrameNexts.j0 k a3 a4 t215 true)))) else (rollbacknetlaw11_FrameNexts.j0 k a3 a4 t215 true)))) else (rollbacknetlaw11_FrameNexts.j0 k a3 a4 t215 true)))))) = some r := by rw [if_pos rfl] at H; exact H
  clear H
  have H := H1
  clear H1
  by_cases c8 : (l0.length : Int) > 2000
  ·rw [if_pos c8] at H
   have c8b0 : decide (2000 < (l0.length : Int)) = true := decide_eq_true c8
   have c8b1 : decide (2000 < l0.length) = true := decide_eq_true (by omega)
   clear c8
   obtain rfl := Option.some.inj H
   go_enter Try.func4, Try.ntmps4
   go_wp2_with (first | ((with_reducible refine gate_callee (f := 9) rfl ?_); refine goesL_ (some 13) rfl rfl Try.func9 (by kernel_rfl) rfl #[] rfl (by (try simp only [List.map_toArray, List.map_cons, List.map_nil]); first | done | rfl | (simp only [List.length_drop, List.length_take]; rfl)) ?_; (with_reducible refine (rollbacknetlaw11_awake.calls k  true _ A6.out).mono ?_); rintro e w9 ⟨rfl, hb⟩; refine ⟨_, rfl, ?_⟩; have n0_ := aM (below_step (by repeat (first | (with_reducible first | exact HB.out | apply wA | apply wN | apply wD) | exact HB.out)) hb); clear HB; have HB := n0_; clear n0_; (try clear hb); (try clear hb2); (try clear hk); (try clear hi); (try clear hge_)))
   go_ret
   exact ⟨by first | rfl | (simp [errW_none, errW_some] <;> rfl) | (simp [*, errW_none, errW_some] <;> rfl), by repeat (first | (with_reducible first | exact HB.out | apply wA | apply wN | apply wD) | exact HB.out)⟩
  ·rw [if_neg c8] at H
   have c8b0 : decide (2000 < (l0.length : Int)) = false := decide_eq_false c8
   have c8b1 : decide (2000 < l0.length) = false := decide_eq_false (by omega)
   clear c8
   replace H := Option.bind_eq_some_iff.mp H
   obtain ⟨t212, A100, H⟩ := H
   replace H : ((rollbacknetlaw11_seal.f k t212).bind fun t215 => ((rollbacknetlaw11_same.f k l0 a1).bind fun t218 => (if t218 = true then ((rollbacknetmake_Mod.f a1 (wrap64 ((l0.length : Int) + 1))).bind fun t219 => ((rollbacknetlaw11_same.f k l0 t219).bind fun t220 => (if t220 = true then ((rollbacknetmake_Mod.f a1 (wrap64 ((t215.length : Int) + 1))).bind fun t221 => ((rollbacknetlaw11_same.f k t215 t221).bind fun t222 => (if t222 = true then ((rollbacknetlaw11_same.f k t215 a1).bind fun t223 => (rollbacknetlaw11_FrameNexts.j0 k a3 a4 t215 (!t223))) else (rollbacknetlaw11_FrameNexts.j0 k a3 a4 t215 true)))) else (rollbacknetlaw11_FrameNexts.j0 k a3 a4 t215 true)))) else (rollbacknetlaw11_FrameNexts.j0 k a3 a4 t215 true)))) = some r := H
   have A10 := aM A100
   clear A100
   replace H := Option.bind_eq_some_iff.mp H
   obtain ⟨t215, A110, H⟩ := H
   replace H : ((rollbacknetlaw11_same.f k l0 a1).bind fun t218 => (if t218 = true then ((rollbacknetmake_Mod.f a1 (wrap64 ((l0.length : Int) + 1))).bind fun t219 => ((rollbacknetlaw11_same.f k l0 t219).bind fun t220 => (if t220 = true then ((rollbacknetmake_Mod.f a1 (wrap64 ((t215.length : Int) + 1))).bind fun t221 => ((rollbacknetlaw11_same.f k t215 t221).bind fun t222 => (if t222 = true then ((rollbacknetlaw11_same.f k t215 a1).bind fun t223 => (rollbacknetlaw11_FrameNexts.j0 k a3 a4 t215 (!t223))) else (rollbacknetlaw11_FrameNexts.j0 k a3 a4 t215 true)))) else (rollbacknetlaw11_FrameNexts.j0 k a3 a4 t215 true)))) else (rollbacknetlaw11_FrameNexts.j0 k a3 a4 t215 true))) = some r := H
   have A11 := aM A110
   clear A110
   have HC12 := aM H
   clear H
   go_enter Try.func4, Try.ntmps4
   go_upto_region 6 with (first | ((with_reducible refine gate_callee (f := 9) rfl ?_); refine goesL_ (some 13) rfl rfl Try.func9 (by kernel_rfl) rfl #[] rfl (by (try simp only [List.map_toArray, List.map_cons, List.map_nil]); first | done | rfl | (simp only [List.length_drop, List.length_take]; rfl)) ?_; (with_reducible refine (rollbacknetlaw11_awake.calls k  true _ A6.out).mono ?_); rintro e w13 ⟨rfl, hb⟩; refine ⟨_, rfl, ?_⟩; have n0_ := aM (below_step (by repeat (first | (with_reducible first | exact HB.out | apply wA | apply wN | apply wD) | exact HB.out)) hb); clear HB; have HB := n0_; clear n0_; (try clear hb); (try clear hb2); (try clear hk); (try clear hi); (try clear hge_)) | ((with_reducible refine gate_callee (f := 14) rfl ?_); refine goesL_ (some 19) rfl rfl Try.func14 (by kernel_rfl) rfl #[.slice A2 l2.length c2] rfl (by (try simp only [List.map_toArray, List.map_cons, List.map_nil]); first | done | rfl | (simp only [List.length_drop, List.length_take]; rfl)) ?_; (with_reducible refine (rollbacknetlaw11_bodies.calls k _ _ l2 t212 _ ?side1 ?side2 A10.out).mono ?_); (case side1 => repeat (first | exact (Kd.C_below HR2.out HB.out) | (with_reducible refine Kd.C_alloc ?_ _) | (with_reducible refine Kd.C_drewN ?_ _) | (with_reducible refine Kd.C_drew ?_))); (case side2 => exact HC2.out); rintro e w14 ⟨v213, rfl, ho0, hb⟩; refine ⟨_, rfl, ?_⟩; have n0_ := aM (Kd.S_lower ho0 (below_size (by repeat (first | (with_reducible first | exact HB.out | apply wA | apply wN | apply wD) | exact HB.out)))); have n1_ := aM (below_step (by repeat (first | (with_reducible first | exact HB.out | apply wA | apply wN | apply wD) | exact HB.out)) hb); clear HB; have HO214 := n0_; have HB := n1_; clear n0_ n1_; (try clear hb); (try clear hb2); (try clear hk); (try clear hi); (try clear hge_); (try clear ho0); obtain ⟨Ao15, co15, eo15⟩ := Kd.S_slice HO214.out; subst eo15) | ((with_reducible refine gate_callee (f := 13) rfl ?_); refine goesL_ (some 20) rfl rfl Try.func13 (by kernel_rfl) rfl #[.slice Ao15 t212.length co15] rfl (by (try simp only [List.map_toArray, List.map_cons, List.map_nil]); first | done | rfl | (simp only [List.length_drop, List.length_take]; rfl)) ?_; (with_reducible refine (rollbacknetlaw11_seal.calls k _ _ t212 t215 _ ?side1 ?side2 A11.out).mono ?_); (case side1 => repeat (first | exact (Kd.S_reads' HO214.out).2.2 | (with_reducible refine Kd.C_alloc ?_ _) | (with_reducible refine Kd.C_drewN ?_ _) | (with_reducible refine Kd.C_drew ?_))); (case side2 => exact (Kd.S_reads' HO214.out).2.1); rintro e w16 ⟨v216, rfl, ho0, hb⟩; refine ⟨_, rfl, ?_⟩; have n0_ := aM (Kd.S_elder' (by (with_reducible repeat (first | apply Kd.S_alloc | apply Kd.S_drewN | apply Kd.S_drew)); exact HO214.out) (Kd.R_base ho0) hb); have n1_ := aM (Kd.R_lower ho0 (below_size (by repeat (first | (with_reducible first | exact HB.out | apply wA | apply wN | apply wD) | exact HB.out)))); have n2_ := aM (below_step (by repeat (first | (with_reducible first | exact HB.out | apply wA | apply wN | apply wD) | exact HB.out)) hb); clear HO214; clear HB; have HO214 := n0_; have HO217 := n1_; have HB := n2_; clear n0_ n1_ n2_; (try clear hb); (try clear hb2); (try clear hk); (try clear hi); (try clear hge_); (try clear ho0)))
   (try simp only [Act.put, List.setIfInBounds_toArray, List.set_cons_zero, List.set_cons_succ])
   go_cut [50] (fun v50 wc => ∃ (kq : Nat) (x50_11 : Bool), v50 = .bool x50_11 ∧ Aside0 (rollbacknetlaw11_FrameNexts.j0 kq a3 a4 t215 x50_11 = some r) ∧ Aside0 (kq ≤ k) ∧ Aside0 (Kd.R (Kd.int .u8) 5 wc w.heap.size (fun _ => True) v216 t215) ∧ Aside0 (Below w.heap.size w wc))
   case first =>
    have H := HC12.out
    clear HC12
    replace H := Option.bind_eq_some_iff.mp H
    obtain ⟨t218, A170, H⟩ := H
    replace H : (if t218 = true then ((rollbacknetmake_Mod.f a1 (wrap64 ((l0.length : Int) + 1))).bind fun t219 => ((rollbacknetlaw11_same.f k l0 t219).bind fun t220 => (if t220 = true then ((rollbacknetmake_Mod.f a1 (wrap64 ((t215.length : Int) + 1))).bind fun t221 => ((rollbacknetlaw11_same.f k t215 t221).bind fun t222 => (if t222 = true then ((rollbacknetlaw11_same.f k t215 a1).bind fun t223 => (rollbacknetlaw11_FrameNexts.j0 k a3 a4 t215 (!t223))) else (rollbacknetlaw11_FrameNexts.j0 k a3 a4 t215 true)))) else (rollbacknetlaw11_FrameNexts.j0 k a3 a4 t215 true)))) else (rollbacknetlaw11_FrameNexts.j0 k a3 a4 t215 true)) = some r := H
    have A17 := aM A170
    clear A170
    by_cases c18 : t218 = true
    ·subst c18
     have H1 : ((rollbacknetmake_Mod.f a1 (wrap64 ((l0.length : Int) + 1))).bind fun t219 => ((rollbacknetlaw11_same.f k l0 t219).bind fun t220 => (if t220 = true then ((rollbacknetmake_Mod.f a1 (wrap64 ((t215.length : Int) + 1))).bind fun t221 => ((rollbacknetlaw11_same.f k t215 t221).bind fun t222 => (if t222 = true then ((rollbacknetlaw11_same.f k t215 a1).bind fun t223 => (rollbacknetlaw11_FrameNexts.j0 k a3 a4 t215 (!t223))) else (rollbacknetlaw11_FrameNexts.j0 k a3 a4 t215 true)))) else (rollbacknetlaw11_FrameNexts.j0 k a3 a4 t215 true)))) = some r := by rw [if_pos rfl] at H; exact H
     clear H
     have H := H1
     clear H1
     replace H := Option.bind_eq_some_iff.mp H
     obtain ⟨t219, A190, H⟩ := H
     replace H : ((rollbacknetlaw11_same.f k l0 t219).bind fun t220 => (if t220 = true then ((rollbacknetmake_Mod.f a1 (wrap64 ((t215.length : Int) + 1))).bind fun t221 => ((rollbacknetlaw11_same.f k t215 t221).bind fun t222 => (if t222 = true then ((rollbacknetlaw11_same.f k t215 a1).bind fun t223 => (rollbacknetlaw11_FrameNexts.j0 k a3 a4 t215 (!t223))) else (rollbacknetlaw11_FrameNexts.j0 k a3 a4 t215 true)))) else (rollbacknetlaw11_FrameNexts.j0 k a3 a4 t215 true))) = some r := H
     have A19 := aM A190
     clear A190
     replace H := Option.bind_eq_some_iff.mp H
     obtain ⟨t220, A200, H⟩ := H
     replace H : (if t220 = true then ((rollbacknetmake_Mod.f a1 (wrap64 ((t215.length : Int) + 1))).bind fun t221 => ((rollbacknetlaw11_same.f k t215 t221).bind fun t222 => (if t222 = true then ((rollbacknetlaw11_same.f k t215 a1).bind fun t223 => (rollbacknetlaw11_FrameNexts.j0 k a3 a4 t215 (!t223))) else (rollbacknetlaw11_FrameNexts.j0 k a3 a4 t215 true)))) else (rollbacknetlaw11_FrameNexts.j0 k a3 a4 t215 true)) = some r := H
     have A20 := aM A200
     clear A200
     by_cases c21 : t220 = true
     ·subst c21
      have H1 : ((rollbacknetmake_Mod.f a1 (wrap64 ((t215.length : Int) + 1))).bind fun t221 => ((rollbacknetlaw11_same.f k t215 t221).bind fun t222 => (if t222 = true then ((rollbacknetlaw11_same.f k t215 a1).bind fun t223 => (rollbacknetlaw11_FrameNexts.j0 k a3 a4 t215 (!t223))) else (rollbacknetlaw11_FrameNexts.j0 k a3 a4 t215 true)))) = some r := by rw [if_pos rfl] at H; exact H
      clear H
      have H := H1
      clear H1
      replace H := Option.bind_eq_some_iff.mp H
      obtain ⟨t221, A220, H⟩ := H
      replace H : ((rollbacknetlaw11_same.f k t215 t221).bind fun t222 => (if t222 = true then ((rollbacknetlaw11_same.f k t215 a1).bind fun t223 => (rollbacknetlaw11_FrameNexts.j0 k a3 a4 t215 (!t223))) else (rollbacknetlaw11_FrameNexts.j0 k a3 a4 t215 true))) = some r := H
      have A22 := aM A220
      clear A220
      replace H := Option.bind_eq_some_iff.mp H
      obtain ⟨t222, A230, H⟩ := H
      replace H : (if t222 = true then ((rollbacknetlaw11_same.f k t215 a1).bind fun t223 => (rollbacknetlaw11_FrameNexts.j0 k a3 a4 t215 (!t223))) else (rollbacknetlaw11_FrameNexts.j0 k a3 a4 t215 true)) = some r := H
      have A23 := aM A230
      clear A230
      by_cases c24 : t222 = true
      ·subst c24
       have H1 : ((rollbacknetlaw11_same.f k t215 a1).bind fun t223 => (rollbacknetlaw11_FrameNexts.j0 k a3 a4 t215 (!t223))) = some r := by rw [if_pos rfl] at H; exact H
       clear H
       have H := H1
       clear H1
       replace H := Option.bind_eq_some_iff.mp H
       obtain ⟨t223, A250, H⟩ := H
       replace H : (rollbacknetlaw11_FrameNexts.j0 k a3 a4 t215 (!t223)) = some r := H
       have A25 := aM A250
       clear A250
       have H' := aM H
       clear H
       go_wp2_with (first | ((with_reducible refine gate_callee (f := 15) rfl ?_); refine goesL_ (some 23) rfl rfl Try.func15 (by kernel_rfl) rfl #[.slice A0 l0.length c0, .int .i64 a1] rfl (by (try simp only [List.map_toArray, List.map_cons, List.map_nil]); first | done | rfl | (simp only [List.length_drop, List.length_take]; rfl)) ?_; (with_reducible refine (rollbacknetlaw11_same.calls k _ _ l0 a1 true _ ?side1 ?side2 A17.out).mono ?_); (case side1 => repeat (first | exact (Kd.C_below HR0.out HB.out) | (with_reducible refine Kd.C_alloc ?_ _) | (with_reducible refine Kd.C_drewN ?_ _) | (with_reducible refine Kd.C_drew ?_))); (case side2 => exact HC0.out); rintro e w26 ⟨rfl, hb⟩; refine ⟨_, rfl, ?_⟩; have n0_ := aM (Kd.S_below (by (with_reducible repeat (first | apply Kd.S_alloc | apply Kd.S_drewN | apply Kd.S_drew)); exact HO214.out) hb); have n1_ := aM (Kd.R_below (by (with_reducible repeat (first | apply Kd.R_alloc | apply Kd.R_drewN | apply Kd.R_drew)); exact HO217.out) hb); have n2_ := aM (below_step (by repeat (first | (with_reducible first | exact HB.out | apply wA | apply wN | apply wD) | exact HB.out)) hb); clear HO214; clear HO217; clear HB; have HO214 := n0_; have HO217 := n1_; have HB := n2_; clear n0_ n1_ n2_; (try clear hb); (try clear hb2); (try clear hk); (try clear hi); (try clear hge_)) | (go_at_call 16; (with_reducible refine (rollbacknetmake_Mod.calls a1 (wrap64 ((l0.length : Int) + 1)) t219 _ A19.out).mono ?_); rintro e w' ⟨rfl, ⟨nd, rfl⟩⟩) | (go_at_call 15; (with_reducible refine (rollbacknetlaw11_same.calls k _ _ l0 t219 true _ ?side1 ?side2 A20.out).mono ?_); (case side1 => repeat (first | exact (Kd.C_below HR0.out (by repeat (first | (with_reducible first | exact HB.out | apply wA | apply wN | apply wD) | exact HB.out))) | (with_reducible refine Kd.C_alloc ?_ _) | (with_reducible refine Kd.C_drewN ?_ _) | (with_reducible refine Kd.C_drew ?_))); (case side2 => exact HC0.out); rintro e w27 ⟨rfl, hb⟩; have n0_ := aM (Kd.S_below (by (with_reducible repeat (first | apply Kd.S_alloc | apply Kd.S_drewN | apply Kd.S_drew)); exact HO214.out) hb); have n1_ := aM (Kd.R_below (by (with_reducible repeat (first | apply Kd.R_alloc | apply Kd.R_drewN | apply Kd.R_drew)); exact HO217.out) hb); have n2_ := aM (below_step (by repeat (first | (with_reducible first | exact HB.out | apply wA | apply wN | apply wD) | exact HB.out)) hb); clear HO214; clear HO217; clear HB; have HO214 := n0_; have HO217 := n1_; have HB := n2_; clear n0_ n1_ n2_; (try clear hb); (try clear hb2); (try clear hk); (try clear hi); (try clear hge_); obtain ⟨Ao28, co28, eo28⟩ := Kd.R_slice HO217.out; subst eo28) | (go_at_call 16; (with_reducible refine (rollbacknetmake_Mod.calls a1 (wrap64 ((t215.length : Int) + 1)) t221 _ A22.out).mono ?_); rintro e w' ⟨rfl, ⟨nd, rfl⟩⟩) | (go_at_call 15; (with_reducible refine (rollbacknetlaw11_same.calls k _ _ t215 t221 true _ ?side1 ?side2 A23.out).mono ?_); (case side1 => repeat (first | exact (Kd.R_reads' HO217.out).2.2 | (with_reducible refine Kd.C_alloc ?_ _) | (with_reducible refine Kd.C_drewN ?_ _) | (with_reducible refine Kd.C_drew ?_))); (case side2 => exact (Kd.R_reads' HO217.out).2.1); rintro e w29 ⟨rfl, hb⟩; have n0_ := aM (Kd.S_below (by (with_reducible repeat (first | apply Kd.S_alloc | apply Kd.S_drewN | apply Kd.S_drew)); exact HO214.out) hb); have n1_ := aM (Kd.R_below (by (with_reducible repeat (first | apply Kd.R_alloc | apply Kd.R_drewN | apply Kd.R_drew)); exact HO217.out) hb); have n2_ := aM (below_step (by repeat (first | (with_reducible first | exact HB.out | apply wA | apply wN | apply wD) | exact HB.out)) hb); clear HO214; clear HO217; clear HB; have HO214 := n0_; have HO217 := n1_; have HB := n2_; clear n0_ n1_ n2_; (try clear hb); (try clear hb2); (try clear hk); (try clear hi); (try clear hge_)) | (go_at_call 15; (with_reducible refine (rollbacknetlaw11_same.calls k _ _ t215 a1 t223 _ ?side1 ?side2 A25.out).mono ?_); (case side1 => repeat (first | exact (Kd.R_reads' HO217.out).2.2 | (with_reducible refine Kd.C_alloc ?_ _) | (with_reducible refine Kd.C_drewN ?_ _) | (with_reducible refine Kd.C_drew ?_))); (case side2 => exact (Kd.R_reads' HO217.out).2.1); rintro e w30 ⟨rfl, hb⟩; have n0_ := aM (Kd.S_below (by (with_reducible repeat (first | apply Kd.S_alloc | apply Kd.S_drewN | apply Kd.S_drew)); exact HO214.out) hb); have n1_ := aM (Kd.R_below (by (with_reducible repeat (first | apply Kd.R_alloc | apply Kd.R_drewN | apply Kd.R_drew)); exact HO217.out) hb); have n2_ := aM (below_step (by repeat (first | (with_reducible first | exact HB.out | apply wA | apply wN | apply wD) | exact HB.out)) hb); clear HO214; clear HO217; clear HB; have HO214 := n0_; have HO217 := n1_; have HB := n2_; clear n0_ n1_ n2_; (try clear hb); (try clear hb2); (try clear hk); (try clear hi); (try clear hge_)))
       go_meet
       case rel => exact ⟨_, (!t223), (by first | rfl | (simp; done) | (simp [*]; done)), H', ⟨by first | omega | exact Nat.le_refl _⟩, ⟨by (with_reducible repeat (first | apply Kd.R_alloc | apply Kd.R_drewN | apply Kd.R_drew)); exact HO217.out⟩, ⟨by repeat (first | (with_reducible first | exact HB.out | apply wA | apply wN | apply wD) | exact HB.out)⟩⟩
      ·replace c24 := Bool.eq_false_iff.mpr c24
       subst c24
       have H1 : (rollbacknetlaw11_FrameNexts.j0 k a3 a4 t215 true) = some r := by rw [if_neg (show ¬ (false = true) by decide)] at H; exact H
       clear H
       have H := H1
       clear H1
       have H' := aM H
       clear H
       go_wp2_with (first | ((with_reducible refine gate_callee (f := 15) rfl ?_); refine goesL_ (some 23) rfl rfl Try.func15 (by kernel_rfl) rfl #[.slice A0 l0.length c0, .int .i64 a1] rfl (by (try simp only [List.map_toArray, List.map_cons, List.map_nil]); first | done | rfl | (simp only [List.length_drop, List.length_take]; rfl)) ?_; (with_reducible refine (rollbacknetlaw11_same.calls k _ _ l0 a1 true _ ?side1 ?side2 A17.out).mono ?_); (case side1 => repeat (first | exact (Kd.C_below HR0.out HB.out) | (with_reducible refine Kd.C_alloc ?_ _) | (with_reducible refine Kd.C_drewN ?_ _) | (with_reducible refine Kd.C_drew ?_))); (case side2 => exact HC0.out); rintro e w31 ⟨rfl, hb⟩; refine ⟨_, rfl, ?_⟩; have n0_ := aM (Kd.S_below (by (with_reducible repeat (first | apply Kd.S_alloc | apply Kd.S_drewN | apply Kd.S_drew)); exact HO214.out) hb); have n1_ := aM (Kd.R_below (by (with_reducible repeat (first | apply Kd.R_alloc | apply Kd.R_drewN | apply Kd.R_drew)); exact HO217.out) hb); have n2_ := aM (below_step (by repeat (first | (with_reducible first | exact HB.out | apply wA | apply wN | apply wD) | exact HB.out)) hb); clear HO214; clear HO217; clear HB; have HO214 := n0_; have HO217 := n1_; have HB := n2_; clear n0_ n1_ n2_; (try clear hb); (try clear hb2); (try clear hk); (try clear hi); (try clear hge_)) | (go_at_call 16; (with_reducible refine (rollbacknetmake_Mod.calls a1 (wrap64 ((l0.length : Int) + 1)) t219 _ A19.out).mono ?_); rintro e w' ⟨rfl, ⟨nd, rfl⟩⟩) | (go_at_call 15; (with_reducible refine (rollbacknetlaw11_same.calls k _ _ l0 t219 true _ ?side1 ?side2 A20.out).mono ?_); (case side1 => repeat (first | exact (Kd.C_below HR0.out (by repeat (first | (with_reducible first | exact HB.out | apply wA | apply wN | apply wD) | exact HB.out))) | (with_reducible refine Kd.C_alloc ?_ _) | (with_reducible refine Kd.C_drewN ?_ _) | (with_reducible refine Kd.C_drew ?_))); (case side2 => exact HC0.out); rintro e w32 ⟨rfl, hb⟩; have n0_ := aM (Kd.S_below (by (with_reducible repeat (first | apply Kd.S_alloc | apply Kd.S_drewN | apply Kd.S_drew)); exact HO214.out) hb); have n1_ := aM (Kd.R_below (by (with_reducible repeat (first | apply Kd.R_alloc | apply Kd.R_drewN | apply Kd.R_drew)); exact HO217.out) hb); have n2_ := aM (below_step (by repeat (first | (with_reducible first | exact HB.out | apply wA | apply wN | apply wD) | exact HB.out)) hb); clear HO214; clear HO217; clear HB; have HO214 := n0_; have HO217 := n1_; have HB := n2_; clear n0_ n1_ n2_; (try clear hb); (try clear hb2); (try clear hk); (try clear hi); (try clear hge_); obtain ⟨Ao33, co33, eo33⟩ := Kd.R_slice HO217.out; subst eo33) | (go_at_call 16; (with_reducible refine (rollbacknetmake_Mod.calls a1 (wrap64 ((t215.length : Int) + 1)) t221 _ A22.out).mono ?_); rintro e w' ⟨rfl, ⟨nd, rfl⟩⟩) | (go_at_call 15; (with_reducible refine (rollbacknetlaw11_same.calls k _ _ t215 t221 false _ ?side1 ?side2 A23.out).mono ?_); (case side1 => repeat (first | exact (Kd.R_reads' HO217.out).2.2 | (with_reducible refine Kd.C_alloc ?_ _) | (with_reducible refine Kd.C_drewN ?_ _) | (with_reducible refine Kd.C_drew ?_))); (case side2 => exact (Kd.R_reads' HO217.out).2.1); rintro e w34 ⟨rfl, hb⟩; have n0_ := aM (Kd.S_below (by (with_reducible repeat (first | apply Kd.S_alloc | apply Kd.S_drewN | apply Kd.S_drew)); exact HO214.out) hb); have n1_ := aM (Kd.R_below (by (with_reducible repeat (first | apply Kd.R_alloc | apply Kd.R_drewN | apply Kd.R_drew)); exact HO217.out) hb); have n2_ := aM (below_step (by repeat (first | (with_reducible first | exact HB.out | apply wA | apply wN | apply wD) | exact HB.out)) hb); clear HO214; clear HO217; clear HB; have HO214 := n0_; have HO217 := n1_; have HB := n2_; clear n0_ n1_ n2_; (try clear hb); (try clear hb2); (try clear hk); (try clear hi); (try clear hge_)))
       go_meet
       case rel => exact ⟨_, (true), (by first | rfl | (simp; done) | (simp [*]; done)), H', ⟨by first | omega | exact Nat.le_refl _⟩, ⟨by (with_reducible repeat (first | apply Kd.R_alloc | apply Kd.R_drewN | apply Kd.R_drew)); exact HO217.out⟩, ⟨by repeat (first | (with_reducible first | exact HB.out | apply wA | apply wN | apply wD) | exact HB.out)⟩⟩
     ·replace c21 := Bool.eq_false_iff.mpr c21
      subst c21
      have H1 : (rollbacknetlaw11_FrameNexts.j0 k a3 a4 t215 true) = some r := by rw [if_neg (show ¬ (false = true) by decide)] at H; exact H
      clear H
      have H := H1
      clear H1
      have H' := aM H
      clear H
      go_wp2_with (first | ((with_reducible refine gate_callee (f := 15) rfl ?_); refine goesL_ (some 23) rfl rfl Try.func15 (by kernel_rfl) rfl #[.slice A0 l0.length c0, .int .i64 a1] rfl (by (try simp only [List.map_toArray, List.map_cons, List.map_nil]); first | done | rfl | (simp only [List.length_drop, List.length_take]; rfl)) ?_; (with_reducible refine (rollbacknetlaw11_same.calls k _ _ l0 a1 true _ ?side1 ?side2 A17.out).mono ?_); (case side1 => repeat (first | exact (Kd.C_below HR0.out HB.out) | (with_reducible refine Kd.C_alloc ?_ _) | (with_reducible refine Kd.C_drewN ?_ _) | (with_reducible refine Kd.C_drew ?_))); (case side2 => exact HC0.out); rintro e w35 ⟨rfl, hb⟩; refine ⟨_, rfl, ?_⟩; have n0_ := aM (Kd.S_below (by (with_reducible repeat (first | apply Kd.S_alloc | apply Kd.S_drewN | apply Kd.S_drew)); exact HO214.out) hb); have n1_ := aM (Kd.R_below (by (with_reducible repeat (first | apply Kd.R_alloc | apply Kd.R_drewN | apply Kd.R_drew)); exact HO217.out) hb); have n2_ := aM (below_step (by repeat (first | (with_reducible first | exact HB.out | apply wA | apply wN | apply wD) | exact HB.out)) hb); clear HO214; clear HO217; clear HB; have HO214 := n0_; have HO217 := n1_; have HB := n2_; clear n0_ n1_ n2_; (try clear hb); (try clear hb2); (try clear hk); (try clear hi); (try clear hge_)) | (go_at_call 16; (with_reducible refine (rollbacknetmake_Mod.calls a1 (wrap64 ((l0.length : Int) + 1)) t219 _ A19.out).mono ?_); rintro e w' ⟨rfl, ⟨nd, rfl⟩⟩) | (go_at_call 15; (with_reducible refine (rollbacknetlaw11_same.calls k _ _ l0 t219 false _ ?side1 ?side2 A20.out).mono ?_); (case side1 => repeat (first | exact (Kd.C_below HR0.out (by repeat (first | (with_reducible first | exact HB.out | apply wA | apply wN | apply wD) | exact HB.out))) | (with_reducible refine Kd.C_alloc ?_ _) | (with_reducible refine Kd.C_drewN ?_ _) | (with_reducible refine Kd.C_drew ?_))); (case side2 => exact HC0.out); rintro e w36 ⟨rfl, hb⟩; have n0_ := aM (Kd.S_below (by (with_reducible repeat (first | apply Kd.S_alloc | apply Kd.S_drewN | apply Kd.S_drew)); exact HO214.out) hb); have n1_ := aM (Kd.R_below (by (with_reducible repeat (first | apply Kd.R_alloc | apply Kd.R_drewN | apply Kd.R_drew)); exact HO217.out) hb); have n2_ := aM (below_step (by repeat (first | (with_reducible first | exact HB.out | apply wA | apply wN | apply wD) | exact HB.out)) hb); clear HO214; clear HO217; clear HB; have HO214 := n0_; have HO217 := n1_; have HB := n2_; clear n0_ n1_ n2_; (try clear hb); (try clear hb2); (try clear hk); (try clear hi); (try clear hge_)))
      go_meet
      case rel => exact ⟨_, (true), (by first | rfl | (simp; done) | (simp [*]; done)), H', ⟨by first | omega | exact Nat.le_refl _⟩, ⟨by (with_reducible repeat (first | apply Kd.R_alloc | apply Kd.R_drewN | apply Kd.R_drew)); exact HO217.out⟩, ⟨by repeat (first | (with_reducible first | exact HB.out | apply wA | apply wN | apply wD) | exact HB.out)⟩⟩
    ·replace c18 := Bool.eq_false_iff.mpr c18
     subst c18
     have H1 : (rollbacknetlaw11_FrameNexts.j0 k a3 a4 t215 true) = some r := by rw [if_neg (show ¬ (false = true) by decide)] at H; exact H
     clear H
     have H := H1
     clear H1
     have H' := aM H
     clear H
     go_wp2_with (first | ((with_reducible refine gate_callee (f := 15) rfl ?_); refine goesL_ (some 23) rfl rfl Try.func15 (by kernel_rfl) rfl #[.slice A0 l0.length c0, .int .i64 a1] rfl (by (try simp only [List.map_toArray, List.map_cons, List.map_nil]); first | done | rfl | (simp only [List.length_drop, List.length_take]; rfl)) ?_; (with_reducible refine (rollbacknetlaw11_same.calls k _ _ l0 a1 false _ ?side1 ?side2 A17.out).mono ?_); (case side1 => repeat (first | exact (Kd.C_below HR0.out HB.out) | (with_reducible refine Kd.C_alloc ?_ _) | (with_reducible refine Kd.C_drewN ?_ _) | (with_reducible refine Kd.C_drew ?_))); (case side2 => exact HC0.out); rintro e w37 ⟨rfl, hb⟩; refine ⟨_, rfl, ?_⟩; have n0_ := aM (Kd.S_below (by (with_reducible repeat (first | apply Kd.S_alloc | apply Kd.S_drewN | apply Kd.S_drew)); exact HO214.out) hb); have n1_ := aM (Kd.R_below (by (with_reducible repeat (first | apply Kd.R_alloc | apply Kd.R_drewN | apply Kd.R_drew)); exact HO217.out) hb); have n2_ := aM (below_step (by repeat (first | (with_reducible first | exact HB.out | apply wA | apply wN | apply wD) | exact HB.out)) hb); clear HO214; clear HO217; clear HB; have HO214 := n0_; have HO217 := n1_; have HB := n2_; clear n0_ n1_ n2_; (try clear hb); (try clear hb2); (try clear hk); (try clear hi); (try clear hge_)))
     go_meet
     case rel => exact ⟨_, (true), (by first | rfl | (simp; done) | (simp [*]; done)), H', ⟨by first | omega | exact Nat.le_refl _⟩, ⟨by (with_reducible repeat (first | apply Kd.R_alloc | apply Kd.R_drewN | apply Kd.R_drew)); exact HO217.out⟩, ⟨by repeat (first | (with_reducible first | exact HB.out | apply wA | apply wN | apply wD) | exact HB.out)⟩⟩
   case rest =>
    clear HC12
    try clear c1
    try clear c2
    try clear p2
    try clear c4
    try clear p6
    try clear c7
    try clear c8
    try clear c8b0
    try clear c8b1
    try clear c9
    try clear c13
    try clear c14
    try clear c15
    try clear c18
    try clear c21
    try clear c24
    obtain ⟨kq, x50_11, rfl, HA, HJ11, HO_11, HB⟩ := hcut
    cases kq with
    | zero => exact absurd HA.out (by simp [rollbacknetlaw11_FrameNexts.j0])
    | succ kj11 =>
     have H := HA.out
     clear HA
     simp only [rollbacknetlaw11_FrameNexts.j0] at H
     by_cases c38 : x50_11 = true
     ·subst c38
      have H1 : (some false) = some r := by rw [if_pos rfl] at H; exact H
      clear H
      have H := H1
      clear H1
      obtain rfl := Option.some.inj H
      go_wp2
      go_ret
      exact ⟨by first | rfl | (simp [errW_none, errW_some] <;> rfl) | (simp [*, errW_none, errW_some] <;> rfl), by repeat (first | (with_reducible first | exact HB.out | apply wA | apply wN | apply wD) | exact HB.out)⟩
     ·replace c38 := Bool.eq_false_iff.mpr c38
      subst c38
      have H1 : (if (t215.length : Int) = 0 then (some true) else (if ([] : List Int).length + t215.length < 140737488355328 then ((some (([] : List Int) ++ t215 : List Int)).bind fun y224 => ((rollbacknetmake_Mod.f a3 (y224.length : Int)).bind fun t227 => (if 0 ≤ t227 then (if t227 < (y224.length : Int) then ((rollbacknetlaw11_same.f kj11 (y224.set (t227 : Int).toNat (Go.bits .xor .u8 (rd y224 t227) a4)) 0).bind fun t230 => (if t230 = true then ((rollbacknetmake_Mod.f a3 (t215.length : Int)).bind fun t231 => (if 0 ≤ t231 then (if t231 ≤ (t215.length : Int) then ((rollbacknetlaw11_same.f kj11 (t215.take (t231 : Int).toNat) 0).bind fun t236 => (some t236)) else (none)) else (none))) else (some false))) else (none)) else (none)))) else (none))) = some r := by rw [if_neg (show ¬ (false = true) by decide)] at H; exact H
      clear H
      have H := H1
      clear H1
      by_cases c39 : (t215.length : Int) = 0
      ·rw [if_pos c39] at H
       have c39b0 : ((t215.length : Int) == 0) = true := beq_iff_eq.mpr c39
       have c39b1 : ((t215.length : Int) != 0) = false := bne_eq_false_iff_eq.mpr c39
       clear c39
       obtain rfl := Option.some.inj H
       obtain ⟨Ao40, co40, eo40⟩ := Kd.R_slice HO_11.out
       subst eo40
       go_wp2
       go_ret
       exact ⟨by first | rfl | (simp [errW_none, errW_some] <;> rfl) | (simp [*, errW_none, errW_some] <;> rfl), by repeat (first | (with_reducible first | exact HB.out | apply wA | apply wN | apply wD) | exact HB.out)⟩
      ·rw [if_neg c39] at H
       have c39b0 : ((t215.length : Int) == 0) = false := beq_eq_false_iff_ne.mpr c39
       have c39b1 : ((t215.length : Int) != 0) = true := bne_iff_ne.mpr c39
       have c39b2 : ¬ (t215 = []) := fun h_ => c39 (by rw [h_]; rfl)
       by_cases c41 : ([] : List Int).length + t215.length < 140737488355328
       ·rw [if_pos c41] at H
        have LMc41 := aM c41
        clear c41
        obtain ⟨y224, hy224⟩ : ∃ y_ : List Int, y_ = (([] : List Int) ++ t215) := ⟨_, rfl⟩
        replace H : ((rollbacknetmake_Mod.f a3 (y224.length : Int)).bind fun t227 => (if 0 ≤ t227 then (if t227 < (y224.length : Int) then ((rollbacknetlaw11_same.f kj11 (y224.set (t227 : Int).toNat (Go.bits .xor .u8 (rd y224 t227) a4)) 0).bind fun t230 => (if t230 = true then ((rollbacknetmake_Mod.f a3 (t215.length : Int)).bind fun t231 => (if 0 ≤ t231 then (if t231 ≤ (t215.length : Int) then ((rollbacknetlaw11_same.f kj11 (t215.take (t231 : Int).toNat) 0).bind fun t236 => (some t236)) else (none)) else (none))) else (some false))) else (none)) else (none))) = some r := by first | (rw [hy224]; with_reducible exact H) | (have H2_ := (Option.bind_some _ _).symm.trans H; rw [hy224]; with_reducible exact H2_) | (have H2_ := (Option.bind_some _ _).symm.trans H; with_reducible exact H2_) | with_reducible exact H | (rw [hy224]; exact H) | exact H
        have Ny224 := aM hy224
        clear hy224
        replace H := Option.bind_eq_some_iff.mp H
        obtain ⟨t227, A420, H⟩ := H
        replace H : (if 0 ≤ t227 then (if t227 < (y224.length : Int) then ((rollbacknetlaw11_same.f kj11 (y224.set (t227 : Int).toNat (Go.bits .xor .u8 (rd y224 t227) a4)) 0).bind fun t230 => (if t230 = true then ((rollbacknetmake_Mod.f a3 (t215.length : Int)).bind fun t231 => (if 0 ≤ t231 then (if t231 ≤ (t215.length : Int) then ((rollbacknetlaw11_same.f kj11 (t215.take (t231 : Int).toNat) 0).bind fun t236 => (some t236)) else (none)) else (none))) else (some false))) else (none)) else (none)) = some r := H
        have A42 := aM A420
        clear A420
        by_cases c43 : 0 ≤ t227
        ·rw [if_pos c43] at H
         have c43b0 : decide (0 ≤ t227) = true := decide_eq_true c43
         clear c43
         by_cases c44 : t227 < (y224.length : Int)
         ·rw [if_pos c44] at H
          have c44b0 : decide (t227 < (y224.length : Int)) = true := decide_eq_true c44
          clear c44
          obtain ⟨y229, hy229⟩ : ∃ y_ : List Int, y_ = (y224.set (t227 : Int).toNat (Go.bits .xor .u8 (rd y224 t227) a4)) := ⟨_, rfl⟩
          replace H : ((rollbacknetlaw11_same.f kj11 y229 0).bind fun t230 => (if t230 = true then ((rollbacknetmake_Mod.f a3 (t215.length : Int)).bind fun t231 => (if 0 ≤ t231 then (if t231 ≤ (t215.length : Int) then ((rollbacknetlaw11_same.f kj11 (t215.take (t231 : Int).toNat) 0).bind fun t236 => (some t236)) else (none)) else (none))) else (some false))) = some r := by first | (rw [hy229]; with_reducible exact H) | (have H2_ := (Option.bind_some _ _).symm.trans H; rw [hy229]; with_reducible exact H2_) | (have H2_ := (Option.bind_some _ _).symm.trans H; with_reducible exact H2_) | with_reducible exact H | (rw [hy229]; exact H) | exact H
          have Ny229 := aM hy229
          clear hy229
          replace H := Option.bind_eq_some_iff.mp H
          obtain ⟨t230, A460, H⟩ := H
          replace H : (if t230 = true then ((rollbacknetmake_Mod.f a3 (t215.length : Int)).bind fun t231 => (if 0 ≤ t231 then (if t231 ≤ (t215.length : Int) then ((rollbacknetlaw11_same.f kj11 (t215.take (t231 : Int).toNat) 0).bind fun t236 => (some t236)) else (none)) else (none))) else (some false)) = some r := H
          have A46 := aM A460
          clear A460
          by_cases c47 : t230 = true
          ·subst c47
           have H1 : ((rollbacknetmake_Mod.f a3 (t215.length : Int)).bind fun t231 => (if 0 ≤ t231 then (if t231 ≤ (t215.length : Int) then ((rollbacknetlaw11_same.f kj11 (t215.take (t231 : Int).toNat) 0).bind fun t236 => (some t236)) else (none)) else (none))) = some r := by rw [if_pos rfl] at H; exact H
           clear H
           have H := H1
           clear H1
           replace H := Option.bind_eq_some_iff.mp H
           obtain ⟨t231, A480, H⟩ := H
           replace H : (if 0 ≤ t231 then (if t231 ≤ (t215.length : Int) then ((rollbacknetlaw11_same.f kj11 (t215.take (t231 : Int).toNat) 0).bind fun t236 => (some t236)) else (none)) else (none)) = some r := H
           have A48 := aM A480
           clear A480
           by_cases c49 : 0 ≤ t231
           ·rw [if_pos c49] at H
            have c49b0 := eq_true c49
            have c49b1 : decide (0 ≤ t231) = true := decide_eq_true c49
            clear c49
            by_cases c50 : t231 ≤ (t215.length : Int)
            ·rw [if_pos c50] at H
             have c50b0 := eq_true c50
             have c50b1 : decide (t231 ≤ (t215.length : Int)) = true := decide_eq_true c50
             clear c50
             obtain ⟨y232, hy232⟩ : ∃ y_ : List Int, y_ = (t215.take (t231 : Int).toNat) := ⟨_, rfl⟩
             replace H : ((rollbacknetlaw11_same.f kj11 y232 0).bind fun t236 => (some t236)) = some r := by first | (rw [hy232]; with_reducible exact H) | (have H2_ := (Option.bind_some _ _).symm.trans H; rw [hy232]; with_reducible exact H2_) | (have H2_ := (Option.bind_some _ _).symm.trans H; with_reducible exact H2_) | with_reducible exact H | (rw [hy232]; exact H) | exact H
             have Ny232 := aM hy232
             clear hy232
             replace H := Option.bind_eq_some_iff.mp H
             obtain ⟨t236, A510, H⟩ := H
             replace H : (some t236) = some r := H
             have A51 := aM A510
             clear A510
             obtain rfl := Option.some.inj H
             obtain ⟨Ao52, co52, eo52⟩ := Kd.R_slice HO_11.out
             subst eo52
             go_wp2_with (first | ((with_reducible refine gate_builtin (b := .append) (xs := #[(.const (.slice none 0 0)), .tmp 54]) rfl ?_); (try (refine gate_guard (by rfl) ?_; dsimp only)); at_builtin; refine Kd.R_append_rows (Kd.int .u8) (w0 := w) w.heap.size rfl (.const (.slice none 0 0)) (.tmp 54) 22 5 (.int .u8 0) 1 rfl Try.underlying22 info5 rfl (by decide) (by omega) (.slice none 0 0) ([] : List Int) t215 _ _ _ (fun k_ => some k_ ≠ (.slice Ao52 t215.length co52 : Value).ownBlock) (fun _ => False) rfl rfl ?aO ?aR (fun _ _ h => h) (fun _ h => h.elim) ?aF ?aB ?aS ?aL ?_; (case aR => repeat (first | exact (Kd.R_reads' HO_11.out).2.2 | (with_reducible refine Kd.C_alloc ?_ _) | (with_reducible refine Kd.C_drewN ?_ _) | (with_reducible refine Kd.C_drew ?_))); (case aB => exact (by repeat (first | (with_reducible first | exact HB.out | apply wA | apply wN | apply wD) | exact HB.out))); (case aF => exact (fun k_ hk => Kd.fresh' (Kd.R_lt (by (with_reducible repeat (first | apply Kd.R_alloc | apply Kd.R_drewN | apply Kd.R_drew)); exact HO_11.out)) k_ hk)); (case aO => exact ((Kd.R_nil _ _ _ _ (fun k_ => some k_ ≠ (.slice Ao52 t215.length co52 : Value).ownBlock)))); (case aS => exact (below_size (by repeat (first | (with_reducible first | exact HB.out | apply wA | apply wN | apply wD) | exact HB.out)))); (case aL => have := LMc41.out; omega); intro v225 w53 ho hb hg hat; rw [← Ny224.out] at ho; have n0_ := aM (Kd.R_after (Kd.R_apart_nil (by (with_reducible repeat (first | apply Kd.R_alloc | apply Kd.R_drewN | apply Kd.R_drew)); exact HO_11.out)) hg hat); have n1_ := aM (hb); have n2_ := aM (ho); clear HO_11; clear HB; have HO_11 := n0_; have HB := n1_; have HO226 := n2_; clear n0_ n1_ n2_; clear ho hb hg hat; obtain ⟨Ao54, co54, eo54⟩ := Kd.R_slice HO226.out; subst eo54) | ((with_reducible refine gate_callee (f := 16) rfl ?_); refine goesL_ (some 60) rfl rfl Try.func16 (by kernel_rfl) rfl #[.int .i64 a3, .int .i64 (y224.length : Int)] rfl (by (try simp only [List.map_toArray, List.map_cons, List.map_nil]); first | done | rfl | (simp only [List.length_drop, List.length_take]; rfl)) ?_; (with_reducible refine (rollbacknetmake_Mod.calls a3 (y224.length : Int) t227 _ A42.out).mono ?_); rintro e w' ⟨rfl, ⟨nd, rfl⟩⟩; refine ⟨_, rfl, ?_⟩; (try (rw [drewN_self w53]; generalize hq_ : World.drewN w53 _ = w53; have n0_ : Aside0 (Kd.R (Kd.int .u8) 5 w53 w.heap.size (fun k_ => some k_ ≠ (.slice Ao52 t215.length co52 : Value).ownBlock) (.slice Ao54 y224.length co54) y224) := ⟨by rw [← hq_]; exact (by (with_reducible repeat (first | apply Kd.R_alloc | apply Kd.R_drewN | apply Kd.R_drew)); exact HO226.out)⟩; have n1_ : Aside0 (Kd.R (Kd.int .u8) 5 w53 w.heap.size (fun k_ => some k_ ≠ (.slice Ao54 y224.length co54 : Value).ownBlock) (.slice Ao52 t215.length co52) t215) := ⟨by rw [← hq_]; exact (by (with_reducible repeat (first | apply Kd.R_alloc | apply Kd.R_drewN | apply Kd.R_drew)); exact Kd.R_mono HO_11.out (fun _ hk => hk.2))⟩; have n2_ : Aside0 (Below w.heap.size w w53) := ⟨by rw [← hq_]; exact (by repeat (first | (with_reducible first | exact HB.out | apply wA | apply wN | apply wD) | exact HB.out))⟩; clear HO226 HO_11 HB hq_; have HO226 := n0_; have HO_11 := n1_; have HB := n2_; clear n0_ n1_ n2_)); have p228 : 0 ≤ (t227 : Int) := of_decide_eq_true (by first | (with_reducible assumption) | assumption); have q228 : t227 < (y224.length : Int) := of_decide_eq_true (by first | (with_reducible assumption) | assumption); obtain ⟨ad228, e228, hx228_0⟩ := Kd.at_int (Kd.R_reads' HO226.out).2.2 t227 p228 q228; cases e228; replace p228 := eq_true p228; replace q228 := eq_true q228; have p45 : 0 ≤ (t227 : Int) := of_decide_eq_true (by first | (with_reducible assumption) | assumption); have q45 : (t227 : Int) < ((y224.length : Int) : Int) := of_decide_eq_true (by first | (with_reducible assumption) | assumption); obtain ⟨go45, co45, eo45, gb45, gl45, cl45, HG45⟩ := Kd.R_form HO226.out (by omega); (first | cases eo45 | (injection eo45 with ea_ en_ ec_; (first | subst ea_ | (injection ea_ with ea_; subst ea_)); subst ec_; clear en_)); have GB45 := aM gb45; have GG45 := aM HG45; clear gb45 gl45 HG45; (first | simp only [add_plain] at hx228_0 | skip); obtain ⟨hx45_0, hf45_0⟩ := Kd.R_celln 0 HO226.out (t227 : Int) p45 q45; replace p45 := eq_true p45; replace q45 := eq_true q45; obtain ⟨hy55_, hz55_⟩ := Kd.R_celln 0 HO226.out (t227 : Int) (of_decide_eq_true (by first | (with_reducible assumption) | assumption)) (of_decide_eq_true (by first | (with_reducible assumption) | assumption)); have HP55 := Kd.R_putg HO226.out (t227 : Int) (Go.bits .xor .u8 (rd y224 t227) a4)) | ((with_reducible refine gate_store (t := 5) (p := 65) rfl ?_); refine store_event (t := 5) (p := 65) (v := ?vo_w56) (w1 := (w53.setCell ⟨go45, (t227 : Int).toNat, none⟩ (.int .u8 (Go.bits .xor .u8 (rd y224 t227) a4)))) ?hg ?ho ?hn ?hr ?_; (case ho => rfl); (case hg => rfl); (case hn => rfl); (case hr => first | (go_simp; done) | (go_simp; rfl)); intro w56 hw; have hg : w53.grownBy w56 (some go45) := (by rw [hw]; exact HP55.2); have hp_ : Kd.R (Kd.int .u8) 5 w56 w.heap.size (fun k_ => some k_ ≠ (.slice Ao52 t215.length co52 : Value).ownBlock) (.slice (some ⟨go45, 0, none⟩) y224.length co54) y229 := (by rw [hw, Ny229.out]; exact HP55.1); clear HP55; have n0_ := aM (Kd.R_after (v := (.slice (some ⟨go45, 0, none⟩) y224.length co54)) (v1 := (.slice (some ⟨go45, 0, none⟩) y224.length co54)) (ok := (fun _ => True)) (by (with_reducible repeat (first | apply Kd.R_alloc | apply Kd.R_drewN | apply Kd.R_drew)); first | exact HO_11.out | exact Kd.R_mono HO_11.out (fun _ hk => ⟨trivial, hk⟩)) hg (.inl rfl)); have n1_ := aM (hp_); have n2_ := aM ((by rw [hw]; exact below_set (HB.out) GB45.out : Below w.heap.size w w56)); clear HO_11; clear HO226; clear HB; have HO_11 := n0_; have HO226 := n1_; have HB := n2_; clear n0_ n1_ n2_; clear hg hw hp_) | ((with_reducible refine gate_callee (f := 15) rfl ?_); refine goesL_ (some 67) rfl rfl Try.func15 (by kernel_rfl) rfl #[.slice (some ⟨go45, 0, none⟩) y229.length co54, .int .i64 0] rfl (by (try simp only [List.map_toArray, List.map_cons, List.map_nil]); first | done | (rw [show y229.length = y224.length from (Kd.R_reads' HO226.out).1.symm] <;> rfl) | rfl | (simp only [List.length_drop, List.length_take]; rfl)) ?_; (with_reducible refine (rollbacknetlaw11_same.calls kj11 _ _ y229 0 true _ ?side1 ?side2 A46.out).mono ?_); (case side1 => repeat (first | exact (Kd.R_reads' HO226.out).2.2 | (with_reducible refine Kd.C_alloc ?_ _) | (with_reducible refine Kd.C_drewN ?_ _) | (with_reducible refine Kd.C_drew ?_))); (case side2 => rw [show y229.length = y224.length from (Kd.R_reads' HO226.out).1.symm]; exact (Kd.R_reads' HO226.out).2.1); rintro e w57 ⟨rfl, hb⟩; refine ⟨_, rfl, ?_⟩; have n0_ := aM (Kd.R_below (by (with_reducible repeat (first | apply Kd.R_alloc | apply Kd.R_drewN | apply Kd.R_drew)); exact HO_11.out) hb); have n1_ := aM (Kd.R_below (by (with_reducible repeat (first | apply Kd.R_alloc | apply Kd.R_drewN | apply Kd.R_drew)); exact HO226.out) hb); have n2_ := aM (below_step (by repeat (first | (with_reducible first | exact HB.out | apply wA | apply wN | apply wD) | exact HB.out)) hb); clear HO_11; clear HO226; clear HB; have HO_11 := n0_; have HO226 := n1_; have HB := n2_; clear n0_ n1_ n2_; (try clear hb); (try clear hb2); (try clear hk); (try clear hi); (try clear hge_)) | (go_at_call 16; (with_reducible refine (rollbacknetmake_Mod.calls a3 (t215.length : Int) t231 _ A48.out).mono ?_); rintro e w' ⟨rfl, ⟨nd, rfl⟩⟩; have q58 : (t231 : Int) ≤ ((t215.length : Int) : Int) := of_decide_eq_true (by first | (with_reducible assumption) | assumption); obtain ⟨i058, hi058, _, hsz58, _⟩ := info_parts info5; have hroom58 : t215.length ≤ co52 := (Kd.R_reads' HO_11.out).2.1; have hC58 : Kd.C (Kd.int .u8) _ Ao52 t215.length t215 := (Kd.R_reads' HO_11.out).2.2; have hcut58 := cut_to (P := Try.prog) 22 5 .i64 Try.underlying22 hi058 Ao52 t215.length co52 t231 (of_decide_eq_true (by first | (with_reducible assumption) | assumption)) q58 hroom58; have hr58 := Kd.C_take (m := (t231 : Int).toNat) hC58 (by omega); have hy58 : y232.length = (t231 : Int).toNat := (by rw [Ny232.out, List.length_take]; omega); rw [← Ny232.out] at hr58; rw [← hy58] at hcut58; have HR235 := aM hr58; have HC235 := aM (show y232.length ≤ co52 from by omega); clear hr58 hC58 hroom58 hi058 hsz58; have KY58 := aM hy58; clear hy58; have KL58 := aM (show (t231 : Int).toNat ≤ t215.length from by omega); replace q58 := eq_true q58) | (go_at_call 15; (with_reducible refine (rollbacknetlaw11_same.calls kj11 _ _ y232 0 t236 _ ?side1 ?side2 A51.out).mono ?_); (case side1 => repeat (first | exact (by repeat (first | (with_reducible exact HR235.out) | (with_reducible refine Kd.C_alloc ?_ _) | (with_reducible refine Kd.C_drewN ?_ _) | (with_reducible refine Kd.C_drew ?_) | exact HR235.out)) | (with_reducible refine Kd.C_alloc ?_ _) | (with_reducible refine Kd.C_drewN ?_ _) | (with_reducible refine Kd.C_drew ?_))); (case side2 => exact HC235.out); rintro e w59 ⟨rfl, hb⟩; have n0_ := aM (Kd.R_below (by (with_reducible repeat (first | apply Kd.R_alloc | apply Kd.R_drewN | apply Kd.R_drew)); exact HO_11.out) hb); have n1_ := aM (Kd.R_below (by (with_reducible repeat (first | apply Kd.R_alloc | apply Kd.R_drewN | apply Kd.R_drew)); exact HO226.out) hb); have n2_ := aM (Kd.C_below (by repeat (first | (with_reducible exact HR235.out) | (with_reducible refine Kd.C_alloc ?_ _) | (with_reducible refine Kd.C_drewN ?_ _) | (with_reducible refine Kd.C_drew ?_) | exact HR235.out)) hb); have n3_ := aM (below_step (by repeat (first | (with_reducible first | exact HB.out | apply wA | apply wN | apply wD) | exact HB.out)) hb); clear HO_11; clear HO226; clear HR235; clear HB; have HO_11 := n0_; have HO226 := n1_; have HR235 := n2_; have HB := n3_; clear n0_ n1_ n2_ n3_; (try clear hb); (try clear hb2); (try clear hk); (try clear hi); (try clear hge_)))
             go_ret
             exact ⟨by first | rfl | (simp [errW_none, errW_some] <;> rfl) | (simp [*, errW_none, errW_some] <;> rfl), by repeat (first | (with_reducible first | exact HB.out | apply wA | apply wN | apply wD) | exact HB.out)⟩
            ·rw [if_neg c50] at H
             exact absurd H (by simp)
           ·rw [if_neg c49] at H
            exact absurd H (by simp)
          ·replace c47 := Bool.eq_false_iff.mpr c47
           subst c47
           have H1 : (some false) = some r := by rw [if_neg (show ¬ (false = true) by decide)] at H; exact H
           clear H
           have H := H1
           clear H1
           obtain rfl := Option.some.inj H
           obtain ⟨Ao60, co60, eo60⟩ := Kd.R_slice HO_11.out
           subst eo60
           go_wp2_with (first | ((with_reducible refine gate_builtin (b := .append) (xs := #[(.const (.slice none 0 0)), .tmp 54]) rfl ?_); (try (refine gate_guard (by rfl) ?_; dsimp only)); at_builtin; refine Kd.R_append_rows (Kd.int .u8) (w0 := w) w.heap.size rfl (.const (.slice none 0 0)) (.tmp 54) 22 5 (.int .u8 0) 1 rfl Try.underlying22 info5 rfl (by decide) (by omega) (.slice none 0 0) ([] : List Int) t215 _ _ _ (fun k_ => some k_ ≠ (.slice Ao60 t215.length co60 : Value).ownBlock) (fun _ => False) rfl rfl ?aO ?aR (fun _ _ h => h) (fun _ h => h.elim) ?aF ?aB ?aS ?aL ?_; (case aR => repeat (first | exact (Kd.R_reads' HO_11.out).2.2 | (with_reducible refine Kd.C_alloc ?_ _) | (with_reducible refine Kd.C_drewN ?_ _) | (with_reducible refine Kd.C_drew ?_))); (case aB => exact (by repeat (first | (with_reducible first | exact HB.out | apply wA | apply wN | apply wD) | exact HB.out))); (case aF => exact (fun k_ hk => Kd.fresh' (Kd.R_lt (by (with_reducible repeat (first | apply Kd.R_alloc | apply Kd.R_drewN | apply Kd.R_drew)); exact HO_11.out)) k_ hk)); (case aO => exact ((Kd.R_nil _ _ _ _ (fun k_ => some k_ ≠ (.slice Ao60 t215.length co60 : Value).ownBlock)))); (case aS => exact (below_size (by repeat (first | (with_reducible first | exact HB.out | apply wA | apply wN | apply wD) | exact HB.out)))); (case aL => have := LMc41.out; omega); intro v225 w61 ho hb hg hat; rw [← Ny224.out] at ho; have n0_ := aM (Kd.R_after (Kd.R_apart_nil (by (with_reducible repeat (first | apply Kd.R_alloc | apply Kd.R_drewN | apply Kd.R_drew)); exact HO_11.out)) hg hat); have n1_ := aM (hb); have n2_ := aM (ho); clear HO_11; clear HB; have HO_11 := n0_; have HB := n1_; have HO226 := n2_; clear n0_ n1_ n2_; clear ho hb hg hat; obtain ⟨Ao62, co62, eo62⟩ := Kd.R_slice HO226.out; subst eo62) | ((with_reducible refine gate_callee (f := 16) rfl ?_); refine goesL_ (some 60) rfl rfl Try.func16 (by kernel_rfl) rfl #[.int .i64 a3, .int .i64 (y224.length : Int)] rfl (by (try simp only [List.map_toArray, List.map_cons, List.map_nil]); first | done | rfl | (simp only [List.length_drop, List.length_take]; rfl)) ?_; (with_reducible refine (rollbacknetmake_Mod.calls a3 (y224.length : Int) t227 _ A42.out).mono ?_); rintro e w' ⟨rfl, ⟨nd, rfl⟩⟩; refine ⟨_, rfl, ?_⟩; (try (rw [drewN_self w61]; generalize hq_ : World.drewN w61 _ = w61; have n0_ : Aside0 (Kd.R (Kd.int .u8) 5 w61 w.heap.size (fun k_ => some k_ ≠ (.slice Ao60 t215.length co60 : Value).ownBlock) (.slice Ao62 y224.length co62) y224) := ⟨by rw [← hq_]; exact (by (with_reducible repeat (first | apply Kd.R_alloc | apply Kd.R_drewN | apply Kd.R_drew)); exact HO226.out)⟩; have n1_ : Aside0 (Kd.R (Kd.int .u8) 5 w61 w.heap.size (fun k_ => some k_ ≠ (.slice Ao62 y224.length co62 : Value).ownBlock) (.slice Ao60 t215.length co60) t215) := ⟨by rw [← hq_]; exact (by (with_reducible repeat (first | apply Kd.R_alloc | apply Kd.R_drewN | apply Kd.R_drew)); exact Kd.R_mono HO_11.out (fun _ hk => hk.2))⟩; have n2_ : Aside0 (Below w.heap.size w w61) := ⟨by rw [← hq_]; exact (by repeat (first | (with_reducible first | exact HB.out | apply wA | apply wN | apply wD) | exact HB.out))⟩; clear HO226 HO_11 HB hq_; have HO226 := n0_; have HO_11 := n1_; have HB := n2_; clear n0_ n1_ n2_)); have p228 : 0 ≤ (t227 : Int) := of_decide_eq_true (by first | (with_reducible assumption) | assumption); have q228 : t227 < (y224.length : Int) := of_decide_eq_true (by first | (with_reducible assumption) | assumption); obtain ⟨ad228, e228, hx228_0⟩ := Kd.at_int (Kd.R_reads' HO226.out).2.2 t227 p228 q228; cases e228; replace p228 := eq_true p228; replace q228 := eq_true q228; have p45 : 0 ≤ (t227 : Int) := of_decide_eq_true (by first | (with_reducible assumption) | assumption); have q45 : (t227 : Int) < ((y224.length : Int) : Int) := of_decide_eq_true (by first | (with_reducible assumption) | assumption); obtain ⟨go45, co45, eo45, gb45, gl45, cl45, HG45⟩ := Kd.R_form HO226.out (by omega); (first | cases eo45 | (injection eo45 with ea_ en_ ec_; (first | subst ea_ | (injection ea_ with ea_; subst ea_)); subst ec_; clear en_)); have GB45 := aM gb45; have GG45 := aM HG45; clear gb45 gl45 HG45; (first | simp only [add_plain] at hx228_0 | skip); obtain ⟨hx45_0, hf45_0⟩ := Kd.R_celln 0 HO226.out (t227 : Int) p45 q45; replace p45 := eq_true p45; replace q45 := eq_true q45; obtain ⟨hy63_, hz63_⟩ := Kd.R_celln 0 HO226.out (t227 : Int) (of_decide_eq_true (by first | (with_reducible assumption) | assumption)) (of_decide_eq_true (by first | (with_reducible assumption) | assumption)); have HP63 := Kd.R_putg HO226.out (t227 : Int) (Go.bits .xor .u8 (rd y224 t227) a4)) | ((with_reducible refine gate_store (t := 5) (p := 65) rfl ?_); refine store_event (t := 5) (p := 65) (v := ?vo_w64) (w1 := (w61.setCell ⟨go45, (t227 : Int).toNat, none⟩ (.int .u8 (Go.bits .xor .u8 (rd y224 t227) a4)))) ?hg ?ho ?hn ?hr ?_; (case ho => rfl); (case hg => rfl); (case hn => rfl); (case hr => first | (go_simp; done) | (go_simp; rfl)); intro w64 hw; have hg : w61.grownBy w64 (some go45) := (by rw [hw]; exact HP63.2); have hp_ : Kd.R (Kd.int .u8) 5 w64 w.heap.size (fun k_ => some k_ ≠ (.slice Ao60 t215.length co60 : Value).ownBlock) (.slice (some ⟨go45, 0, none⟩) y224.length co62) y229 := (by rw [hw, Ny229.out]; exact HP63.1); clear HP63; have n0_ := aM (Kd.R_after (v := (.slice (some ⟨go45, 0, none⟩) y224.length co62)) (v1 := (.slice (some ⟨go45, 0, none⟩) y224.length co62)) (ok := (fun _ => True)) (by (with_reducible repeat (first | apply Kd.R_alloc | apply Kd.R_drewN | apply Kd.R_drew)); first | exact HO_11.out | exact Kd.R_mono HO_11.out (fun _ hk => ⟨trivial, hk⟩)) hg (.inl rfl)); have n1_ := aM (hp_); have n2_ := aM ((by rw [hw]; exact below_set (HB.out) GB45.out : Below w.heap.size w w64)); clear HO_11; clear HO226; clear HB; have HO_11 := n0_; have HO226 := n1_; have HB := n2_; clear n0_ n1_ n2_; clear hg hw hp_) | ((with_reducible refine gate_callee (f := 15) rfl ?_); refine goesL_ (some 67) rfl rfl Try.func15 (by kernel_rfl) rfl #[.slice (some ⟨go45, 0, none⟩) y229.length co62, .int .i64 0] rfl (by (try simp only [List.map_toArray, List.map_cons, List.map_nil]); first | done | (rw [show y229.length = y224.length from (Kd.R_reads' HO226.out).1.symm] <;> rfl) | rfl | (simp only [List.length_drop, List.length_take]; rfl)) ?_; (with_reducible refine (rollbacknetlaw11_same.calls kj11 _ _ y229 0 false _ ?side1 ?side2 A46.out).mono ?_); (case side1 => repeat (first | exact (Kd.R_reads' HO226.out).2.2 | (with_reducible refine Kd.C_alloc ?_ _) | (with_reducible refine Kd.C_drewN ?_ _) | (with_reducible refine Kd.C_drew ?_))); (case side2 => rw [show y229.length = y224.length from (Kd.R_reads' HO226.out).1.symm]; exact (Kd.R_reads' HO226.out).2.1); rintro e w65 ⟨rfl, hb⟩; refine ⟨_, rfl, ?_⟩; have n0_ := aM (Kd.R_below (by (with_reducible repeat (first | apply Kd.R_alloc | apply Kd.R_drewN | apply Kd.R_drew)); exact HO_11.out) hb); have n1_ := aM (Kd.R_below (by (with_reducible repeat (first | apply Kd.R_alloc | apply Kd.R_drewN | apply Kd.R_drew)); exact HO226.out) hb); have n2_ := aM (below_step (by repeat (first | (with_reducible first | exact HB.out | apply wA | apply wN | apply wD) | exact HB.out)) hb); clear HO_11; clear HO226; clear HB; have HO_11 := n0_; have HO226 := n1_; have HB := n2_; clear n0_ n1_ n2_; (try clear hb); (try clear hb2); (try clear hk); (try clear hi); (try clear hge_)))
           go_ret
           exact ⟨by first | rfl | (simp [errW_none, errW_some] <;> rfl) | (simp [*, errW_none, errW_some] <;> rfl), by repeat (first | (with_reducible first | exact HB.out | apply wA | apply wN | apply wD) | exact HB.out)⟩
         ·rw [if_neg c44] at H
          exact absurd H (by simp)
        ·rw [if_neg c43] at H
         exact absurd H (by simp)
       ·rw [if_neg c41] at H
        exact absurd H (by simp)
 ·replace c7 := Bool.eq_false_iff.mpr c7
  subst c7
  have H1 : (some false) = some r := by rw [if_neg (show ¬ (false = true) by decide)] at H; exact H
  clear H
  have H := H1
  clear H1
  obtain rfl := Option.some.inj H
  go_enter Try.func4, Try.ntmps4
  go_wp2_with (first | ((with_reducible refine gate_callee (f := 9) rfl ?_); refine goesL_ (some 13) rfl rfl Try.func9 (by kernel_rfl) rfl #[] rfl (by (try simp only [List.map_toArray, List.map_cons, List.map_nil]); first | done | rfl | (simp only [List.length_drop, List.length_take]; rfl)) ?_; (with_reducible refine (rollbacknetlaw11_awake.calls k  false _ A6.out).mono ?_); rintro e w66 ⟨rfl, hb⟩; refine ⟨_, rfl, ?_⟩; have n0_ := aM (below_step (by repeat (first | (with_reducible first | exact HB.out | apply wA | apply wN | apply wD) | exact HB.out)) hb); clear HB; have HB := n0_; clear n0_; (try clear hb); (try clear hb2); (try clear hk); (try clear hi); (try clear hge_)))
  go_ret
  exact ⟨by first | rfl | (simp [errW_none, errW_some] <;> rfl) | (simp [*, errW_none, errW_some] <;> rfl), by repeat (first | (with_reducible first | exact HB.out | apply wA | apply wN | apply wD) | exact HB.out)⟩

end Go.Proofs.Ytmlphabhldahlaa.PFk
