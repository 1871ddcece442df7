-- Laid by wip/tools/xprint.py, a program of this session over the kit's print: functions as Lean functions, each with its contract.
import Derived.Test.YtkjnledamamniaaPImx0
import Derived.Test.YtkjnledamamniaaPImx1
import Derived.Test.YtkjnledamamniaaPImx3
import Derived.Test.YtkjnledamamniaaPImx4
import Derived.Test.YtkjnledamamniaaPImx6
import Derived.Test.YtkjnledamamniaaPImx8
import Derived.Test.YtkjnledamamniaaPImx9
import Derived.Test.YtkjnledamamniaaPImx11
import Derived.Test.YtkjnledamamniaaPImx12
import Derived.Test.YtkjnledamamniaaPImx13
import Derived.Test.YtkjnledamamniaaPImx14
namespace Go.Proofs.Ytkjnledamamniaa.PIm
open Go.RowKit Go.Proofs.YtkjnledamamniaaW.PrintWords Go.Proofs.YtkjnledamamniaaW.PrintLast Go.Proofs.YtkjnledamamniaaW.PrintMore
attribute [local go_sem] max2_int min2_int max_two min_two max_three min_three max_four min_four   -- for this text's walks alone
set_option linter.unusedVariables false
set_option linter.unusedSimpArgs false

/-! ### rollbacknetlaw07_ImageDiffs: function 4 -/
mutual
def rollbacknetlaw07_ImageDiffs.j0 : Nat → List Int → List Int → List Int → Bool → Option (Bool)
 | 0, _, _, _, _ => none
 | k + 1, x0, x1, x2, x20 => if x20 = true then (some true) else ((rollbacknetmake_New.f x2 40).bind fun bt216 => ((rollbacknetlaw07_change.f k bt216.1 bt216.2 x0).bind fun bt219 => ((some (([x1, bt219.1] : List (List Int)) : List (List Int))).bind fun y223 => (rollbacknetlaw07_ImageDiffs.l0 k x0 y223 (y223.length : Int) 0))))
def rollbacknetlaw07_ImageDiffs.l0 : Nat → List Int → List (List Int) → Int → Int → Option (Bool)
 | 0, _, _, _, _ => none
 | k + 1, x0, x27, x28, x29 => if x29 < x28 then (if 0 ≤ x29 then (if x29 < (x27.length : Int) then ((image_Diff.f k x0 (rd_L1 x27 x29)).bind fun t227 => ((rollbacknetref07_Diff.f k x0 (rd_L1 x27 x29)).bind fun t230 => ((rollbacknetref07_Same.f k t227 t230).bind fun t233 => (if t233 = true then ((image_Cost.f k t227).bind fun t234 => ((rollbacknetref07_Cost.f k t227).bind fun t235 => (if t234 = t235 then ((image_Count.f (rd_L1 x27 x29)).bind fun t236 => ((rollbacknetref07_Count.f (rd_L1 x27 x29)).bind fun t237 => (if t236 = t237 then (rollbacknetlaw07_ImageDiffs.l0 k x0 x27 x28 (wrap64 (x29 + 1))) else (some false)))) else (some false)))) else (some false))))) else (none)) else (none)) else (some true)
end
def rollbacknetlaw07_ImageDiffs.f (k : Nat) (l0 : List Int) (l1 : List Int) (l2 : List Int) : Option (Bool) := (rollbacknetlaw07_awake.f k).bind fun t215 => (if t215 = true then (if (l0.length : Int) > 200 then (rollbacknetlaw07_ImageDiffs.j0 k l0 l1 l2 true) else (rollbacknetlaw07_ImageDiffs.j0 k l0 l1 l2 (decide ((l1.length : Int) > 200)))) else (some false))
theorem rollbacknetlaw07_ImageDiffs.mono_l : ∀ k, (∀ y0 y1 y2 y3, LeO (rollbacknetlaw07_ImageDiffs.j0 k y0 y1 y2 y3) (rollbacknetlaw07_ImageDiffs.j0 (k + 1) y0 y1 y2 y3)) ∧ (∀ y0 y1 y2 y3, LeO (rollbacknetlaw07_ImageDiffs.l0 k y0 y1 y2 y3) (rollbacknetlaw07_ImageDiffs.l0 (k + 1) y0 y1 y2 y3))
 | 0 => ⟨fun _ _ _ _ r h => by simp [rollbacknetlaw07_ImageDiffs.j0] at h, fun _ _ _ _ r h => by simp [rollbacknetlaw07_ImageDiffs.l0] at h⟩
 | k + 1 => by
  obtain ⟨ih0, ih1⟩ := rollbacknetlaw07_ImageDiffs.mono_l k
  refine ⟨?_, ?_⟩
  ·intro y0 y1 y2 y3
   unfold rollbacknetlaw07_ImageDiffs.j0
   repeat' first
   | (with_reducible exact ih0 _ _ _ _)
   | (with_reducible exact ih1 _ _ _ _)
   | (with_reducible exact image_Cost.mono _ _)
   | (with_reducible exact image_Diff.mono _ _ _)
   | (with_reducible exact rollbacknetlaw07_awake.mono _)
   | (with_reducible exact rollbacknetlaw07_change.mono _ _ _ _)
   | (with_reducible exact rollbacknetref07_Cost.mono _ _)
   | (with_reducible exact rollbacknetref07_Diff.mono _ _ _)
   | (with_reducible exact rollbacknetref07_Same.mono _ _ _)
   | (with_reducible exact LeO.refl _)
   | (with_reducible exact LeO.none _)
   | (with_reducible refine LeO.ite ?_ ?_)
   | (with_reducible refine LeO.bind ?_ (fun _ => ?_))
   | exact ih0 _ _ _ _
   | exact ih1 _ _ _ _
   | exact image_Cost.mono _ _
   | exact image_Diff.mono _ _ _
   | exact rollbacknetlaw07_awake.mono _
   | exact rollbacknetlaw07_change.mono _ _ _ _
   | exact rollbacknetref07_Cost.mono _ _
   | exact rollbacknetref07_Diff.mono _ _ _
   | exact rollbacknetref07_Same.mono _ _ _
   | exact LeO.none _
   | refine LeO.ite ?_ ?_
   | refine LeO.bind ?_ (fun _ => ?_)
  ·intro y0 y1 y2 y3
   unfold rollbacknetlaw07_ImageDiffs.l0
   repeat' first
   | (with_reducible exact ih0 _ _ _ _)
   | (with_reducible exact ih1 _ _ _ _)
   | (with_reducible exact image_Cost.mono _ _)
   | (with_reducible exact image_Diff.mono _ _ _)
   | (with_reducible exact rollbacknetlaw07_awake.mono _)
   | (with_reducible exact rollbacknetlaw07_change.mono _ _ _ _)
   | (with_reducible exact rollbacknetref07_Cost.mono _ _)
   | (with_reducible exact rollbacknetref07_Diff.mono _ _ _)
   | (with_reducible exact rollbacknetref07_Same.mono _ _ _)
   | (with_reducible exact LeO.refl _)
   | (with_reducible exact LeO.none _)
   | (with_reducible refine LeO.ite ?_ ?_)
   | (with_reducible refine LeO.bind ?_ (fun _ => ?_))
   | exact ih0 _ _ _ _
   | exact ih1 _ _ _ _
   | exact image_Cost.mono _ _
   | exact image_Diff.mono _ _ _
   | exact rollbacknetlaw07_awake.mono _
   | exact rollbacknetlaw07_change.mono _ _ _ _
   | exact rollbacknetref07_Cost.mono _ _
   | exact rollbacknetref07_Diff.mono _ _ _
   | exact rollbacknetref07_Same.mono _ _ _
   | exact LeO.none _
   | refine LeO.ite ?_ ?_
   | refine LeO.bind ?_ (fun _ => ?_)
theorem rollbacknetlaw07_ImageDiffs.mono : ∀ a0 a1 a2 k, LeO (rollbacknetlaw07_ImageDiffs.f k a0 a1 a2) (rollbacknetlaw07_ImageDiffs.f (k + 1) a0 a1 a2) := by
 intro a0 a1 a2 k
 obtain ⟨ih0, ih1⟩ := rollbacknetlaw07_ImageDiffs.mono_l k
 unfold rollbacknetlaw07_ImageDiffs.f
 repeat' first
   | (with_reducible exact ih0 _ _ _ _)
   | (with_reducible exact ih1 _ _ _ _)
   | (with_reducible exact image_Cost.mono _ _)
   | (with_reducible exact image_Diff.mono _ _ _)
   | (with_reducible exact rollbacknetlaw07_awake.mono _)
   | (with_reducible exact rollbacknetlaw07_change.mono _ _ _ _)
   | (with_reducible exact rollbacknetref07_Cost.mono _ _)
   | (with_reducible exact rollbacknetref07_Diff.mono _ _ _)
   | (with_reducible exact rollbacknetref07_Same.mono _ _ _)
   | (with_reducible exact LeO.refl _)
   | (with_reducible exact LeO.none _)
   | (with_reducible refine LeO.ite ?_ ?_)
   | (with_reducible refine LeO.bind ?_ (fun _ => ?_))
   | exact ih0 _ _ _ _
   | exact ih1 _ _ _ _
   | exact image_Cost.mono _ _
   | exact image_Diff.mono _ _ _
   | exact rollbacknetlaw07_awake.mono _
   | exact rollbacknetlaw07_change.mono _ _ _ _
   | exact rollbacknetref07_Cost.mono _ _
   | exact rollbacknetref07_Diff.mono _ _ _
   | exact rollbacknetref07_Same.mono _ _ _
   | exact LeO.none _
   | refine LeO.ite ?_ ?_
   | refine LeO.bind ?_ (fun _ => ?_)
set_option maxHeartbeats 8000000 in
set_option maxRecDepth 100000 in
theorem rollbacknetlaw07_ImageDiffs.calls (k : Nat) (A0 : Option Addr) (c0 : Nat) (l0 : List Int) (P1_ : Nat → Prop) (A1 : Option Addr) (c1 : Nat) (l1 : List Int) (A2 : Option Addr) (c2 : Nat) (l2 : List Int) (r : Bool) (w : World) (hr0 : Kd.C (Kd.int .i64) w A0 l0.length l0) (hc0 : l0.length ≤ c0) (hs1 : Kd.V (Kd.int .i64) 3 w w.heap.size (fun k_ => P1_ k_) (.slice A1 l1.length c1) l1) (hr2 : Kd.C (Kd.int .u8) w A2 l2.length l2) (hc2 : l2.length ≤ c2) (h : rollbacknetlaw07_ImageDiffs.f k l0 l1 l2 = some r) :
  Calls Try.prog 4 #[.slice A0 l0.length c0, .slice A1 l1.length c1, .slice A2 l2.length c2] w fun e w' => e = .returned (.bool r) ∧ Below w.heap.size w w' := by
 have HR0 := aM hr0
 have HC0 := aM hc0
 clear hr0 hc0
 have HO1 := aM (show Kd.V (Kd.int .i64) 3 w w.heap.size (fun k_ => (P1_ k_ ∨ w.heap.size ≤ k_)) (.slice A1 l1.length c1) l1 from Kd.V_mono hs1 (fun k_ hk => .inl hk))
 have HR2 := aM hr2
 have HC2 := aM hc2
 clear hr2 hc2
 have HB := aM (Below.refl w.heap.size w)
 have H : ((rollbacknetlaw07_awake.f k).bind fun t215 => (if t215 = true then (if (l0.length : Int) > 200 then (rollbacknetlaw07_ImageDiffs.j0 k l0 l1 l2 true) else (rollbacknetlaw07_ImageDiffs.j0 k l0 l1 l2 (decide ((l1.length : Int) > 200)))) else (some false))) = some r := h
 clear h
 replace H := Option.bind_eq_some_iff.mp H
 obtain ⟨t215, A40, H⟩ := H
 replace H : (if t215 = true then (if (l0.length : Int) > 200 then (rollbacknetlaw07_ImageDiffs.j0 k l0 l1 l2 true) else (rollbacknetlaw07_ImageDiffs.j0 k l0 l1 l2 (decide ((l1.length : Int) > 200)))) else (some false)) = some r := H
 have A4 := aM A40
 clear A40
 by_cases c5 : t215 = true
 ·subst c5
  have H1 : (if (l0.length : Int) > 200 then (rollbacknetlaw07_ImageDiffs.j0 k l0 l1 l2 true) else (rollbacknetlaw07_ImageDiffs.j0 k l0 l1 l2 (decide ((l1.length : Int) > 200)))) = some r := by rw [if_pos rfl] at H; exact H
  clear H
  have H := H1
  clear H1
  have HC6 := aM H
  clear H
  go_enter Try.func4, Try.ntmps4
  go_upto_region 3 with (first | ((with_reducible refine gate_callee (f := 9) rfl ?_); refine goesL_ (some 11) rfl rfl Try.func9 (by kernel_rfl) rfl #[] rfl (by (try simp only [List.map_toArray, List.map_cons, List.map_nil]); first | done | rfl | (simp only [List.length_drop, List.length_take]; rfl)) ?_; (with_reducible refine (rollbacknetlaw07_awake.calls k  true _ A4.out).mono ?_); rintro e w7 ⟨rfl, hb⟩; refine ⟨_, rfl, ?_⟩; have n0_ := aM (Kd.V_below (by (with_reducible repeat (first | apply Kd.V_alloc | apply Kd.V_drewN | apply Kd.V_drew)); exact HO1.out) hb); have n1_ := aM (below_step (by repeat (first | (with_reducible first | exact HB.out | apply wA | apply wN | apply wD) | exact HB.out)) hb); clear HO1; clear HB; have HO1 := n0_; have HB := n1_; clear n0_ n1_; (try clear hb); (try clear hb2); (try clear hk); (try clear hi); (try clear hge_)))
  (try simp only [Act.put, List.setIfInBounds_toArray, List.set_cons_zero, List.set_cons_succ])
  go_cut [20] (fun v20 wc => ∃ (kq : Nat) (x20_5 : Bool), v20 = .bool x20_5 ∧ Aside0 (rollbacknetlaw07_ImageDiffs.j0 kq l0 l1 l2 x20_5 = some r) ∧ Aside0 (kq ≤ k) ∧ Aside0 (Kd.V (Kd.int .i64) 3 wc w.heap.size (fun k_ => (P1_ k_ ∨ w.heap.size ≤ k_)) (.slice A1 l1.length c1) l1) ∧ Aside0 (Below w.heap.size w wc))
  case first =>
   have H := HC6.out
   clear HC6
   by_cases c8 : (l0.length : Int) > 200
   ·rw [if_pos c8] at H
    have c8b0 : decide (200 < (l0.length : Int)) = true := decide_eq_true c8
    have c8b1 : decide (200 < l0.length) = true := decide_eq_true (by omega)
    clear c8
    (first | rw [c8b0] | (simp only [i64_w, i32_w]; rw [c8b0]) | skip)
    have H' := aM H
    clear H
    go_wp2
    go_meet
    case rel => exact ⟨_, (true), (by first | rfl | (simp; done) | (simp [*]; done)), H', ⟨by first | omega | exact Nat.le_refl _⟩, ⟨by (with_reducible repeat (first | apply Kd.V_alloc | apply Kd.V_drewN | apply Kd.V_drew)); exact HO1.out⟩, ⟨by repeat (first | (with_reducible first | exact HB.out | apply wA | apply wN | apply wD) | exact HB.out)⟩⟩
   ·rw [if_neg c8] at H
    have c8b0 : decide (200 < (l0.length : Int)) = false := decide_eq_false c8
    have c8b1 : decide (200 < l0.length) = false := decide_eq_false (by omega)
    clear c8
    (first | rw [c8b0] | (simp only [i64_w, i32_w]; rw [c8b0]) | skip)
    have H' := aM H
    clear H
    go_wp2
    go_meet
    case rel => exact ⟨_, (decide ((l1.length : Int) > 200)), (by first | rfl | (simp; done) | (simp [*]; done)), H', ⟨by first | omega | exact Nat.le_refl _⟩, ⟨by (with_reducible repeat (first | apply Kd.V_alloc | apply Kd.V_drewN | apply Kd.V_drew)); exact HO1.out⟩, ⟨by repeat (first | (with_reducible first | exact HB.out | apply wA | apply wN | apply wD) | exact HB.out)⟩⟩
  case rest =>
   clear HC6
   try clear c1
   try clear c2
   try clear p2
   try clear c4
   try clear c5
   try clear c8
   try clear c8b0
   try clear c8b1
   obtain ⟨kq, x20_5, rfl, HA, HJ5, HO_1, HB⟩ := hcut
   cases kq with
   | zero => exact absurd HA.out (by simp [rollbacknetlaw07_ImageDiffs.j0])
   | succ kj5 =>
    have H := HA.out
    clear HA
    simp only [rollbacknetlaw07_ImageDiffs.j0] at H
    by_cases c9 : x20_5 = true
    ·subst c9
     have H1 : (some true) = some r := by rw [if_pos rfl] at H; exact H
     clear H
     have H := H1
     clear H1
     obtain rfl := Option.some.inj H
     go_wp2
     go_ret
     exact ⟨by first | rfl | (simp [errW_none, errW_some] <;> rfl) | (simp [*, errW_none, errW_some] <;> rfl), by repeat (first | (with_reducible first | exact HB.out | apply wA | apply wN | apply wD) | exact HB.out)⟩
    ·replace c9 := Bool.eq_false_iff.mpr c9
     subst c9
     have H1 : ((rollbacknetmake_New.f l2 40).bind fun bt216 => ((rollbacknetlaw07_change.f kj5 bt216.1 bt216.2 l0).bind fun bt219 => ((some (([l1, bt219.1] : List (List Int)) : List (List Int))).bind fun y223 => (rollbacknetlaw07_ImageDiffs.l0 kj5 l0 y223 (y223.length : Int) 0)))) = some r := by rw [if_neg (show ¬ (false = true) by decide)] at H; exact H
     clear H
     have H := H1
     clear H1
     replace H := Option.bind_eq_some_iff.mp H
     obtain ⟨⟨t216, t217⟩, A100, H⟩ := H
     replace H : ((rollbacknetlaw07_change.f kj5 t216 t217 l0).bind fun bt219 => ((some (([l1, bt219.1] : List (List Int)) : List (List Int))).bind fun y223 => (rollbacknetlaw07_ImageDiffs.l0 kj5 l0 y223 (y223.length : Int) 0))) = some r := H
     have A10 := aM A100
     clear A100
     replace H := Option.bind_eq_some_iff.mp H
     obtain ⟨⟨t219, t222⟩, A110, H⟩ := H
     replace H : ((some (([l1, t219] : List (List Int)) : List (List Int))).bind fun y223 => (rollbacknetlaw07_ImageDiffs.l0 kj5 l0 y223 (y223.length : Int) 0)) = some r := H
     have A11 := aM A110
     clear A110
     obtain ⟨y223, hy223⟩ : ∃ y_ : List (List Int), y_ = (([l1, t219] : List (List Int))) := ⟨_, rfl⟩
     replace H : (rollbacknetlaw07_ImageDiffs.l0 kj5 l0 y223 (y223.length : Int) 0) = some r := by first | (rw [hy223]; with_reducible exact H) | (have H2_ := (Option.bind_some _ _).symm.trans H; rw [hy223]; with_reducible exact H2_) | (have H2_ := (Option.bind_some _ _).symm.trans H; with_reducible exact H2_) | with_reducible exact H | (rw [hy223]; exact H) | exact H
     have Ny223 := aM hy223
     clear hy223
     have H' := aM H
     clear H
     go_wp2_with (first | ((with_reducible refine gate_callee (f := 13) rfl ?_); refine goesL_ (some 22) rfl rfl Try.func13 (by kernel_rfl) rfl #[.slice A2 l2.length c2, .int .i64 40] rfl (by (try simp only [List.map_toArray, List.map_cons, List.map_nil]); first | done | rfl | (simp only [List.length_drop, List.length_take]; rfl)) ?_; (with_reducible refine (rollbacknetmake_New.calls _ _ l2 40 t216 t217 w _ ?side1 ?side2 ?side3 A10.out).mono ?_); (case side1 => repeat (first | (with_reducible first | exact HB.out | apply wA | apply wN | apply wD) | exact HB.out)); (case side2 => exact HR2.out); (case side3 => exact HC2.out); rintro e w12 ⟨g218, rfl, hi, hb, hb2, hge_⟩; refine ⟨_, rfl, ?_⟩; have n0_ := aM (Kd.V_below (Kd.V_elderB (by (with_reducible repeat (first | apply Kd.V_alloc | apply Kd.V_drewN | apply Kd.V_drew)); exact HO_1.out) g218 hge_) hb2); have n1_ := aM (hb); have n2_ := aM (hi); clear HO_1; clear HB; have HO_1 := n0_; have HB := n1_; have HI218 := n2_; clear n0_ n1_ n2_; (try clear hb); (try clear hb2); (try clear hk); (try clear hi); (try clear hge_)) | ((with_reducible refine gate_callee (f := 12) rfl ?_); refine goesL_ (some 24) rfl rfl Try.func12 (by kernel_rfl) rfl #[.pointer (some ⟨g218, 0, none⟩), .slice A0 l0.length c0] rfl (by (try simp only [List.map_toArray, List.map_cons, List.map_nil]); first | done | rfl | (simp only [List.length_drop, List.length_take]; rfl)) ?_; (with_reducible refine (rollbacknetlaw07_change.calls kj5 g218 t216 t217 _ _ l0 t219 t222 w _ ?side1 ?side2 ?side3 ?side4 ?side5 A11.out).mono ?_); (case side1 => repeat (first | (with_reducible first | exact HI218.out | apply IsS53.alloc | apply IsS53.drewN | apply IsS53.drew | apply IsS53.set_1) | exact HI218.out)); (case side2 => repeat (first | (with_reducible first | exact HB.out | apply wA | apply wN | apply wD | refine below_set ?_ (IsS53.ge HI218.out)) | exact HB.out)); (case side3 => repeat (first | exact (Kd.C_below HR0.out HB.out) | (with_reducible refine Kd.C_alloc ?_ _) | (with_reducible refine Kd.C_drewN ?_ _) | (with_reducible refine Kd.C_drew ?_))); (case side4 => exact HC0.out); (case side5 => exact Kd.far_C 0 HR0.out (IsS53.ge HI218.out)); rintro e w13 ⟨v220, rfl, ho0, hi, hb, hk⟩; refine ⟨_, rfl, ?_⟩; have n0_ := aM (Kd.V_mono (Kd.V_told (Kd.V_oldK (Kd.V_mono (ok := fun k_ => (((P1_ k_ ∨ w.heap.size ≤ k_)) ∧ k_ ≠ g218)) (by (with_reducible repeat (first | apply Kd.V_alloc | apply Kd.V_drewN | apply Kd.V_drew)); exact HO_1.out) (fun k_ hk_ => (⟨hk_, hk_.2⟩ : _ ∧ k_ ≠ g218))) hk) (Kd.R_base ho0)) (fun _ h_ => h_.1)); have n1_ := aM (Kd.R_lower (Kd.R_newM (M := fun k_ => (w.heap.size ≤ k_)) ho0 (below_size (by repeat (first | (with_reducible first | exact HB.out | apply wA | apply wN | apply wD | refine below_set ?_ (IsS53.ge HI218.out)) | exact HB.out))) (fun k_ h_ => h_)) (below_size (by repeat (first | (with_reducible first | exact HB.out | apply wA | apply wN | apply wD | refine below_set ?_ (IsS53.ge HI218.out)) | exact HB.out)))); have n2_ := aM (hb); have n3_ := aM (hi); clear HO_1; clear HB; clear HI218; have HO_1 := n0_; have HO221 := n1_; have HB := n2_; have HI218 := n3_; clear n0_ n1_ n2_ n3_; (try clear hb); (try clear hb2); (try clear hk); (try clear hi); (try clear hge_); (try clear ho0); obtain ⟨Ao14, co14, eo14⟩ := Kd.R_slice HO221.out; subst eo14) | ((with_reducible refine gate_dst (N := 27) rfl ?_); (try (refine gate_guard (by rfl) ?_; dsimp only)); refine Kd.N_lit (Kd.slice 3 (Kd.int .i64)) _ 22 ?hg (N' := 27) ?hd (xs := ([l1, t219] : List (List Int))) (inner := [.slice A1 l1.length c1, .slice Ao14 t219.length co14]) (ok := (fun k_ => (P1_ k_ ∨ w.heap.size ≤ k_) ∧ k_ ≠ g218)) (okp := (fun k_ => (P1_ k_ ∨ w.heap.size ≤ k_) ∧ k_ ≠ g218)) ?hr ?hp (fun _ hk => hk) ((show ∀ k_, w13.heap.size ≤ k_ → (fun k_ => (P1_ k_ ∨ w.heap.size ≤ k_) ∧ k_ ≠ g218) k_ from fun k_ hk => ⟨(.inr (Nat.le_trans (below_size (by repeat (first | (with_reducible first | exact HB.out | apply wA | apply wN | apply wD | refine below_set ?_ (IsS53.ge HI218.out)) | exact HB.out))) hk)), IsS53.fresh (by repeat (first | (with_reducible first | exact HI218.out | apply IsS53.alloc | apply IsS53.drewN | apply IsS53.drew | apply IsS53.set_1) | exact HI218.out)) k_ hk⟩) _ (Nat.le_refl _)) (Below.refl _ _) (Nat.le_refl _) (by simp) ?_; (case hd => rfl); (case hg => rfl); (case hr => first | (go_simp; done) | (go_simp; rfl)); (case hp => exact (Reps.one (show Kd.FK (Kd.slice 3 (Kd.int .i64)) _ _ l1 [.slice A1 l1.length c1] from (Kd.FK_slice_mk (Kd.V_reads' (Kd.V_mono (ok' := (fun k_ => (P1_ k_ ∨ w.heap.size ≤ k_) ∧ k_ ≠ g218)) (HO_1.out) (fun k_ hk => ⟨hk.1.1, hk.1.2⟩))).2.1 (Kd.V_F (Kd.V_mono (ok' := (fun k_ => (P1_ k_ ∨ w.heap.size ≤ k_) ∧ k_ ≠ g218)) (HO_1.out) (fun k_ hk => ⟨hk.1.1, hk.1.2⟩))))) (Reps.one (show Kd.FK (Kd.slice 3 (Kd.int .i64)) _ _ t219 [.slice Ao14 t219.length co14] from (Kd.FK_slice_mk (Kd.R_reads' (Kd.R_mono (ok' := (fun k_ => (P1_ k_ ∨ w.heap.size ≤ k_) ∧ k_ ≠ g218)) (IsS53.apart HI218.out (HO221.out) (by decide)) (fun k_ hk => ⟨(.inr (hk.1.1)), hk.2⟩))).2.1 (Kd.R_F (Kd.R_mono (ok' := (fun k_ => (P1_ k_ ∨ w.heap.size ≤ k_) ∧ k_ ≠ g218)) (IsS53.apart HI218.out (HO221.out) (by decide)) (fun k_ hk => ⟨(.inr (hk.1.1)), hk.2⟩))))) (Reps.none _ _)))); intro v224 w15 ho16 hb hg_ hnew_; clear hg_ hnew_; (first | rw [← Ny223.out] at ho16 | (simp only [Int.reduceToNat] at ho16; rw [← Ny223.out] at ho16)); have n0_ := aM (Kd.V_elder' (by (with_reducible repeat (first | apply Kd.V_alloc | apply Kd.V_drewN | apply Kd.V_drew)); exact HO_1.out) (by first | exact Kd.N_base ho16 | exact Kd.N_base (Kd.S_N ho16)) hb); have n1_ := aM (Kd.N_lower ho16 (below_size (by repeat (first | (with_reducible first | exact HB.out | apply wA | apply wN | apply wD | refine below_set ?_ (IsS53.ge HI218.out)) | exact HB.out)))); have n2_ := aM (IsS53.below (by repeat (first | (with_reducible first | exact HI218.out | apply IsS53.alloc | apply IsS53.drewN | apply IsS53.drew | apply IsS53.set_1) | exact HI218.out)) hb); have n3_ := aM (below_step (by repeat (first | (with_reducible first | exact HB.out | apply wA | apply wN | apply wD | refine below_set ?_ (IsS53.ge HI218.out)) | exact HB.out)) hb); clear HO_1; clear HI218; clear HB; clear HO221; have HO_1 := n0_; have HO225 := n1_; have HI218 := n2_; have HB := n3_; clear n0_ n1_ n2_ n3_; clear hb ho16; obtain ⟨Ao17, co17, eo17⟩ := Kd.N_slice HO225.out; subst eo17))
     go_loopg [29] kj5 (fun kq v29 w' => ∃ (x29_2 : Int), v29 = .int .i64 x29_2 ∧ Aside0 (rollbacknetlaw07_ImageDiffs.l0 kq l0 y223 (y223.length : Int) x29_2 = some r) ∧ Aside0 (kq ≤ kj5) ∧ Aside0 (Kd.N (Kd.slice 3 (Kd.int .i64)) 22 w' w.heap.size (fun k_ => (P1_ k_ ∨ w.heap.size ≤ k_)) (.slice Ao17 y223.length co17) y223) ∧ Aside0 (Below w.heap.size w w'))
     case atStart => exact ⟨(0), (by first | rfl | (simp; done) | (simp [*]; done)), H', ⟨Nat.le_refl _⟩, ⟨by (with_reducible repeat (first | apply Kd.N_alloc | apply Kd.N_drewN | apply Kd.N_drew)); exact Kd.N_mono HO225.out (fun _ hk => hk.1)⟩, ⟨by repeat (first | (with_reducible first | exact HB.out | apply wA | apply wN | apply wD | refine below_set ?_ (IsS53.ge HI218.out)) | exact HB.out)⟩⟩
     case round =>
      clear H'
      try clear c1
      try clear c2
      try clear p2
      try clear c4
      try clear c5
      try clear c8
      try clear c8b0
      try clear c8b1
      try clear c9
      try clear c12
      try clear c13
      try clear p2
      obtain ⟨x29_2, rfl, HA, HK2, HO_27, HB⟩ := hrel
      cases gk with
      | zero => exact absurd HA.out (by simp [rollbacknetlaw07_ImageDiffs.l0])
      | succ k2 =>
       have H := HA.out
       clear HA
       simp only [rollbacknetlaw07_ImageDiffs.l0] at H
       by_cases c18 : x29_2 < (y223.length : Int)
       ·rw [if_pos c18] at H
        have c18b0 : decide (x29_2 < (y223.length : Int)) = true := decide_eq_true c18
        clear c18
        by_cases c19 : 0 ≤ x29_2
        ·rw [if_pos c19] at H
         have c19b0 : decide (0 ≤ x29_2) = true := decide_eq_true c19
         clear c19
         by_cases c20 : x29_2 < (y223.length : Int)
         ·rw [if_pos c20] at H
          have c20b0 : decide (x29_2 < (y223.length : Int)) = true := decide_eq_true c20
          clear c20
          replace H := Option.bind_eq_some_iff.mp H
          obtain ⟨t227, A210, H⟩ := H
          replace H : ((rollbacknetref07_Diff.f k2 l0 (rd_L1 y223 x29_2)).bind fun t230 => ((rollbacknetref07_Same.f k2 t227 t230).bind fun t233 => (if t233 = true then ((image_Cost.f k2 t227).bind fun t234 => ((rollbacknetref07_Cost.f k2 t227).bind fun t235 => (if t234 = t235 then ((image_Count.f (rd_L1 y223 x29_2)).bind fun t236 => ((rollbacknetref07_Count.f (rd_L1 y223 x29_2)).bind fun t237 => (if t236 = t237 then (rollbacknetlaw07_ImageDiffs.l0 k2 l0 y223 (y223.length : Int) (wrap64 (x29_2 + 1))) else (some false)))) else (some false)))) else (some false)))) = some r := H
          have A21 := aM A210
          clear A210
          replace H := Option.bind_eq_some_iff.mp H
          obtain ⟨t230, A220, H⟩ := H
          replace H : ((rollbacknetref07_Same.f k2 t227 t230).bind fun t233 => (if t233 = true then ((image_Cost.f k2 t227).bind fun t234 => ((rollbacknetref07_Cost.f k2 t227).bind fun t235 => (if t234 = t235 then ((image_Count.f (rd_L1 y223 x29_2)).bind fun t236 => ((rollbacknetref07_Count.f (rd_L1 y223 x29_2)).bind fun t237 => (if t236 = t237 then (rollbacknetlaw07_ImageDiffs.l0 k2 l0 y223 (y223.length : Int) (wrap64 (x29_2 + 1))) else (some false)))) else (some false)))) else (some false))) = some r := H
          have A22 := aM A220
          clear A220
          replace H := Option.bind_eq_some_iff.mp H
          obtain ⟨t233, A230, H⟩ := H
          replace H : (if t233 = true then ((image_Cost.f k2 t227).bind fun t234 => ((rollbacknetref07_Cost.f k2 t227).bind fun t235 => (if t234 = t235 then ((image_Count.f (rd_L1 y223 x29_2)).bind fun t236 => ((rollbacknetref07_Count.f (rd_L1 y223 x29_2)).bind fun t237 => (if t236 = t237 then (rollbacknetlaw07_ImageDiffs.l0 k2 l0 y223 (y223.length : Int) (wrap64 (x29_2 + 1))) else (some false)))) else (some false)))) else (some false)) = some r := H
          have A23 := aM A230
          clear A230
          by_cases c24 : t233 = true
          ·subst c24
           have H1 : ((image_Cost.f k2 t227).bind fun t234 => ((rollbacknetref07_Cost.f k2 t227).bind fun t235 => (if t234 = t235 then ((image_Count.f (rd_L1 y223 x29_2)).bind fun t236 => ((rollbacknetref07_Count.f (rd_L1 y223 x29_2)).bind fun t237 => (if t236 = t237 then (rollbacknetlaw07_ImageDiffs.l0 k2 l0 y223 (y223.length : Int) (wrap64 (x29_2 + 1))) else (some false)))) else (some false)))) = some r := by rw [if_pos rfl] at H; exact H
           clear H
           have H := H1
           clear H1
           replace H := Option.bind_eq_some_iff.mp H
           obtain ⟨t234, A250, H⟩ := H
           replace H : ((rollbacknetref07_Cost.f k2 t227).bind fun t235 => (if t234 = t235 then ((image_Count.f (rd_L1 y223 x29_2)).bind fun t236 => ((rollbacknetref07_Count.f (rd_L1 y223 x29_2)).bind fun t237 => (if t236 = t237 then (rollbacknetlaw07_ImageDiffs.l0 k2 l0 y223 (y223.length : Int) (wrap64 (x29_2 + 1))) else (some false)))) else (some false))) = some r := H
           have A25 := aM A250
           clear A250
           replace H := Option.bind_eq_some_iff.mp H
           obtain ⟨t235, A260, H⟩ := H
           replace H : (if t234 = t235 then ((image_Count.f (rd_L1 y223 x29_2)).bind fun t236 => ((rollbacknetref07_Count.f (rd_L1 y223 x29_2)).bind fun t237 => (if t236 = t237 then (rollbacknetlaw07_ImageDiffs.l0 k2 l0 y223 (y223.length : Int) (wrap64 (x29_2 + 1))) else (some false)))) else (some false)) = some r := H
           have A26 := aM A260
           clear A260
           by_cases c27 : t234 = t235
           ·rw [if_pos c27] at H
            have c27b0 : (t234 == t235) = true := beq_iff_eq.mpr c27
            have c27b1 : (t234 != t235) = false := bne_eq_false_iff_eq.mpr c27
            clear c27
            replace H := Option.bind_eq_some_iff.mp H
            obtain ⟨t236, A280, H⟩ := H
            replace H : ((rollbacknetref07_Count.f (rd_L1 y223 x29_2)).bind fun t237 => (if t236 = t237 then (rollbacknetlaw07_ImageDiffs.l0 k2 l0 y223 (y223.length : Int) (wrap64 (x29_2 + 1))) else (some false))) = some r := H
            have A28 := aM A280
            clear A280
            replace H := Option.bind_eq_some_iff.mp H
            obtain ⟨t237, A290, H⟩ := H
            replace H : (if t236 = t237 then (rollbacknetlaw07_ImageDiffs.l0 k2 l0 y223 (y223.length : Int) (wrap64 (x29_2 + 1))) else (some false)) = some r := H
            have A29 := aM A290
            clear A290
            by_cases c30 : t236 = t237
            ·rw [if_pos c30] at H
             have c30b0 : (t236 == t237) = true := beq_iff_eq.mpr c30
             have c30b1 : (t236 != t237) = false := bne_eq_false_iff_eq.mpr c30
             clear c30
             have H' := aM H
             clear H
             have p226 : 0 ≤ (x29_2 : Int) := of_decide_eq_true (by first | (with_reducible assumption) | assumption)
             have q226 : x29_2 < (y223.length : Int) := of_decide_eq_true (by first | (with_reducible assumption) | assumption)
             obtain ⟨ad226, A226_0, c226_0, e226, hx226_0, hl226_0, hi226_0⟩ := at_L1 (Kd.N_reads' HO_27.out).2.2 x29_2 p226 q226
             cases e226
             obtain ⟨ce226, hce226, hMe226, hcc226⟩ := Kd.N_get HO_27.out [] x29_2 p226 (by first | exact q226 | exact of_decide_eq_true (by first | (with_reducible assumption) | assumption) | (have e_ := (Kd.N_reads' HO_27.out).1; omega))
             obtain ⟨ua226_0, uc226_0, rfl, ul226_0, ge226_0⟩ := Kd.FK_slice_open hMe226
             have hv226_0 := hcc226 0 _ rfl
             rw [Nat.add_zero, show ((Kd.slice 3 (Kd.int .i64))).sz = 1 from rfl, Nat.mul_one] at hv226_0
             replace hv226_0 := Option.some.inj (hv226_0.symm.trans hx226_0)
             injection hv226_0 with hva_ hvn_ hvc_
             rw [hva_] at ge226_0
             rw [hvc_] at ul226_0
             have HL226_0 := aM (show Kd.V (Kd.int .i64) 3 _ w.heap.size _ _ (rd_L1 y223 x29_2) from Kd.V_mk ul226_0 ge226_0)
             clear hva_ hvn_ hvc_ ge226_0 ul226_0
             clear hcc226 hce226
             have HR226_0 := aM hi226_0
             have HC226_0 := aM hl226_0
             clear hi226_0 hl226_0
             replace p226 := eq_true p226
             replace q226 := eq_true q226
             go_wp2_with (first | ((with_reducible refine gate_callee (f := 11) rfl ?_); refine goesL_ (some 35) rfl rfl Try.func11 (by kernel_rfl) rfl #[.slice A0 l0.length c0, .slice A226_0 (rd_L1 y223 x29_2).length c226_0] rfl (by (try simp only [List.map_toArray, List.map_cons, List.map_nil]); first | done | rfl | (simp only [List.length_drop, List.length_take]; rfl)) ?_; (with_reducible refine (image_Diff.calls k2 _ _ l0 _ _ (rd_L1 y223 x29_2) t227 _ ?side1 ?side2 ?side3 ?side4 A21.out).mono ?_); (case side1 => repeat (first | exact (Kd.C_below HR0.out HB.out) | (with_reducible refine Kd.C_alloc ?_ _) | (with_reducible refine Kd.C_drewN ?_ _) | (with_reducible refine Kd.C_drew ?_))); (case side2 => exact HC0.out); (case side3 => repeat (first | exact (by repeat (first | (with_reducible exact HR226_0.out) | (with_reducible refine Kd.C_alloc ?_ _) | (with_reducible refine Kd.C_drewN ?_ _) | (with_reducible refine Kd.C_drew ?_) | exact HR226_0.out)) | (with_reducible refine Kd.C_alloc ?_ _) | (with_reducible refine Kd.C_drewN ?_ _) | (with_reducible refine Kd.C_drew ?_))); (case side4 => exact HC226_0.out); rintro e w31 ⟨v228, rfl, ho0, hb⟩; refine ⟨_, rfl, ?_⟩; have n0_ := aM (Kd.N_elder' (by (with_reducible repeat (first | apply Kd.N_alloc | apply Kd.N_drewN | apply Kd.N_drew)); exact HO_27.out) (by first | exact Kd.N_base ho0 | exact Kd.N_base (Kd.S_N ho0)) hb); have n1_ := aM (Kd.V_elder' (by (with_reducible repeat (first | apply Kd.V_alloc | apply Kd.V_drewN | apply Kd.V_drew)); exact HL226_0.out) (by first | exact Kd.N_base ho0 | exact Kd.N_base (Kd.S_N ho0)) hb); have n2_ := aM (Kd.N_lower (Kd.N_mono (ok' := fun k_ => (P1_ k_ ∨ w.heap.size ≤ k_) ∧ some k_ ≠ (.slice (some ad226) y223.length co17 : Value).ownBlock) (Kd.S_N (Kd.S_bound ho0)) (fun k_ hk_ => ⟨(.inr (Nat.le_trans (below_size (by repeat (first | (with_reducible first | exact HB.out | apply wA | apply wN | apply wD) | exact HB.out))) hk_.2.1)), (Kd.fresh' (Kd.N_lt (by (with_reducible repeat (first | apply Kd.N_alloc | apply Kd.N_drewN | apply Kd.N_drew)); exact HO_27.out)) k_ hk_.2.1)⟩)) (below_size (by repeat (first | (with_reducible first | exact HB.out | apply wA | apply wN | apply wD) | exact HB.out)))); have n3_ := aM (Kd.C_below (by repeat (first | (with_reducible exact HR226_0.out) | (with_reducible refine Kd.C_alloc ?_ _) | (with_reducible refine Kd.C_drewN ?_ _) | (with_reducible refine Kd.C_drew ?_) | exact HR226_0.out)) hb); have n4_ := aM (below_step (by repeat (first | (with_reducible first | exact HB.out | apply wA | apply wN | apply wD) | exact HB.out)) hb); clear HO_27; clear HL226_0; clear HR226_0; clear HB; have HO_27 := n0_; have HL226_0 := n1_; have HO229 := n2_; have HR226_0 := n3_; have HB := n4_; clear n0_ n1_ n2_ n3_ n4_; (try clear hb); (try clear hb2); (try clear hk); (try clear hi); (try clear hge_); (try clear ho0)) | ((with_reducible refine gate_callee (f := 15) rfl ?_); refine goesL_ (some 39) rfl rfl Try.func15 (by kernel_rfl) rfl #[.slice A0 l0.length c0, .slice A226_0 (rd_L1 y223 x29_2).length c226_0] rfl (by (try simp only [List.map_toArray, List.map_cons, List.map_nil]); first | done | rfl | (simp only [List.length_drop, List.length_take]; rfl)) ?_; (with_reducible refine (rollbacknetref07_Diff.calls k2 _ _ l0 _ _ (rd_L1 y223 x29_2) t230 _ ?side1 ?side2 ?side3 ?side4 A22.out).mono ?_); (case side1 => repeat (first | exact (Kd.C_below HR0.out HB.out) | (with_reducible refine Kd.C_alloc ?_ _) | (with_reducible refine Kd.C_drewN ?_ _) | (with_reducible refine Kd.C_drew ?_))); (case side2 => exact HC0.out); (case side3 => repeat (first | exact (by repeat (first | (with_reducible exact HR226_0.out) | (with_reducible refine Kd.C_alloc ?_ _) | (with_reducible refine Kd.C_drewN ?_ _) | (with_reducible refine Kd.C_drew ?_) | exact HR226_0.out)) | (with_reducible refine Kd.C_alloc ?_ _) | (with_reducible refine Kd.C_drewN ?_ _) | (with_reducible refine Kd.C_drew ?_))); (case side4 => exact HC226_0.out); rintro e w32 ⟨v231, rfl, ho0, hb⟩; refine ⟨_, rfl, ?_⟩; have n0_ := aM (Kd.N_elder' (by (with_reducible repeat (first | apply Kd.N_alloc | apply Kd.N_drewN | apply Kd.N_drew)); exact HO_27.out) (by first | exact Kd.N_base ho0 | exact Kd.N_base (Kd.S_N ho0)) hb); have n1_ := aM (Kd.V_elder' (by (with_reducible repeat (first | apply Kd.V_alloc | apply Kd.V_drewN | apply Kd.V_drew)); exact HL226_0.out) (by first | exact Kd.N_base ho0 | exact Kd.N_base (Kd.S_N ho0)) hb); have n2_ := aM (Kd.N_elder' (by (with_reducible repeat (first | apply Kd.N_alloc | apply Kd.N_drewN | apply Kd.N_drew)); exact HO229.out) (by first | exact Kd.N_base ho0 | exact Kd.N_base (Kd.S_N ho0)) hb); have n3_ := aM (Kd.N_lower (Kd.N_mono (ok' := fun k_ => (P1_ k_ ∨ w.heap.size ≤ k_) ∧ some k_ ≠ (.slice (some ad226) y223.length co17 : Value).ownBlock ∧ some k_ ≠ (v228 : Value).ownBlock) (Kd.S_N (Kd.S_bound ho0)) (fun k_ hk_ => ⟨(.inr (Nat.le_trans (below_size (by repeat (first | (with_reducible first | exact HB.out | apply wA | apply wN | apply wD) | exact HB.out))) hk_.2.1)), (Kd.fresh' (Kd.N_lt (by (with_reducible repeat (first | apply Kd.N_alloc | apply Kd.N_drewN | apply Kd.N_drew)); exact HO_27.out)) k_ hk_.2.1), (Kd.fresh' (Kd.N_lt (by (with_reducible repeat (first | apply Kd.N_alloc | apply Kd.N_drewN | apply Kd.N_drew)); exact HO229.out)) k_ hk_.2.1)⟩)) (below_size (by repeat (first | (with_reducible first | exact HB.out | apply wA | apply wN | apply wD) | exact HB.out)))); have n4_ := aM (Kd.C_below (by repeat (first | (with_reducible exact HR226_0.out) | (with_reducible refine Kd.C_alloc ?_ _) | (with_reducible refine Kd.C_drewN ?_ _) | (with_reducible refine Kd.C_drew ?_) | exact HR226_0.out)) hb); have n5_ := aM (below_step (by repeat (first | (with_reducible first | exact HB.out | apply wA | apply wN | apply wD) | exact HB.out)) hb); clear HO_27; clear HL226_0; clear HO229; clear HR226_0; clear HB; have HO_27 := n0_; have HL226_0 := n1_; have HO229 := n2_; have HO232 := n3_; have HR226_0 := n4_; have HB := n5_; clear n0_ n1_ n2_ n3_ n4_ n5_; (try clear hb); (try clear hb2); (try clear hk); (try clear hi); (try clear hge_); (try clear ho0); obtain ⟨Ao33, co33, eo33⟩ := Kd.N_slice HO229.out; subst eo33; obtain ⟨Ao34, co34, eo34⟩ := Kd.N_slice HO232.out; subst eo34) | ((with_reducible refine gate_callee (f := 14) rfl ?_); refine goesL_ (some 40) rfl rfl Try.func14 (by kernel_rfl) rfl #[.slice Ao33 t227.length co33, .slice Ao34 t230.length co34] rfl (by (try simp only [List.map_toArray, List.map_cons, List.map_nil]); first | done | rfl | (simp only [List.length_drop, List.length_take]; rfl)) ?_; (with_reducible refine (rollbacknetref07_Same.calls k2 _ _ t227 _ _ t230 true _ ?side1 ?side2 ?side3 ?side4 A23.out).mono ?_); (case side1 => repeat (first | exact (Kd.N_reads' HO229.out).2.2 | (with_reducible refine Kd.C_alloc ?_ _) | (with_reducible refine Kd.C_drewN ?_ _) | (with_reducible refine Kd.C_drew ?_))); (case side2 => exact (Kd.N_reads' HO229.out).2.1); (case side3 => repeat (first | exact (Kd.N_reads' HO232.out).2.2 | (with_reducible refine Kd.C_alloc ?_ _) | (with_reducible refine Kd.C_drewN ?_ _) | (with_reducible refine Kd.C_drew ?_))); (case side4 => exact (Kd.N_reads' HO232.out).2.1); rintro e w' ⟨rfl, ⟨nd, rfl⟩⟩; refine ⟨_, rfl, ?_⟩) | (go_at_call 16; (with_reducible refine (image_Cost.calls k2 _ _ t227 t234 _ ?side1 ?side2 A25.out).mono ?_); (case side1 => repeat (first | exact (Kd.N_reads' HO229.out).2.2 | (with_reducible refine Kd.C_alloc ?_ _) | (with_reducible refine Kd.C_drewN ?_ _) | (with_reducible refine Kd.C_drew ?_))); (case side2 => exact (Kd.N_reads' HO229.out).2.1); rintro e w35 ⟨rfl, hb⟩; have n0_ := aM (Kd.N_below (by (with_reducible repeat (first | apply Kd.N_alloc | apply Kd.N_drewN | apply Kd.N_drew)); exact HO_27.out) hb); have n1_ := aM (Kd.V_below (by (with_reducible repeat (first | apply Kd.V_alloc | apply Kd.V_drewN | apply Kd.V_drew)); exact HL226_0.out) hb); have n2_ := aM (Kd.N_below (by (with_reducible repeat (first | apply Kd.N_alloc | apply Kd.N_drewN | apply Kd.N_drew)); exact HO229.out) hb); have n3_ := aM (Kd.N_below (by (with_reducible repeat (first | apply Kd.N_alloc | apply Kd.N_drewN | apply Kd.N_drew)); exact HO232.out) hb); have n4_ := aM (Kd.C_below (by repeat (first | (with_reducible exact HR226_0.out) | (with_reducible refine Kd.C_alloc ?_ _) | (with_reducible refine Kd.C_drewN ?_ _) | (with_reducible refine Kd.C_drew ?_) | exact HR226_0.out)) hb); have n5_ := aM (below_step (by repeat (first | (with_reducible first | exact HB.out | apply wA | apply wN | apply wD) | exact HB.out)) hb); clear HO_27; clear HL226_0; clear HO229; clear HO232; clear HR226_0; clear HB; have HO_27 := n0_; have HL226_0 := n1_; have HO229 := n2_; have HO232 := n3_; have HR226_0 := n4_; have HB := n5_; clear n0_ n1_ n2_ n3_ n4_ n5_; (try clear hb); (try clear hb2); (try clear hk); (try clear hi); (try clear hge_)) | (go_at_call 17; (with_reducible refine (rollbacknetref07_Cost.calls k2 _ _ t227 t235 _ ?side1 ?side2 A26.out).mono ?_); (case side1 => repeat (first | exact (Kd.N_reads' HO229.out).2.2 | (with_reducible refine Kd.C_alloc ?_ _) | (with_reducible refine Kd.C_drewN ?_ _) | (with_reducible refine Kd.C_drew ?_))); (case side2 => exact (Kd.N_reads' HO229.out).2.1); rintro e w' ⟨rfl, ⟨nd, rfl⟩⟩) | (go_at_call 18; (with_reducible refine (image_Count.calls _ _ (rd_L1 y223 x29_2) t236 _ ?side1 ?side2 A28.out).mono ?_); (case side1 => repeat (first | exact (by repeat (first | (with_reducible exact HR226_0.out) | (with_reducible refine Kd.C_alloc ?_ _) | (with_reducible refine Kd.C_drewN ?_ _) | (with_reducible refine Kd.C_drew ?_) | exact HR226_0.out)) | (with_reducible refine Kd.C_alloc ?_ _) | (with_reducible refine Kd.C_drewN ?_ _) | (with_reducible refine Kd.C_drew ?_))); (case side2 => exact HC226_0.out); rintro e w' ⟨rfl, ⟨nd, rfl⟩⟩) | (go_at_call 19; (with_reducible refine (rollbacknetref07_Count.calls _ _ (rd_L1 y223 x29_2) t237 _ ?side1 ?side2 A29.out).mono ?_); (case side1 => repeat (first | exact (by repeat (first | (with_reducible exact HR226_0.out) | (with_reducible refine Kd.C_alloc ?_ _) | (with_reducible refine Kd.C_drewN ?_ _) | (with_reducible refine Kd.C_drew ?_) | exact HR226_0.out)) | (with_reducible refine Kd.C_alloc ?_ _) | (with_reducible refine Kd.C_drewN ?_ _) | (with_reducible refine Kd.C_drew ?_))); (case side2 => exact HC226_0.out); rintro e w' ⟨rfl, ⟨nd, rfl⟩⟩))
             go_roundg k2
             case measure => have := HJ5.out; have := HK2.out; omega
             case rel => exact ⟨(wrap64 (x29_2 + 1)), (by first | rfl | (simp; done) | (simp [*]; done)), H', ⟨by have := HJ5.out; have := HK2.out; omega⟩, ⟨by (with_reducible repeat (first | apply Kd.N_alloc | apply Kd.N_drewN | apply Kd.N_drew)); exact Kd.N_mono HO_27.out (fun _ hk => hk.1.1)⟩, ⟨by repeat (first | (with_reducible first | exact HB.out | apply wA | apply wN | apply wD) | exact HB.out)⟩⟩
            ·rw [if_neg c30] at H
             have c30b0 : (t236 == t237) = false := beq_eq_false_iff_ne.mpr c30
             have c30b1 : (t236 != t237) = true := bne_iff_ne.mpr c30
             obtain rfl := Option.some.inj H
             have p226 : 0 ≤ (x29_2 : Int) := of_decide_eq_true (by first | (with_reducible assumption) | assumption)
             have q226 : x29_2 < (y223.length : Int) := of_decide_eq_true (by first | (with_reducible assumption) | assumption)
             obtain ⟨ad226, A226_0, c226_0, e226, hx226_0, hl226_0, hi226_0⟩ := at_L1 (Kd.N_reads' HO_27.out).2.2 x29_2 p226 q226
             cases e226
             obtain ⟨ce226, hce226, hMe226, hcc226⟩ := Kd.N_get HO_27.out [] x29_2 p226 (by first | exact q226 | exact of_decide_eq_true (by first | (with_reducible assumption) | assumption) | (have e_ := (Kd.N_reads' HO_27.out).1; omega))
             obtain ⟨ua226_0, uc226_0, rfl, ul226_0, ge226_0⟩ := Kd.FK_slice_open hMe226
             have hv226_0 := hcc226 0 _ rfl
             rw [Nat.add_zero, show ((Kd.slice 3 (Kd.int .i64))).sz = 1 from rfl, Nat.mul_one] at hv226_0
             replace hv226_0 := Option.some.inj (hv226_0.symm.trans hx226_0)
             injection hv226_0 with hva_ hvn_ hvc_
             rw [hva_] at ge226_0
             rw [hvc_] at ul226_0
             have HL226_0 := aM (show Kd.V (Kd.int .i64) 3 _ w.heap.size _ _ (rd_L1 y223 x29_2) from Kd.V_mk ul226_0 ge226_0)
             clear hva_ hvn_ hvc_ ge226_0 ul226_0
             clear hcc226 hce226
             have HR226_0 := aM hi226_0
             have HC226_0 := aM hl226_0
             clear hi226_0 hl226_0
             replace p226 := eq_true p226
             replace q226 := eq_true q226
             go_wp2_with (first | ((with_reducible refine gate_callee (f := 11) rfl ?_); refine goesL_ (some 35) rfl rfl Try.func11 (by kernel_rfl) rfl #[.slice A0 l0.length c0, .slice A226_0 (rd_L1 y223 x29_2).length c226_0] rfl (by (try simp only [List.map_toArray, List.map_cons, List.map_nil]); first | done | rfl | (simp only [List.length_drop, List.length_take]; rfl)) ?_; (with_reducible refine (image_Diff.calls k2 _ _ l0 _ _ (rd_L1 y223 x29_2) t227 _ ?side1 ?side2 ?side3 ?side4 A21.out).mono ?_); (case side1 => repeat (first | exact (Kd.C_below HR0.out HB.out) | (with_reducible refine Kd.C_alloc ?_ _) | (with_reducible refine Kd.C_drewN ?_ _) | (with_reducible refine Kd.C_drew ?_))); (case side2 => exact HC0.out); (case side3 => repeat (first | exact (by repeat (first | (with_reducible exact HR226_0.out) | (with_reducible refine Kd.C_alloc ?_ _) | (with_reducible refine Kd.C_drewN ?_ _) | (with_reducible refine Kd.C_drew ?_) | exact HR226_0.out)) | (with_reducible refine Kd.C_alloc ?_ _) | (with_reducible refine Kd.C_drewN ?_ _) | (with_reducible refine Kd.C_drew ?_))); (case side4 => exact HC226_0.out); rintro e w36 ⟨v228, rfl, ho0, hb⟩; refine ⟨_, rfl, ?_⟩; have n0_ := aM (Kd.N_elder' (by (with_reducible repeat (first | apply Kd.N_alloc | apply Kd.N_drewN | apply Kd.N_drew)); exact HO_27.out) (by first | exact Kd.N_base ho0 | exact Kd.N_base (Kd.S_N ho0)) hb); have n1_ := aM (Kd.V_elder' (by (with_reducible repeat (first | apply Kd.V_alloc | apply Kd.V_drewN | apply Kd.V_drew)); exact HL226_0.out) (by first | exact Kd.N_base ho0 | exact Kd.N_base (Kd.S_N ho0)) hb); have n2_ := aM (Kd.N_lower (Kd.N_mono (ok' := fun k_ => (P1_ k_ ∨ w.heap.size ≤ k_) ∧ some k_ ≠ (.slice (some ad226) y223.length co17 : Value).ownBlock) (Kd.S_N (Kd.S_bound ho0)) (fun k_ hk_ => ⟨(.inr (Nat.le_trans (below_size (by repeat (first | (with_reducible first | exact HB.out | apply wA | apply wN | apply wD) | exact HB.out))) hk_.2.1)), (Kd.fresh' (Kd.N_lt (by (with_reducible repeat (first | apply Kd.N_alloc | apply Kd.N_drewN | apply Kd.N_drew)); exact HO_27.out)) k_ hk_.2.1)⟩)) (below_size (by repeat (first | (with_reducible first | exact HB.out | apply wA | apply wN | apply wD) | exact HB.out)))); have n3_ := aM (Kd.C_below (by repeat (first | (with_reducible exact HR226_0.out) | (with_reducible refine Kd.C_alloc ?_ _) | (with_reducible refine Kd.C_drewN ?_ _) | (with_reducible refine Kd.C_drew ?_) | exact HR226_0.out)) hb); have n4_ := aM (below_step (by repeat (first | (with_reducible first | exact HB.out | apply wA | apply wN | apply wD) | exact HB.out)) hb); clear HO_27; clear HL226_0; clear HR226_0; clear HB; have HO_27 := n0_; have HL226_0 := n1_; have HO229 := n2_; have HR226_0 := n3_; have HB := n4_; clear n0_ n1_ n2_ n3_ n4_; (try clear hb); (try clear hb2); (try clear hk); (try clear hi); (try clear hge_); (try clear ho0)) | ((with_reducible refine gate_callee (f := 15) rfl ?_); refine goesL_ (some 39) rfl rfl Try.func15 (by kernel_rfl) rfl #[.slice A0 l0.length c0, .slice A226_0 (rd_L1 y223 x29_2).length c226_0] rfl (by (try simp only [List.map_toArray, List.map_cons, List.map_nil]); first | done | rfl | (simp only [List.length_drop, List.length_take]; rfl)) ?_; (with_reducible refine (rollbacknetref07_Diff.calls k2 _ _ l0 _ _ (rd_L1 y223 x29_2) t230 _ ?side1 ?side2 ?side3 ?side4 A22.out).mono ?_); (case side1 => repeat (first | exact (Kd.C_below HR0.out HB.out) | (with_reducible refine Kd.C_alloc ?_ _) | (with_reducible refine Kd.C_drewN ?_ _) | (with_reducible refine Kd.C_drew ?_))); (case side2 => exact HC0.out); (case side3 => repeat (first | exact (by repeat (first | (with_reducible exact HR226_0.out) | (with_reducible refine Kd.C_alloc ?_ _) | (with_reducible refine Kd.C_drewN ?_ _) | (with_reducible refine Kd.C_drew ?_) | exact HR226_0.out)) | (with_reducible refine Kd.C_alloc ?_ _) | (with_reducible refine Kd.C_drewN ?_ _) | (with_reducible refine Kd.C_drew ?_))); (case side4 => exact HC226_0.out); rintro e w37 ⟨v231, rfl, ho0, hb⟩; refine ⟨_, rfl, ?_⟩; have n0_ := aM (Kd.N_elder' (by (with_reducible repeat (first | apply Kd.N_alloc | apply Kd.N_drewN | apply Kd.N_drew)); exact HO_27.out) (by first | exact Kd.N_base ho0 | exact Kd.N_base (Kd.S_N ho0)) hb); have n1_ := aM (Kd.V_elder' (by (with_reducible repeat (first | apply Kd.V_alloc | apply Kd.V_drewN | apply Kd.V_drew)); exact HL226_0.out) (by first | exact Kd.N_base ho0 | exact Kd.N_base (Kd.S_N ho0)) hb); have n2_ := aM (Kd.N_elder' (by (with_reducible repeat (first | apply Kd.N_alloc | apply Kd.N_drewN | apply Kd.N_drew)); exact HO229.out) (by first | exact Kd.N_base ho0 | exact Kd.N_base (Kd.S_N ho0)) hb); have n3_ := aM (Kd.N_lower (Kd.N_mono (ok' := fun k_ => (P1_ k_ ∨ w.heap.size ≤ k_) ∧ some k_ ≠ (.slice (some ad226) y223.length co17 : Value).ownBlock ∧ some k_ ≠ (v228 : Value).ownBlock) (Kd.S_N (Kd.S_bound ho0)) (fun k_ hk_ => ⟨(.inr (Nat.le_trans (below_size (by repeat (first | (with_reducible first | exact HB.out | apply wA | apply wN | apply wD) | exact HB.out))) hk_.2.1)), (Kd.fresh' (Kd.N_lt (by (with_reducible repeat (first | apply Kd.N_alloc | apply Kd.N_drewN | apply Kd.N_drew)); exact HO_27.out)) k_ hk_.2.1), (Kd.fresh' (Kd.N_lt (by (with_reducible repeat (first | apply Kd.N_alloc | apply Kd.N_drewN | apply Kd.N_drew)); exact HO229.out)) k_ hk_.2.1)⟩)) (below_size (by repeat (first | (with_reducible first | exact HB.out | apply wA | apply wN | apply wD) | exact HB.out)))); have n4_ := aM (Kd.C_below (by repeat (first | (with_reducible exact HR226_0.out) | (with_reducible refine Kd.C_alloc ?_ _) | (with_reducible refine Kd.C_drewN ?_ _) | (with_reducible refine Kd.C_drew ?_) | exact HR226_0.out)) hb); have n5_ := aM (below_step (by repeat (first | (with_reducible first | exact HB.out | apply wA | apply wN | apply wD) | exact HB.out)) hb); clear HO_27; clear HL226_0; clear HO229; clear HR226_0; clear HB; have HO_27 := n0_; have HL226_0 := n1_; have HO229 := n2_; have HO232 := n3_; have HR226_0 := n4_; have HB := n5_; clear n0_ n1_ n2_ n3_ n4_ n5_; (try clear hb); (try clear hb2); (try clear hk); (try clear hi); (try clear hge_); (try clear ho0); obtain ⟨Ao38, co38, eo38⟩ := Kd.N_slice HO229.out; subst eo38; obtain ⟨Ao39, co39, eo39⟩ := Kd.N_slice HO232.out; subst eo39) | ((with_reducible refine gate_callee (f := 14) rfl ?_); refine goesL_ (some 40) rfl rfl Try.func14 (by kernel_rfl) rfl #[.slice Ao38 t227.length co38, .slice Ao39 t230.length co39] rfl (by (try simp only [List.map_toArray, List.map_cons, List.map_nil]); first | done | rfl | (simp only [List.length_drop, List.length_take]; rfl)) ?_; (with_reducible refine (rollbacknetref07_Same.calls k2 _ _ t227 _ _ t230 true _ ?side1 ?side2 ?side3 ?side4 A23.out).mono ?_); (case side1 => repeat (first | exact (Kd.N_reads' HO229.out).2.2 | (with_reducible refine Kd.C_alloc ?_ _) | (with_reducible refine Kd.C_drewN ?_ _) | (with_reducible refine Kd.C_drew ?_))); (case side2 => exact (Kd.N_reads' HO229.out).2.1); (case side3 => repeat (first | exact (Kd.N_reads' HO232.out).2.2 | (with_reducible refine Kd.C_alloc ?_ _) | (with_reducible refine Kd.C_drewN ?_ _) | (with_reducible refine Kd.C_drew ?_))); (case side4 => exact (Kd.N_reads' HO232.out).2.1); rintro e w' ⟨rfl, ⟨nd, rfl⟩⟩; refine ⟨_, rfl, ?_⟩) | (go_at_call 16; (with_reducible refine (image_Cost.calls k2 _ _ t227 t234 _ ?side1 ?side2 A25.out).mono ?_); (case side1 => repeat (first | exact (Kd.N_reads' HO229.out).2.2 | (with_reducible refine Kd.C_alloc ?_ _) | (with_reducible refine Kd.C_drewN ?_ _) | (with_reducible refine Kd.C_drew ?_))); (case side2 => exact (Kd.N_reads' HO229.out).2.1); rintro e w40 ⟨rfl, hb⟩; have n0_ := aM (Kd.N_below (by (with_reducible repeat (first | apply Kd.N_alloc | apply Kd.N_drewN | apply Kd.N_drew)); exact HO_27.out) hb); have n1_ := aM (Kd.V_below (by (with_reducible repeat (first | apply Kd.V_alloc | apply Kd.V_drewN | apply Kd.V_drew)); exact HL226_0.out) hb); have n2_ := aM (Kd.N_below (by (with_reducible repeat (first | apply Kd.N_alloc | apply Kd.N_drewN | apply Kd.N_drew)); exact HO229.out) hb); have n3_ := aM (Kd.N_below (by (with_reducible repeat (first | apply Kd.N_alloc | apply Kd.N_drewN | apply Kd.N_drew)); exact HO232.out) hb); have n4_ := aM (Kd.C_below (by repeat (first | (with_reducible exact HR226_0.out) | (with_reducible refine Kd.C_alloc ?_ _) | (with_reducible refine Kd.C_drewN ?_ _) | (with_reducible refine Kd.C_drew ?_) | exact HR226_0.out)) hb); have n5_ := aM (below_step (by repeat (first | (with_reducible first | exact HB.out | apply wA | apply wN | apply wD) | exact HB.out)) hb); clear HO_27; clear HL226_0; clear HO229; clear HO232; clear HR226_0; clear HB; have HO_27 := n0_; have HL226_0 := n1_; have HO229 := n2_; have HO232 := n3_; have HR226_0 := n4_; have HB := n5_; clear n0_ n1_ n2_ n3_ n4_ n5_; (try clear hb); (try clear hb2); (try clear hk); (try clear hi); (try clear hge_)) | (go_at_call 17; (with_reducible refine (rollbacknetref07_Cost.calls k2 _ _ t227 t235 _ ?side1 ?side2 A26.out).mono ?_); (case side1 => repeat (first | exact (Kd.N_reads' HO229.out).2.2 | (with_reducible refine Kd.C_alloc ?_ _) | (with_reducible refine Kd.C_drewN ?_ _) | (with_reducible refine Kd.C_drew ?_))); (case side2 => exact (Kd.N_reads' HO229.out).2.1); rintro e w' ⟨rfl, ⟨nd, rfl⟩⟩) | (go_at_call 18; (with_reducible refine (image_Count.calls _ _ (rd_L1 y223 x29_2) t236 _ ?side1 ?side2 A28.out).mono ?_); (case side1 => repeat (first | exact (by repeat (first | (with_reducible exact HR226_0.out) | (with_reducible refine Kd.C_alloc ?_ _) | (with_reducible refine Kd.C_drewN ?_ _) | (with_reducible refine Kd.C_drew ?_) | exact HR226_0.out)) | (with_reducible refine Kd.C_alloc ?_ _) | (with_reducible refine Kd.C_drewN ?_ _) | (with_reducible refine Kd.C_drew ?_))); (case side2 => exact HC226_0.out); rintro e w' ⟨rfl, ⟨nd, rfl⟩⟩) | (go_at_call 19; (with_reducible refine (rollbacknetref07_Count.calls _ _ (rd_L1 y223 x29_2) t237 _ ?side1 ?side2 A29.out).mono ?_); (case side1 => repeat (first | exact (by repeat (first | (with_reducible exact HR226_0.out) | (with_reducible refine Kd.C_alloc ?_ _) | (with_reducible refine Kd.C_drewN ?_ _) | (with_reducible refine Kd.C_drew ?_) | exact HR226_0.out)) | (with_reducible refine Kd.C_alloc ?_ _) | (with_reducible refine Kd.C_drewN ?_ _) | (with_reducible refine Kd.C_drew ?_))); (case side2 => exact HC226_0.out); rintro e w' ⟨rfl, ⟨nd, rfl⟩⟩))
             go_ret
             exact ⟨by first | rfl | (simp [errW_none, errW_some] <;> rfl) | (simp [*, errW_none, errW_some] <;> rfl), by repeat (first | (with_reducible first | exact HB.out | apply wA | apply wN | apply wD) | exact HB.out)⟩
           ·rw [if_neg c27] at H
            have c27b0 : (t234 == t235) = false := beq_eq_false_iff_ne.mpr c27
            have c27b1 : (t234 != t235) = true := bne_iff_ne.mpr c27
            obtain rfl := Option.some.inj H
            have p226 : 0 ≤ (x29_2 : Int) := of_decide_eq_true (by first | (with_reducible assumption) | assumption)
            have q226 : x29_2 < (y223.length : Int) := of_decide_eq_true (by first | (with_reducible assumption) | assumption)
            obtain ⟨ad226, A226_0, c226_0, e226, hx226_0, hl226_0, hi226_0⟩ := at_L1 (Kd.N_reads' HO_27.out).2.2 x29_2 p226 q226
            cases e226
            obtain ⟨ce226, hce226, hMe226, hcc226⟩ := Kd.N_get HO_27.out [] x29_2 p226 (by first | exact q226 | exact of_decide_eq_true (by first | (with_reducible assumption) | assumption) | (have e_ := (Kd.N_reads' HO_27.out).1; omega))
            obtain ⟨ua226_0, uc226_0, rfl, ul226_0, ge226_0⟩ := Kd.FK_slice_open hMe226
            have hv226_0 := hcc226 0 _ rfl
            rw [Nat.add_zero, show ((Kd.slice 3 (Kd.int .i64))).sz = 1 from rfl, Nat.mul_one] at hv226_0
            replace hv226_0 := Option.some.inj (hv226_0.symm.trans hx226_0)
            injection hv226_0 with hva_ hvn_ hvc_
            rw [hva_] at ge226_0
            rw [hvc_] at ul226_0
            have HL226_0 := aM (show Kd.V (Kd.int .i64) 3 _ w.heap.size _ _ (rd_L1 y223 x29_2) from Kd.V_mk ul226_0 ge226_0)
            clear hva_ hvn_ hvc_ ge226_0 ul226_0
            clear hcc226 hce226
            have HR226_0 := aM hi226_0
            have HC226_0 := aM hl226_0
            clear hi226_0 hl226_0
            replace p226 := eq_true p226
            replace q226 := eq_true q226
            go_wp2_with (first | ((with_reducible refine gate_callee (f := 11) rfl ?_); refine goesL_ (some 35) rfl rfl Try.func11 (by kernel_rfl) rfl #[.slice A0 l0.length c0, .slice A226_0 (rd_L1 y223 x29_2).length c226_0] rfl (by (try simp only [List.map_toArray, List.map_cons, List.map_nil]); first | done | rfl | (simp only [List.length_drop, List.length_take]; rfl)) ?_; (with_reducible refine (image_Diff.calls k2 _ _ l0 _ _ (rd_L1 y223 x29_2) t227 _ ?side1 ?side2 ?side3 ?side4 A21.out).mono ?_); (case side1 => repeat (first | exact (Kd.C_below HR0.out HB.out) | (with_reducible refine Kd.C_alloc ?_ _) | (with_reducible refine Kd.C_drewN ?_ _) | (with_reducible refine Kd.C_drew ?_))); (case side2 => exact HC0.out); (case side3 => repeat (first | exact (by repeat (first | (with_reducible exact HR226_0.out) | (with_reducible refine Kd.C_alloc ?_ _) | (with_reducible refine Kd.C_drewN ?_ _) | (with_reducible refine Kd.C_drew ?_) | exact HR226_0.out)) | (with_reducible refine Kd.C_alloc ?_ _) | (with_reducible refine Kd.C_drewN ?_ _) | (with_reducible refine Kd.C_drew ?_))); (case side4 => exact HC226_0.out); rintro e w41 ⟨v228, rfl, ho0, hb⟩; refine ⟨_, rfl, ?_⟩; have n0_ := aM (Kd.N_elder' (by (with_reducible repeat (first | apply Kd.N_alloc | apply Kd.N_drewN | apply Kd.N_drew)); exact HO_27.out) (by first | exact Kd.N_base ho0 | exact Kd.N_base (Kd.S_N ho0)) hb); have n1_ := aM (Kd.V_elder' (by (with_reducible repeat (first | apply Kd.V_alloc | apply Kd.V_drewN | apply Kd.V_drew)); exact HL226_0.out) (by first | exact Kd.N_base ho0 | exact Kd.N_base (Kd.S_N ho0)) hb); have n2_ := aM (Kd.N_lower (Kd.N_mono (ok' := fun k_ => (P1_ k_ ∨ w.heap.size ≤ k_) ∧ some k_ ≠ (.slice (some ad226) y223.length co17 : Value).ownBlock) (Kd.S_N (Kd.S_bound ho0)) (fun k_ hk_ => ⟨(.inr (Nat.le_trans (below_size (by repeat (first | (with_reducible first | exact HB.out | apply wA | apply wN | apply wD) | exact HB.out))) hk_.2.1)), (Kd.fresh' (Kd.N_lt (by (with_reducible repeat (first | apply Kd.N_alloc | apply Kd.N_drewN | apply Kd.N_drew)); exact HO_27.out)) k_ hk_.2.1)⟩)) (below_size (by repeat (first | (with_reducible first | exact HB.out | apply wA | apply wN | apply wD) | exact HB.out)))); have n3_ := aM (Kd.C_below (by repeat (first | (with_reducible exact HR226_0.out) | (with_reducible refine Kd.C_alloc ?_ _) | (with_reducible refine Kd.C_drewN ?_ _) | (with_reducible refine Kd.C_drew ?_) | exact HR226_0.out)) hb); have n4_ := aM (below_step (by repeat (first | (with_reducible first | exact HB.out | apply wA | apply wN | apply wD) | exact HB.out)) hb); clear HO_27; clear HL226_0; clear HR226_0; clear HB; have HO_27 := n0_; have HL226_0 := n1_; have HO229 := n2_; have HR226_0 := n3_; have HB := n4_; clear n0_ n1_ n2_ n3_ n4_; (try clear hb); (try clear hb2); (try clear hk); (try clear hi); (try clear hge_); (try clear ho0)) | ((with_reducible refine gate_callee (f := 15) rfl ?_); refine goesL_ (some 39) rfl rfl Try.func15 (by kernel_rfl) rfl #[.slice A0 l0.length c0, .slice A226_0 (rd_L1 y223 x29_2).length c226_0] rfl (by (try simp only [List.map_toArray, List.map_cons, List.map_nil]); first | done | rfl | (simp only [List.length_drop, List.length_take]; rfl)) ?_; (with_reducible refine (rollbacknetref07_Diff.calls k2 _ _ l0 _ _ (rd_L1 y223 x29_2) t230 _ ?side1 ?side2 ?side3 ?side4 A22.out).mono ?_); (case side1 => repeat (first | exact (Kd.C_below HR0.out HB.out) | (with_reducible refine Kd.C_alloc ?_ _) | (with_reducible refine Kd.C_drewN ?_ _) | (with_reducible refine Kd.C_drew ?_))); (case side2 => exact HC0.out); (case side3 => repeat (first | exact (by repeat (first | (with_reducible exact HR226_0.out) | (with_reducible refine Kd.C_alloc ?_ _) | (with_reducible refine Kd.C_drewN ?_ _) | (with_reducible refine Kd.C_drew ?_) | exact HR226_0.out)) | (with_reducible refine Kd.C_alloc ?_ _) | (with_reducible refine Kd.C_drewN ?_ _) | (with_reducible refine Kd.C_drew ?_))); (case side4 => exact HC226_0.out); rintro e w42 ⟨v231, rfl, ho0, hb⟩; refine ⟨_, rfl, ?_⟩; have n0_ := aM (Kd.N_elder' (by (with_reducible repeat (first | apply Kd.N_alloc | apply Kd.N_drewN | apply Kd.N_drew)); exact HO_27.out) (by first | exact Kd.N_base ho0 | exact Kd.N_base (Kd.S_N ho0)) hb); have n1_ := aM (Kd.V_elder' (by (with_reducible repeat (first | apply Kd.V_alloc | apply Kd.V_drewN | apply Kd.V_drew)); exact HL226_0.out) (by first | exact Kd.N_base ho0 | exact Kd.N_base (Kd.S_N ho0)) hb); have n2_ := aM (Kd.N_elder' (by (with_reducible repeat (first | apply Kd.N_alloc | apply Kd.N_drewN | apply Kd.N_drew)); exact HO229.out) (by first | exact Kd.N_base ho0 | exact Kd.N_base (Kd.S_N ho0)) hb); have n3_ := aM (Kd.N_lower (Kd.N_mono (ok' := fun k_ => (P1_ k_ ∨ w.heap.size ≤ k_) ∧ some k_ ≠ (.slice (some ad226) y223.length co17 : Value).ownBlock ∧ some k_ ≠ (v228 : Value).ownBlock) (Kd.S_N (Kd.S_bound ho0)) (fun k_ hk_ => ⟨(.inr (Nat.le_trans (below_size (by repeat (first | (with_reducible first | exact HB.out | apply wA | apply wN | apply wD) | exact HB.out))) hk_.2.1)), (Kd.fresh' (Kd.N_lt (by (with_reducible repeat (first | apply Kd.N_alloc | apply Kd.N_drewN | apply Kd.N_drew)); exact HO_27.out)) k_ hk_.2.1), (Kd.fresh' (Kd.N_lt (by (with_reducible repeat (first | apply Kd.N_alloc | apply Kd.N_drewN | apply Kd.N_drew)); exact HO229.out)) k_ hk_.2.1)⟩)) (below_size (by repeat (first | (with_reducible first | exact HB.out | apply wA | apply wN | apply wD) | exact HB.out)))); have n4_ := aM (Kd.C_below (by repeat (first | (with_reducible exact HR226_0.out) | (with_reducible refine Kd.C_alloc ?_ _) | (with_reducible refine Kd.C_drewN ?_ _) | (with_reducible refine Kd.C_drew ?_) | exact HR226_0.out)) hb); have n5_ := aM (below_step (by repeat (first | (with_reducible first | exact HB.out | apply wA | apply wN | apply wD) | exact HB.out)) hb); clear HO_27; clear HL226_0; clear HO229; clear HR226_0; clear HB; have HO_27 := n0_; have HL226_0 := n1_; have HO229 := n2_; have HO232 := n3_; have HR226_0 := n4_; have HB := n5_; clear n0_ n1_ n2_ n3_ n4_ n5_; (try clear hb); (try clear hb2); (try clear hk); (try clear hi); (try clear hge_); (try clear ho0); obtain ⟨Ao43, co43, eo43⟩ := Kd.N_slice HO229.out; subst eo43; obtain ⟨Ao44, co44, eo44⟩ := Kd.N_slice HO232.out; subst eo44) | ((with_reducible refine gate_callee (f := 14) rfl ?_); refine goesL_ (some 40) rfl rfl Try.func14 (by kernel_rfl) rfl #[.slice Ao43 t227.length co43, .slice Ao44 t230.length co44] rfl (by (try simp only [List.map_toArray, List.map_cons, List.map_nil]); first | done | rfl | (simp only [List.length_drop, List.length_take]; rfl)) ?_; (with_reducible refine (rollbacknetref07_Same.calls k2 _ _ t227 _ _ t230 true _ ?side1 ?side2 ?side3 ?side4 A23.out).mono ?_); (case side1 => repeat (first | exact (Kd.N_reads' HO229.out).2.2 | (with_reducible refine Kd.C_alloc ?_ _) | (with_reducible refine Kd.C_drewN ?_ _) | (with_reducible refine Kd.C_drew ?_))); (case side2 => exact (Kd.N_reads' HO229.out).2.1); (case side3 => repeat (first | exact (Kd.N_reads' HO232.out).2.2 | (with_reducible refine Kd.C_alloc ?_ _) | (with_reducible refine Kd.C_drewN ?_ _) | (with_reducible refine Kd.C_drew ?_))); (case side4 => exact (Kd.N_reads' HO232.out).2.1); rintro e w' ⟨rfl, ⟨nd, rfl⟩⟩; refine ⟨_, rfl, ?_⟩) | (go_at_call 16; (with_reducible refine (image_Cost.calls k2 _ _ t227 t234 _ ?side1 ?side2 A25.out).mono ?_); (case side1 => repeat (first | exact (Kd.N_reads' HO229.out).2.2 | (with_reducible refine Kd.C_alloc ?_ _) | (with_reducible refine Kd.C_drewN ?_ _) | (with_reducible refine Kd.C_drew ?_))); (case side2 => exact (Kd.N_reads' HO229.out).2.1); rintro e w45 ⟨rfl, hb⟩; have n0_ := aM (Kd.N_below (by (with_reducible repeat (first | apply Kd.N_alloc | apply Kd.N_drewN | apply Kd.N_drew)); exact HO_27.out) hb); have n1_ := aM (Kd.V_below (by (with_reducible repeat (first | apply Kd.V_alloc | apply Kd.V_drewN | apply Kd.V_drew)); exact HL226_0.out) hb); have n2_ := aM (Kd.N_below (by (with_reducible repeat (first | apply Kd.N_alloc | apply Kd.N_drewN | apply Kd.N_drew)); exact HO229.out) hb); have n3_ := aM (Kd.N_below (by (with_reducible repeat (first | apply Kd.N_alloc | apply Kd.N_drewN | apply Kd.N_drew)); exact HO232.out) hb); have n4_ := aM (Kd.C_below (by repeat (first | (with_reducible exact HR226_0.out) | (with_reducible refine Kd.C_alloc ?_ _) | (with_reducible refine Kd.C_drewN ?_ _) | (with_reducible refine Kd.C_drew ?_) | exact HR226_0.out)) hb); have n5_ := aM (below_step (by repeat (first | (with_reducible first | exact HB.out | apply wA | apply wN | apply wD) | exact HB.out)) hb); clear HO_27; clear HL226_0; clear HO229; clear HO232; clear HR226_0; clear HB; have HO_27 := n0_; have HL226_0 := n1_; have HO229 := n2_; have HO232 := n3_; have HR226_0 := n4_; have HB := n5_; clear n0_ n1_ n2_ n3_ n4_ n5_; (try clear hb); (try clear hb2); (try clear hk); (try clear hi); (try clear hge_)) | (go_at_call 17; (with_reducible refine (rollbacknetref07_Cost.calls k2 _ _ t227 t235 _ ?side1 ?side2 A26.out).mono ?_); (case side1 => repeat (first | exact (Kd.N_reads' HO229.out).2.2 | (with_reducible refine Kd.C_alloc ?_ _) | (with_reducible refine Kd.C_drewN ?_ _) | (with_reducible refine Kd.C_drew ?_))); (case side2 => exact (Kd.N_reads' HO229.out).2.1); rintro e w' ⟨rfl, ⟨nd, rfl⟩⟩))
            go_ret
            exact ⟨by first | rfl | (simp [errW_none, errW_some] <;> rfl) | (simp [*, errW_none, errW_some] <;> rfl), by repeat (first | (with_reducible first | exact HB.out | apply wA | apply wN | apply wD) | exact HB.out)⟩
          ·replace c24 := Bool.eq_false_iff.mpr c24
           subst c24
           have H1 : (some false) = some r := by rw [if_neg (show ¬ (false = true) by decide)] at H; exact H
           clear H
           have H := H1
           clear H1
           obtain rfl := Option.some.inj H
           have p226 : 0 ≤ (x29_2 : Int) := of_decide_eq_true (by first | (with_reducible assumption) | assumption)
           have q226 : x29_2 < (y223.length : Int) := of_decide_eq_true (by first | (with_reducible assumption) | assumption)
           obtain ⟨ad226, A226_0, c226_0, e226, hx226_0, hl226_0, hi226_0⟩ := at_L1 (Kd.N_reads' HO_27.out).2.2 x29_2 p226 q226
           cases e226
           obtain ⟨ce226, hce226, hMe226, hcc226⟩ := Kd.N_get HO_27.out [] x29_2 p226 (by first | exact q226 | exact of_decide_eq_true (by first | (with_reducible assumption) | assumption) | (have e_ := (Kd.N_reads' HO_27.out).1; omega))
           obtain ⟨ua226_0, uc226_0, rfl, ul226_0, ge226_0⟩ := Kd.FK_slice_open hMe226
           have hv226_0 := hcc226 0 _ rfl
           rw [Nat.add_zero, show ((Kd.slice 3 (Kd.int .i64))).sz = 1 from rfl, Nat.mul_one] at hv226_0
           replace hv226_0 := Option.some.inj (hv226_0.symm.trans hx226_0)
           injection hv226_0 with hva_ hvn_ hvc_
           rw [hva_] at ge226_0
           rw [hvc_] at ul226_0
           have HL226_0 := aM (show Kd.V (Kd.int .i64) 3 _ w.heap.size _ _ (rd_L1 y223 x29_2) from Kd.V_mk ul226_0 ge226_0)
           clear hva_ hvn_ hvc_ ge226_0 ul226_0
           clear hcc226 hce226
           have HR226_0 := aM hi226_0
           have HC226_0 := aM hl226_0
           clear hi226_0 hl226_0
           replace p226 := eq_true p226
           replace q226 := eq_true q226
           go_wp2_with (first | ((with_reducible refine gate_callee (f := 11) rfl ?_); refine goesL_ (some 35) rfl rfl Try.func11 (by kernel_rfl) rfl #[.slice A0 l0.length c0, .slice A226_0 (rd_L1 y223 x29_2).length c226_0] rfl (by (try simp only [List.map_toArray, List.map_cons, List.map_nil]); first | done | rfl | (simp only [List.length_drop, List.length_take]; rfl)) ?_; (with_reducible refine (image_Diff.calls k2 _ _ l0 _ _ (rd_L1 y223 x29_2) t227 _ ?side1 ?side2 ?side3 ?side4 A21.out).mono ?_); (case side1 => repeat (first | exact (Kd.C_below HR0.out HB.out) | (with_reducible refine Kd.C_alloc ?_ _) | (with_reducible refine Kd.C_drewN ?_ _) | (with_reducible refine Kd.C_drew ?_))); (case side2 => exact HC0.out); (case side3 => repeat (first | exact (by repeat (first | (with_reducible exact HR226_0.out) | (with_reducible refine Kd.C_alloc ?_ _) | (with_reducible refine Kd.C_drewN ?_ _) | (with_reducible refine Kd.C_drew ?_) | exact HR226_0.out)) | (with_reducible refine Kd.C_alloc ?_ _) | (with_reducible refine Kd.C_drewN ?_ _) | (with_reducible refine Kd.C_drew ?_))); (case side4 => exact HC226_0.out); rintro e w46 ⟨v228, rfl, ho0, hb⟩; refine ⟨_, rfl, ?_⟩; have n0_ := aM (Kd.N_elder' (by (with_reducible repeat (first | apply Kd.N_alloc | apply Kd.N_drewN | apply Kd.N_drew)); exact HO_27.out) (by first | exact Kd.N_base ho0 | exact Kd.N_base (Kd.S_N ho0)) hb); have n1_ := aM (Kd.V_elder' (by (with_reducible repeat (first | apply Kd.V_alloc | apply Kd.V_drewN | apply Kd.V_drew)); exact HL226_0.out) (by first | exact Kd.N_base ho0 | exact Kd.N_base (Kd.S_N ho0)) hb); have n2_ := aM (Kd.N_lower (Kd.N_mono (ok' := fun k_ => (P1_ k_ ∨ w.heap.size ≤ k_) ∧ some k_ ≠ (.slice (some ad226) y223.length co17 : Value).ownBlock) (Kd.S_N (Kd.S_bound ho0)) (fun k_ hk_ => ⟨(.inr (Nat.le_trans (below_size (by repeat (first | (with_reducible first | exact HB.out | apply wA | apply wN | apply wD) | exact HB.out))) hk_.2.1)), (Kd.fresh' (Kd.N_lt (by (with_reducible repeat (first | apply Kd.N_alloc | apply Kd.N_drewN | apply Kd.N_drew)); exact HO_27.out)) k_ hk_.2.1)⟩)) (below_size (by repeat (first | (with_reducible first | exact HB.out | apply wA | apply wN | apply wD) | exact HB.out)))); have n3_ := aM (Kd.C_below (by repeat (first | (with_reducible exact HR226_0.out) | (with_reducible refine Kd.C_alloc ?_ _) | (with_reducible refine Kd.C_drewN ?_ _) | (with_reducible refine Kd.C_drew ?_) | exact HR226_0.out)) hb); have n4_ := aM (below_step (by repeat (first | (with_reducible first | exact HB.out | apply wA | apply wN | apply wD) | exact HB.out)) hb); clear HO_27; clear HL226_0; clear HR226_0; clear HB; have HO_27 := n0_; have HL226_0 := n1_; have HO229 := n2_; have HR226_0 := n3_; have HB := n4_; clear n0_ n1_ n2_ n3_ n4_; (try clear hb); (try clear hb2); (try clear hk); (try clear hi); (try clear hge_); (try clear ho0)) | ((with_reducible refine gate_callee (f := 15) rfl ?_); refine goesL_ (some 39) rfl rfl Try.func15 (by kernel_rfl) rfl #[.slice A0 l0.length c0, .slice A226_0 (rd_L1 y223 x29_2).length c226_0] rfl (by (try simp only [List.map_toArray, List.map_cons, List.map_nil]); first | done | rfl | (simp only [List.length_drop, List.length_take]; rfl)) ?_; (with_reducible refine (rollbacknetref07_Diff.calls k2 _ _ l0 _ _ (rd_L1 y223 x29_2) t230 _ ?side1 ?side2 ?side3 ?side4 A22.out).mono ?_); (case side1 => repeat (first | exact (Kd.C_below HR0.out HB.out) | (with_reducible refine Kd.C_alloc ?_ _) | (with_reducible refine Kd.C_drewN ?_ _) | (with_reducible refine Kd.C_drew ?_))); (case side2 => exact HC0.out); (case side3 => repeat (first | exact (by repeat (first | (with_reducible exact HR226_0.out) | (with_reducible refine Kd.C_alloc ?_ _) | (with_reducible refine Kd.C_drewN ?_ _) | (with_reducible refine Kd.C_drew ?_) | exact HR226_0.out)) | (with_reducible refine Kd.C_alloc ?_ _) | (with_reducible refine Kd.C_drewN ?_ _) | (with_reducible refine Kd.C_drew ?_))); (case side4 => exact HC226_0.out); rintro e w47 ⟨v231, rfl, ho0, hb⟩; refine ⟨_, rfl, ?_⟩; have n0_ := aM (Kd.N_elder' (by (with_reducible repeat (first | apply Kd.N_alloc | apply Kd.N_drewN | apply Kd.N_drew)); exact HO_27.out) (by first | exact Kd.N_base ho0 | exact Kd.N_base (Kd.S_N ho0)) hb); have n1_ := aM (Kd.V_elder' (by (with_reducible repeat (first | apply Kd.V_alloc | apply Kd.V_drewN | apply Kd.V_drew)); exact HL226_0.out) (by first | exact Kd.N_base ho0 | exact Kd.N_base (Kd.S_N ho0)) hb); have n2_ := aM (Kd.N_elder' (by (with_reducible repeat (first | apply Kd.N_alloc | apply Kd.N_drewN | apply Kd.N_drew)); exact HO229.out) (by first | exact Kd.N_base ho0 | exact Kd.N_base (Kd.S_N ho0)) hb); have n3_ := aM (Kd.N_lower (Kd.N_mono (ok' := fun k_ => (P1_ k_ ∨ w.heap.size ≤ k_) ∧ some k_ ≠ (.slice (some ad226) y223.length co17 : Value).ownBlock ∧ some k_ ≠ (v228 : Value).ownBlock) (Kd.S_N (Kd.S_bound ho0)) (fun k_ hk_ => ⟨(.inr (Nat.le_trans (below_size (by repeat (first | (with_reducible first | exact HB.out | apply wA | apply wN | apply wD) | exact HB.out))) hk_.2.1)), (Kd.fresh' (Kd.N_lt (by (with_reducible repeat (first | apply Kd.N_alloc | apply Kd.N_drewN | apply Kd.N_drew)); exact HO_27.out)) k_ hk_.2.1), (Kd.fresh' (Kd.N_lt (by (with_reducible repeat (first | apply Kd.N_alloc | apply Kd.N_drewN | apply Kd.N_drew)); exact HO229.out)) k_ hk_.2.1)⟩)) (below_size (by repeat (first | (with_reducible first | exact HB.out | apply wA | apply wN | apply wD) | exact HB.out)))); have n4_ := aM (Kd.C_below (by repeat (first | (with_reducible exact HR226_0.out) | (with_reducible refine Kd.C_alloc ?_ _) | (with_reducible refine Kd.C_drewN ?_ _) | (with_reducible refine Kd.C_drew ?_) | exact HR226_0.out)) hb); have n5_ := aM (below_step (by repeat (first | (with_reducible first | exact HB.out | apply wA | apply wN | apply wD) | exact HB.out)) hb); clear HO_27; clear HL226_0; clear HO229; clear HR226_0; clear HB; have HO_27 := n0_; have HL226_0 := n1_; have HO229 := n2_; have HO232 := n3_; have HR226_0 := n4_; have HB := n5_; clear n0_ n1_ n2_ n3_ n4_ n5_; (try clear hb); (try clear hb2); (try clear hk); (try clear hi); (try clear hge_); (try clear ho0); obtain ⟨Ao48, co48, eo48⟩ := Kd.N_slice HO229.out; subst eo48; obtain ⟨Ao49, co49, eo49⟩ := Kd.N_slice HO232.out; subst eo49) | ((with_reducible refine gate_callee (f := 14) rfl ?_); refine goesL_ (some 40) rfl rfl Try.func14 (by kernel_rfl) rfl #[.slice Ao48 t227.length co48, .slice Ao49 t230.length co49] rfl (by (try simp only [List.map_toArray, List.map_cons, List.map_nil]); first | done | rfl | (simp only [List.length_drop, List.length_take]; rfl)) ?_; (with_reducible refine (rollbacknetref07_Same.calls k2 _ _ t227 _ _ t230 false _ ?side1 ?side2 ?side3 ?side4 A23.out).mono ?_); (case side1 => repeat (first | exact (Kd.N_reads' HO229.out).2.2 | (with_reducible refine Kd.C_alloc ?_ _) | (with_reducible refine Kd.C_drewN ?_ _) | (with_reducible refine Kd.C_drew ?_))); (case side2 => exact (Kd.N_reads' HO229.out).2.1); (case side3 => repeat (first | exact (Kd.N_reads' HO232.out).2.2 | (with_reducible refine Kd.C_alloc ?_ _) | (with_reducible refine Kd.C_drewN ?_ _) | (with_reducible refine Kd.C_drew ?_))); (case side4 => exact (Kd.N_reads' HO232.out).2.1); rintro e w' ⟨rfl, ⟨nd, rfl⟩⟩; refine ⟨_, rfl, ?_⟩))
           go_ret
           exact ⟨by first | rfl | (simp [errW_none, errW_some] <;> rfl) | (simp [*, errW_none, errW_some] <;> rfl), by repeat (first | (with_reducible first | exact HB.out | apply wA | apply wN | apply wD) | exact HB.out)⟩
         ·rw [if_neg c20] at H
          exact absurd H (by simp)
        ·rw [if_neg c19] at H
         exact absurd H (by simp)
       ·rw [if_neg c18] at H
        have c18b0 : decide (x29_2 < (y223.length : Int)) = false := decide_eq_false c18
        clear c18
        obtain rfl := Option.some.inj H
        go_wp2
        go_ret
        exact ⟨by first | rfl | (simp [errW_none, errW_some] <;> rfl) | (simp [*, errW_none, errW_some] <;> rfl), by repeat (first | (with_reducible first | exact HB.out | apply wA | apply wN | apply wD) | exact HB.out)⟩
 ·replace c5 := Bool.eq_false_iff.mpr c5
  subst c5
  have H1 : (some false) = some r := by rw [if_neg (show ¬ (false = true) by decide)] at H; exact H
  clear H
  have H := H1
  clear H1
  obtain rfl := Option.some.inj H
  go_enter Try.func4, Try.ntmps4
  go_wp2_with (first | ((with_reducible refine gate_callee (f := 9) rfl ?_); refine goesL_ (some 11) rfl rfl Try.func9 (by kernel_rfl) rfl #[] rfl (by (try simp only [List.map_toArray, List.map_cons, List.map_nil]); first | done | rfl | (simp only [List.length_drop, List.length_take]; rfl)) ?_; (with_reducible refine (rollbacknetlaw07_awake.calls k  false _ A4.out).mono ?_); rintro e w50 ⟨rfl, hb⟩; refine ⟨_, rfl, ?_⟩; have n0_ := aM (Kd.V_below (by (with_reducible repeat (first | apply Kd.V_alloc | apply Kd.V_drewN | apply Kd.V_drew)); exact HO1.out) hb); have n1_ := aM (below_step (by repeat (first | (with_reducible first | exact HB.out | apply wA | apply wN | apply wD) | exact HB.out)) hb); clear HO1; clear HB; have HO1 := n0_; have HB := n1_; clear n0_ n1_; (try clear hb); (try clear hb2); (try clear hk); (try clear hi); (try clear hge_)))
  go_ret
  exact ⟨by first | rfl | (simp [errW_none, errW_some] <;> rfl) | (simp [*, errW_none, errW_some] <;> rfl), by repeat (first | (with_reducible first | exact HB.out | apply wA | apply wN | apply wD) | exact HB.out)⟩

end Go.Proofs.Ytkjnledamamniaa.PIm
