-- Laid by wip/tools/xprint.py, a program of this session over the kit's print: functions as Lean functions, each with its contract.
import Derived.Test.YtmlphabhldahlaaPFkx0
import Derived.Test.YtmlphabhldahlaaPFkx4
import Derived.Test.YtmlphabhldahlaaPFkx5
import Derived.Test.YtmlphabhldahlaaPFkx8
import Derived.Test.YtmlphabhldahlaaPFkx11
import Derived.Test.YtmlphabhldahlaaPFkx15
import Derived.Test.YtmlphabhldahlaaPFkx19
import Derived.Test.YtmlphabhldahlaaPFkx20
namespace Go.Proofs.Ytmlphabhldahlaa.PFk
open Go.RowKit Go.Proofs.YtmlphabhldahlaaW.PrintWords Go.Proofs.YtmlphabhldahlaaW.PrintLast Go.Proofs.YtmlphabhldahlaaW.PrintMore
attribute [local go_sem] max2_int min2_int max_two min_two max_three min_three max_four min_four   -- for this text's walks alone
set_option linter.unusedVariables false
set_option linter.unusedSimpArgs false

/-! ### rollbacknetlaw11_FrameScans: function 6 -/
mutual
def rollbacknetlaw11_FrameScans.l0 : Nat → List (List Int) → Int → Int → Option (Bool)
 | 0, _, _, _ => none
 | k + 1, x34, x35, x36 => if x36 < x35 then (if 0 ≤ x36 then (if x36 < (x34.length : Int) then ((frame_Scan.f k (rd_L2 x34 x36)).bind fun bt278 => ((rollbacknetref11_Scan.f k (rd_L2 x34 x36)).bind fun bt282 => (if bt278.2 = bt282.2 then (rollbacknetlaw11_FrameScans.j1 k bt278.1 bt282.1 x34 x35 x36 ((bt278.1.length : Int) != (bt282.1.length : Int))) else (rollbacknetlaw11_FrameScans.j1 k bt278.1 bt282.1 x34 x35 x36 true)))) else (none)) else (none)) else (some true)
def rollbacknetlaw11_FrameScans.j1 : Nat → List (List Int) → List (List Int) → List (List Int) → Int → Int → Bool → Option (Bool)
 | 0, _, _, _, _, _, _ => none
 | k + 1, x10, x12, x34, x35, x36, x59 => if x59 = true then (some false) else (rollbacknetlaw11_FrameScans.l1 k x10 x12 x34 x35 x36 (x10.length : Int) 0)
def rollbacknetlaw11_FrameScans.l1 : Nat → List (List Int) → List (List Int) → List (List Int) → Int → Int → Int → Int → Option (Bool)
 | 0, _, _, _, _, _, _, _ => none
 | k + 1, x10, x12, x34, x35, x36, x61, x62 => if x62 < x61 then (if 0 ≤ x62 then (if x62 < (x10.length : Int) then (if x62 < (x12.length : Int) then ((rollbacknetref08_SameBytes.f k (rd_L2 x10 x62) (rd_L2 x12 x62)).bind fun t288 => (if t288 = true then (rollbacknetlaw11_FrameScans.l1 k x10 x12 x34 x35 x36 x61 (wrap64 (x62 + 1))) else (some false))) else (none)) else (none)) else (none)) else (rollbacknetlaw11_FrameScans.l0 k x34 x35 (wrap64 (x36 + 1)))
end
def rollbacknetlaw11_FrameScans.f (k : Nat) (l0 : List Int) (l1 : List Int) (a2 : Int) : Option (Bool) := (rollbacknetlaw11_awake.f k).bind fun t258 => (if t258 = true then (if (l0.length : Int) > 2000 then (some true) else ((rollbacknetlaw11_bodies.f k l1).bind fun t259 => ((rollbacknetlaw11_seal.f k t259).bind fun t262 => (if t262.length + l0.length < 140737488355328 then ((some (t262 ++ l0 : List Int)).bind fun y265 => ((rollbacknetmake_Mod.f a2 (wrap64 ((y265.length : Int) + 1))).bind fun t268 => (if 0 ≤ t268 then (if t268 ≤ (y265.length : Int) then ((some (([l0, y265, (y265.take (t268 : Int).toNat)] : List (List Int)) : List (List Int))).bind fun y274 => (rollbacknetlaw11_FrameScans.l0 k y274 (y274.length : Int) 0)) else (none)) else (none)))) else (none))))) else (some false))
theorem rollbacknetlaw11_FrameScans.mono_l : ∀ k, (∀ y0 y1 y2, LeO (rollbacknetlaw11_FrameScans.l0 k y0 y1 y2) (rollbacknetlaw11_FrameScans.l0 (k + 1) y0 y1 y2)) ∧ (∀ y0 y1 y2 y3 y4 y5, LeO (rollbacknetlaw11_FrameScans.j1 k y0 y1 y2 y3 y4 y5) (rollbacknetlaw11_FrameScans.j1 (k + 1) y0 y1 y2 y3 y4 y5)) ∧ (∀ y0 y1 y2 y3 y4 y5 y6, LeO (rollbacknetlaw11_FrameScans.l1 k y0 y1 y2 y3 y4 y5 y6) (rollbacknetlaw11_FrameScans.l1 (k + 1) y0 y1 y2 y3 y4 y5 y6))
 | 0 => ⟨fun _ _ _ r h => by simp [rollbacknetlaw11_FrameScans.l0] at h, fun _ _ _ _ _ _ r h => by simp [rollbacknetlaw11_FrameScans.j1] at h, fun _ _ _ _ _ _ _ r h => by simp [rollbacknetlaw11_FrameScans.l1] at h⟩
 | k + 1 => by
  obtain ⟨ih0, ih1, ih2⟩ := rollbacknetlaw11_FrameScans.mono_l k
  refine ⟨?_, ?_, ?_⟩
  ·intro y0 y1 y2
   unfold rollbacknetlaw11_FrameScans.l0
   repeat' first
   | (with_reducible exact ih0 _ _ _)
   | (with_reducible exact ih1 _ _ _ _ _ _)
   | (with_reducible exact ih2 _ _ _ _ _ _ _)
   | (with_reducible exact frame_Scan.mono _ _)
   | (with_reducible exact rollbacknetlaw11_awake.mono _)
   | (with_reducible exact rollbacknetlaw11_bodies.mono _ _)
   | (with_reducible exact rollbacknetlaw11_seal.mono _ _)
   | (with_reducible exact rollbacknetref08_SameBytes.mono _ _ _)
   | (with_reducible exact rollbacknetref11_Scan.mono _ _)
   | (with_reducible exact LeO.refl _)
   | (with_reducible exact LeO.none _)
   | (with_reducible refine LeO.ite ?_ ?_)
   | (with_reducible refine LeO.bind ?_ (fun _ => ?_))
   | exact ih0 _ _ _
   | exact ih1 _ _ _ _ _ _
   | exact ih2 _ _ _ _ _ _ _
   | exact frame_Scan.mono _ _
   | exact rollbacknetlaw11_awake.mono _
   | exact rollbacknetlaw11_bodies.mono _ _
   | exact rollbacknetlaw11_seal.mono _ _
   | exact rollbacknetref08_SameBytes.mono _ _ _
   | exact rollbacknetref11_Scan.mono _ _
   | exact LeO.none _
   | refine LeO.ite ?_ ?_
   | refine LeO.bind ?_ (fun _ => ?_)
  ·intro y0 y1 y2 y3 y4 y5
   unfold rollbacknetlaw11_FrameScans.j1
   repeat' first
   | (with_reducible exact ih0 _ _ _)
   | (with_reducible exact ih1 _ _ _ _ _ _)
   | (with_reducible exact ih2 _ _ _ _ _ _ _)
   | (with_reducible exact frame_Scan.mono _ _)
   | (with_reducible exact rollbacknetlaw11_awake.mono _)
   | (with_reducible exact rollbacknetlaw11_bodies.mono _ _)
   | (with_reducible exact rollbacknetlaw11_seal.mono _ _)
   | (with_reducible exact rollbacknetref08_SameBytes.mono _ _ _)
   | (with_reducible exact rollbacknetref11_Scan.mono _ _)
   | (with_reducible exact LeO.refl _)
   | (with_reducible exact LeO.none _)
   | (with_reducible refine LeO.ite ?_ ?_)
   | (with_reducible refine LeO.bind ?_ (fun _ => ?_))
   | exact ih0 _ _ _
   | exact ih1 _ _ _ _ _ _
   | exact ih2 _ _ _ _ _ _ _
   | exact frame_Scan.mono _ _
   | exact rollbacknetlaw11_awake.mono _
   | exact rollbacknetlaw11_bodies.mono _ _
   | exact rollbacknetlaw11_seal.mono _ _
   | exact rollbacknetref08_SameBytes.mono _ _ _
   | exact rollbacknetref11_Scan.mono _ _
   | exact LeO.none _
   | refine LeO.ite ?_ ?_
   | refine LeO.bind ?_ (fun _ => ?_)
  ·intro y0 y1 y2 y3 y4 y5 y6
   unfold rollbacknetlaw11_FrameScans.l1
   repeat' first
   | (with_reducible exact ih0 _ _ _)
   | (with_reducible exact ih1 _ _ _ _ _ _)
   | (with_reducible exact ih2 _ _ _ _ _ _ _)
   | (with_reducible exact frame_Scan.mono _ _)
   | (with_reducible exact rollbacknetlaw11_awake.mono _)
   | (with_reducible exact rollbacknetlaw11_bodies.mono _ _)
   | (with_reducible exact rollbacknetlaw11_seal.mono _ _)
   | (with_reducible exact rollbacknetref08_SameBytes.mono _ _ _)
   | (with_reducible exact rollbacknetref11_Scan.mono _ _)
   | (with_reducible exact LeO.refl _)
   | (with_reducible exact LeO.none _)
   | (with_reducible refine LeO.ite ?_ ?_)
   | (with_reducible refine LeO.bind ?_ (fun _ => ?_))
   | exact ih0 _ _ _
   | exact ih1 _ _ _ _ _ _
   | exact ih2 _ _ _ _ _ _ _
   | exact frame_Scan.mono _ _
   | exact rollbacknetlaw11_awake.mono _
   | exact rollbacknetlaw11_bodies.mono _ _
   | exact rollbacknetlaw11_seal.mono _ _
   | exact rollbacknetref08_SameBytes.mono _ _ _
   | exact rollbacknetref11_Scan.mono _ _
   | exact LeO.none _
   | refine LeO.ite ?_ ?_
   | refine LeO.bind ?_ (fun _ => ?_)
theorem rollbacknetlaw11_FrameScans.mono : ∀ a0 a1 a2 k, LeO (rollbacknetlaw11_FrameScans.f k a0 a1 a2) (rollbacknetlaw11_FrameScans.f (k + 1) a0 a1 a2) := by
 intro a0 a1 a2 k
 obtain ⟨ih0, ih1, ih2⟩ := rollbacknetlaw11_FrameScans.mono_l k
 unfold rollbacknetlaw11_FrameScans.f
 repeat' first
   | (with_reducible exact ih0 _ _ _)
   | (with_reducible exact ih1 _ _ _ _ _ _)
   | (with_reducible exact ih2 _ _ _ _ _ _ _)
   | (with_reducible exact frame_Scan.mono _ _)
   | (with_reducible exact rollbacknetlaw11_awake.mono _)
   | (with_reducible exact rollbacknetlaw11_bodies.mono _ _)
   | (with_reducible exact rollbacknetlaw11_seal.mono _ _)
   | (with_reducible exact rollbacknetref08_SameBytes.mono _ _ _)
   | (with_reducible exact rollbacknetref11_Scan.mono _ _)
   | (with_reducible exact LeO.refl _)
   | (with_reducible exact LeO.none _)
   | (with_reducible refine LeO.ite ?_ ?_)
   | (with_reducible refine LeO.bind ?_ (fun _ => ?_))
   | exact ih0 _ _ _
   | exact ih1 _ _ _ _ _ _
   | exact ih2 _ _ _ _ _ _ _
   | exact frame_Scan.mono _ _
   | exact rollbacknetlaw11_awake.mono _
   | exact rollbacknetlaw11_bodies.mono _ _
   | exact rollbacknetlaw11_seal.mono _ _
   | exact rollbacknetref08_SameBytes.mono _ _ _
   | exact rollbacknetref11_Scan.mono _ _
   | exact LeO.none _
   | refine LeO.ite ?_ ?_
   | refine LeO.bind ?_ (fun _ => ?_)
set_option maxHeartbeats 8000000 in
set_option maxRecDepth 100000 in
theorem rollbacknetlaw11_FrameScans.calls (k : Nat) (P0_ : Nat → Prop) (A0 : Option Addr) (c0 : Nat) (l0 : List Int) (A1 : Option Addr) (c1 : Nat) (l1 : List Int) (a2 : Int) (r : Bool) (w : World) (hs0 : Kd.V (Kd.int .u8) 5 w w.heap.size (fun k_ => P0_ k_) (.slice A0 l0.length c0) l0) (hr1 : Kd.C (Kd.int .u8) w A1 l1.length l1) (hc1 : l1.length ≤ c1) (h : rollbacknetlaw11_FrameScans.f k l0 l1 a2 = some r) :
  Calls Try.prog 6 #[.slice A0 l0.length c0, .slice A1 l1.length c1, .int .i64 a2] w fun e w' => e = .returned (.bool r) ∧ Below w.heap.size w w' := by
 have HO0 := aM (show Kd.V (Kd.int .u8) 5 w w.heap.size (fun k_ => (P0_ k_ ∨ w.heap.size ≤ k_)) (.slice A0 l0.length c0) l0 from Kd.V_mono hs0 (fun k_ hk => .inl hk))
 have HR1 := aM hr1
 have HC1 := aM hc1
 clear hr1 hc1
 have HB := aM (Below.refl w.heap.size w)
 have H : ((rollbacknetlaw11_awake.f k).bind fun t258 => (if t258 = true then (if (l0.length : Int) > 2000 then (some true) else ((rollbacknetlaw11_bodies.f k l1).bind fun t259 => ((rollbacknetlaw11_seal.f k t259).bind fun t262 => (if t262.length + l0.length < 140737488355328 then ((some (t262 ++ l0 : List Int)).bind fun y265 => ((rollbacknetmake_Mod.f a2 (wrap64 ((y265.length : Int) + 1))).bind fun t268 => (if 0 ≤ t268 then (if t268 ≤ (y265.length : Int) then ((some (([l0, y265, (y265.take (t268 : Int).toNat)] : List (List Int)) : List (List Int))).bind fun y274 => (rollbacknetlaw11_FrameScans.l0 k y274 (y274.length : Int) 0)) else (none)) else (none)))) else (none))))) else (some false))) = some r := h
 clear h
 replace H := Option.bind_eq_some_iff.mp H
 obtain ⟨t258, A40, H⟩ := H
 replace H : (if t258 = true then (if (l0.length : Int) > 2000 then (some true) else ((rollbacknetlaw11_bodies.f k l1).bind fun t259 => ((rollbacknetlaw11_seal.f k t259).bind fun t262 => (if t262.length + l0.length < 140737488355328 then ((some (t262 ++ l0 : List Int)).bind fun y265 => ((rollbacknetmake_Mod.f a2 (wrap64 ((y265.length : Int) + 1))).bind fun t268 => (if 0 ≤ t268 then (if t268 ≤ (y265.length : Int) then ((some (([l0, y265, (y265.take (t268 : Int).toNat)] : List (List Int)) : List (List Int))).bind fun y274 => (rollbacknetlaw11_FrameScans.l0 k y274 (y274.length : Int) 0)) else (none)) else (none)))) else (none))))) else (some false)) = some r := H
 have A4 := aM A40
 clear A40
 by_cases c5 : t258 = true
 ·subst c5
  have H1 : (if (l0.length : Int) > 2000 then (some true) else ((rollbacknetlaw11_bodies.f k l1).bind fun t259 => ((rollbacknetlaw11_seal.f k t259).bind fun t262 => (if t262.length + l0.length < 140737488355328 then ((some (t262 ++ l0 : List Int)).bind fun y265 => ((rollbacknetmake_Mod.f a2 (wrap64 ((y265.length : Int) + 1))).bind fun t268 => (if 0 ≤ t268 then (if t268 ≤ (y265.length : Int) then ((some (([l0, y265, (y265.take (t268 : Int).toNat)] : List (List Int)) : List (List Int))).bind fun y274 => (rollbacknetlaw11_FrameScans.l0 k y274 (y274.length : Int) 0)) else (none)) else (none)))) else (none))))) = some r := by rw [if_pos rfl] at H; exact H
  clear H
  have H := H1
  clear H1
  by_cases c6 : (l0.length : Int) > 2000
  ·rw [if_pos c6] at H
   have c6b0 : decide (2000 < (l0.length : Int)) = true := decide_eq_true c6
   have c6b1 : decide (2000 < l0.length) = true := decide_eq_true (by omega)
   clear c6
   obtain rfl := Option.some.inj H
   go_enter Try.func6, Try.ntmps6
   go_wp2_with (first | (go_at_call 9; (with_reducible refine (rollbacknetlaw11_awake.calls k  true _ A4.out).mono ?_); rintro e w7 ⟨rfl, hb⟩; have n0_ := aM (Kd.V_below (by (with_reducible repeat (first | apply Kd.V_alloc | apply Kd.V_drewN | apply Kd.V_drew)); exact HO0.out) hb); have n1_ := aM (below_step (by repeat (first | (with_reducible first | exact HB.out | apply wA | apply wN | apply wD) | exact HB.out)) hb); clear HO0; clear HB; have HO0 := n0_; have HB := n1_; clear n0_ n1_; (try clear hb); (try clear hb2); (try clear hk); (try clear hi); (try clear hge_)))
   repeat (go_quiet (first | (go_at_call 9; (with_reducible refine (rollbacknetlaw11_awake.calls k  true _ A4.out).mono ?_); rintro e w7 ⟨rfl, hb⟩; have n0_ := aM (Kd.V_below (by (with_reducible repeat (first | apply Kd.V_alloc | apply Kd.V_drewN | apply Kd.V_drew)); exact HO0.out) hb); have n1_ := aM (below_step (by repeat (first | (with_reducible first | exact HB.out | apply wA | apply wN | apply wD) | exact HB.out)) hb); clear HO0; clear HB; have HO0 := n0_; have HB := n1_; clear n0_ n1_; (try clear hb); (try clear hb2); (try clear hk); (try clear hi); (try clear hge_))); try go_wp2_with (first | (go_at_call 9; (with_reducible refine (rollbacknetlaw11_awake.calls k  true _ A4.out).mono ?_); rintro e w7 ⟨rfl, hb⟩; have n0_ := aM (Kd.V_below (by (with_reducible repeat (first | apply Kd.V_alloc | apply Kd.V_drewN | apply Kd.V_drew)); exact HO0.out) hb); have n1_ := aM (below_step (by repeat (first | (with_reducible first | exact HB.out | apply wA | apply wN | apply wD) | exact HB.out)) hb); clear HO0; clear HB; have HO0 := n0_; have HB := n1_; clear n0_ n1_; (try clear hb); (try clear hb2); (try clear hk); (try clear hi); (try clear hge_))))
   go_ret
   exact ⟨by first | rfl | (simp [errW_none, errW_some] <;> rfl) | (simp [*, errW_none, errW_some] <;> rfl), by repeat (first | (with_reducible first | exact HB.out | apply wA | apply wN | apply wD) | exact HB.out)⟩
  ·rw [if_neg c6] at H
   have c6b0 : decide (2000 < (l0.length : Int)) = false := decide_eq_false c6
   have c6b1 : decide (2000 < l0.length) = false := decide_eq_false (by omega)
   clear c6
   replace H := Option.bind_eq_some_iff.mp H
   obtain ⟨t259, A80, H⟩ := H
   replace H : ((rollbacknetlaw11_seal.f k t259).bind fun t262 => (if t262.length + l0.length < 140737488355328 then ((some (t262 ++ l0 : List Int)).bind fun y265 => ((rollbacknetmake_Mod.f a2 (wrap64 ((y265.length : Int) + 1))).bind fun t268 => (if 0 ≤ t268 then (if t268 ≤ (y265.length : Int) then ((some (([l0, y265, (y265.take (t268 : Int).toNat)] : List (List Int)) : List (List Int))).bind fun y274 => (rollbacknetlaw11_FrameScans.l0 k y274 (y274.length : Int) 0)) else (none)) else (none)))) else (none))) = some r := H
   have A8 := aM A80
   clear A80
   replace H := Option.bind_eq_some_iff.mp H
   obtain ⟨t262, A90, H⟩ := H
   replace H : (if t262.length + l0.length < 140737488355328 then ((some (t262 ++ l0 : List Int)).bind fun y265 => ((rollbacknetmake_Mod.f a2 (wrap64 ((y265.length : Int) + 1))).bind fun t268 => (if 0 ≤ t268 then (if t268 ≤ (y265.length : Int) then ((some (([l0, y265, (y265.take (t268 : Int).toNat)] : List (List Int)) : List (List Int))).bind fun y274 => (rollbacknetlaw11_FrameScans.l0 k y274 (y274.length : Int) 0)) else (none)) else (none)))) else (none)) = some r := H
   have A9 := aM A90
   clear A90
   by_cases c10 : t262.length + l0.length < 140737488355328
   ·rw [if_pos c10] at H
    have LMc10 := aM c10
    clear c10
    obtain ⟨y265, hy265⟩ : ∃ y_ : List Int, y_ = (t262 ++ l0) := ⟨_, rfl⟩
    replace H : ((rollbacknetmake_Mod.f a2 (wrap64 ((y265.length : Int) + 1))).bind fun t268 => (if 0 ≤ t268 then (if t268 ≤ (y265.length : Int) then ((some (([l0, y265, (y265.take (t268 : Int).toNat)] : List (List Int)) : List (List Int))).bind fun y274 => (rollbacknetlaw11_FrameScans.l0 k y274 (y274.length : Int) 0)) else (none)) else (none))) = some r := by first | (rw [hy265]; with_reducible exact H) | (have H2_ := (Option.bind_some _ _).symm.trans H; rw [hy265]; with_reducible exact H2_) | (have H2_ := (Option.bind_some _ _).symm.trans H; with_reducible exact H2_) | with_reducible exact H | (rw [hy265]; exact H) | exact H
    have Ny265 := aM hy265
    clear hy265
    replace H := Option.bind_eq_some_iff.mp H
    obtain ⟨t268, A110, H⟩ := H
    replace H : (if 0 ≤ t268 then (if t268 ≤ (y265.length : Int) then ((some (([l0, y265, (y265.take (t268 : Int).toNat)] : List (List Int)) : List (List Int))).bind fun y274 => (rollbacknetlaw11_FrameScans.l0 k y274 (y274.length : Int) 0)) else (none)) else (none)) = some r := H
    have A11 := aM A110
    clear A110
    by_cases c12 : 0 ≤ t268
    ·rw [if_pos c12] at H
     have c12b0 := eq_true c12
     have c12b1 : decide (0 ≤ t268) = true := decide_eq_true c12
     clear c12
     by_cases c13 : t268 ≤ (y265.length : Int)
     ·rw [if_pos c13] at H
      have c13b0 := eq_true c13
      have c13b1 : decide (t268 ≤ (y265.length : Int)) = true := decide_eq_true c13
      clear c13
      obtain ⟨y269, hy269⟩ : ∃ y_ : List Int, y_ = (y265.take (t268 : Int).toNat) := ⟨_, rfl⟩
      replace H : ((some (([l0, y265, y269] : List (List Int)) : List (List Int))).bind fun y274 => (rollbacknetlaw11_FrameScans.l0 k y274 (y274.length : Int) 0)) = some r := by first | (rw [hy269]; with_reducible exact H) | (have H2_ := (Option.bind_some _ _).symm.trans H; rw [hy269]; with_reducible exact H2_) | (have H2_ := (Option.bind_some _ _).symm.trans H; with_reducible exact H2_) | with_reducible exact H | (rw [hy269]; exact H) | exact H
      have Ny269 := aM hy269
      clear hy269
      obtain ⟨y274, hy274⟩ : ∃ y_ : List (List Int), y_ = (([l0, y265, y269] : List (List Int))) := ⟨_, rfl⟩
      replace H : (rollbacknetlaw11_FrameScans.l0 k y274 (y274.length : Int) 0) = some r := by first | (rw [hy274]; with_reducible exact H) | (have H2_ := (Option.bind_some _ _).symm.trans H; rw [hy274]; with_reducible exact H2_) | (have H2_ := (Option.bind_some _ _).symm.trans H; with_reducible exact H2_) | with_reducible exact H | (rw [hy274]; exact H) | exact H
      have Ny274 := aM hy274
      clear hy274
      have H' := aM H
      clear H
      go_enter Try.func6, Try.ntmps6
      go_wp2_with (first | (go_at_call 9; (with_reducible refine (rollbacknetlaw11_awake.calls k  true _ A4.out).mono ?_); rintro e w14 ⟨rfl, hb⟩; have n0_ := aM (Kd.V_below (by (with_reducible repeat (first | apply Kd.V_alloc | apply Kd.V_drewN | apply Kd.V_drew)); exact HO0.out) hb); have n1_ := aM (below_step (by repeat (first | (with_reducible first | exact HB.out | apply wA | apply wN | apply wD) | exact HB.out)) hb); clear HO0; clear HB; have HO0 := n0_; have HB := n1_; clear n0_ n1_; (try clear hb); (try clear hb2); (try clear hk); (try clear hi); (try clear hge_)) | (go_at_call 14; (with_reducible refine (rollbacknetlaw11_bodies.calls k _ _ l1 t259 _ ?side1 ?side2 A8.out).mono ?_); (case side1 => repeat (first | exact (Kd.C_below HR1.out HB.out) | (with_reducible refine Kd.C_alloc ?_ _) | (with_reducible refine Kd.C_drewN ?_ _) | (with_reducible refine Kd.C_drew ?_))); (case side2 => exact HC1.out); rintro e w15 ⟨v260, rfl, ho0, hb⟩; have n0_ := aM (Kd.V_elder' (by (with_reducible repeat (first | apply Kd.V_alloc | apply Kd.V_drewN | apply Kd.V_drew)); exact HO0.out) (by first | exact Kd.N_base ho0 | exact Kd.N_base (Kd.S_N ho0)) hb); have n1_ := aM (Kd.N_lower (Kd.N_mono (ok' := fun k_ => (P0_ k_ ∨ w.heap.size ≤ k_)) (Kd.S_N (Kd.S_bound ho0)) (fun k_ hk_ => (.inr (Nat.le_trans (below_size (by repeat (first | (with_reducible first | exact HB.out | apply wA | apply wN | apply wD) | exact HB.out))) hk_.2.1)))) (below_size (by repeat (first | (with_reducible first | exact HB.out | apply wA | apply wN | apply wD) | exact HB.out)))); have n2_ := aM (below_step (by repeat (first | (with_reducible first | exact HB.out | apply wA | apply wN | apply wD) | exact HB.out)) hb); clear HO0; clear HB; have HO0 := n0_; have HO261 := n1_; have HB := n2_; clear n0_ n1_ n2_; (try clear hb); (try clear hb2); (try clear hk); (try clear hi); (try clear hge_); (try clear ho0); obtain ⟨Ao16, co16, eo16⟩ := Kd.N_slice HO261.out; subst eo16) | (go_at_call 13; (with_reducible refine (rollbacknetlaw11_seal.calls k _ _ t259 t262 _ ?side1 ?side2 A9.out).mono ?_); (case side1 => repeat (first | exact (Kd.N_reads' HO261.out).2.2 | (with_reducible refine Kd.C_alloc ?_ _) | (with_reducible refine Kd.C_drewN ?_ _) | (with_reducible refine Kd.C_drew ?_))); (case side2 => exact (Kd.N_reads' HO261.out).2.1); rintro e w17 ⟨v263, rfl, ho0, hb⟩; have n0_ := aM (Kd.V_elder' (by (with_reducible repeat (first | apply Kd.V_alloc | apply Kd.V_drewN | apply Kd.V_drew)); exact HO0.out) (Kd.R_base ho0) hb); have n1_ := aM (Kd.N_elder' (by (with_reducible repeat (first | apply Kd.N_alloc | apply Kd.N_drewN | apply Kd.N_drew)); exact HO261.out) (Kd.R_base ho0) hb); have n2_ := aM (Kd.R_lower (Kd.R_newM (M := fun k_ => (w.heap.size ≤ k_)) ho0 (below_size (by repeat (first | (with_reducible first | exact HB.out | apply wA | apply wN | apply wD) | exact HB.out))) (fun k_ h_ => h_)) (below_size (by repeat (first | (with_reducible first | exact HB.out | apply wA | apply wN | apply wD) | exact HB.out)))); have n3_ := aM (below_step (by repeat (first | (with_reducible first | exact HB.out | apply wA | apply wN | apply wD) | exact HB.out)) hb); clear HO0; clear HO261; clear HB; have HO0 := n0_; have HO261 := n1_; have HO264 := n2_; have HB := n3_; clear n0_ n1_ n2_ n3_; (try clear hb); (try clear hb2); (try clear hk); (try clear hi); (try clear hge_); (try clear ho0)) | ((with_reducible refine gate_builtin (b := .append) (xs := #[(.tmp 22), .tmp 23]) rfl ?_); (try (refine gate_guard (by rfl) ?_; dsimp only)); at_builtin; refine Kd.R_append_rows (Kd.int .u8) (w0 := w) w.heap.size rfl (.tmp 22) (.tmp 23) 22 5 (.int .u8 0) 1 rfl Try.underlying22 info5 rfl (by decide) (by omega) v263 t262 l0 _ _ _ (fun k_ => (w.heap.size ≤ k_)) (fun _ => False) rfl rfl ?aO ?aR (fun _ _ h => h) (fun _ h => h.elim) ?aF ?aB ?aS ?aL ?_; (case aR => repeat (first | exact (Kd.V_reads' HO0.out).2.2 | (with_reducible refine Kd.C_alloc ?_ _) | (with_reducible refine Kd.C_drewN ?_ _) | (with_reducible refine Kd.C_drew ?_))); (case aB => exact (by repeat (first | (with_reducible first | exact HB.out | apply wA | apply wN | apply wD) | exact HB.out))); (case aF => exact (fun k_ hk => (Nat.le_trans (below_size (by repeat (first | (with_reducible first | exact HB.out | apply wA | apply wN | apply wD) | exact HB.out))) hk))); (case aO => exact (by (with_reducible repeat (first | apply Kd.R_alloc | apply Kd.R_drewN | apply Kd.R_drew)); exact Kd.R_mono HO264.out (fun _ hk => hk.1))); (case aS => exact (below_size (by repeat (first | (with_reducible first | exact HB.out | apply wA | apply wN | apply wD) | exact HB.out)))); (case aL => have := LMc10.out; omega); intro v266 w18 ho hb hg hat; rw [← Ny265.out] at ho; have n0_ := aM (Kd.V_afterv (ok := (fun k_ => (P0_ k_ ∨ w.heap.size ≤ k_) ∧ some k_ ≠ (.slice Ao16 t259.length co16 : Value).ownBlock)) (by (with_reducible repeat (first | apply Kd.V_alloc | apply Kd.V_drewN | apply Kd.V_drew)); exact HO0.out) hg hat); have n1_ := aM (Kd.N_afterv (ok := (fun k_ => (P0_ k_ ∨ w.heap.size ≤ k_))) (by (with_reducible repeat (first | apply Kd.N_alloc | apply Kd.N_drewN | apply Kd.N_drew)); exact HO261.out) hg hat); have n2_ := aM (hb); have n3_ := aM (ho); clear HO0; clear HO261; clear HB; clear HO264; have HO0 := n0_; have HO261 := n1_; have HB := n2_; have HO267 := n3_; clear n0_ n1_ n2_ n3_; clear ho hb hg hat; obtain ⟨Ao19, co19, eo19⟩ := Kd.R_slice HO267.out; subst eo19) | (go_at_call 16; (with_reducible refine (rollbacknetmake_Mod.calls a2 (wrap64 ((y265.length : Int) + 1)) t268 _ A11.out).mono ?_); rintro e w' ⟨rfl, ⟨nd, rfl⟩⟩; (try first | exact ⟨rfl, _, World.drewN_drewN _ _ _⟩ | exact ⟨rfl, _, Eq.trans (World.drewN_drewN _ _ _) (congrArg (World.drewN _) (Nat.add_assoc _ _ _))⟩); have q20 : (t268 : Int) ≤ ((y265.length : Int) : Int) := of_decide_eq_true (by first | (with_reducible assumption) | assumption); obtain ⟨i020, hi020, _, hsz20, _⟩ := info_parts info5; have hroom20 : y265.length ≤ co19 := (Kd.R_reads' HO267.out).2.1; have hC20 : Kd.F (Kd.int .u8) _ _ Ao19 y265.length y265 := (Kd.V_at (base := w.heap.size) (Kd.V_mono (ok' := (fun k_ => ((P0_ k_ ∨ w.heap.size ≤ k_) ∧ some k_ ≠ (.slice Ao16 t259.length co16 : Value).ownBlock))) (Kd.R_V (Kd.R_apart' (HO267.out) (Kd.N_typed HO261.out) (by decide))) (fun k_ hk => ⟨(.inr (hk.1)), hk.2⟩))).2.2; have hcut20 := cut_to (P := Try.prog) 22 5 .i64 Try.underlying22 hi020 Ao19 y265.length co19 t268 (of_decide_eq_true (by first | (with_reducible assumption) | assumption)) q20 hroom20; have hr20 := Kd.F_take (m := (t268 : Int).toNat) hC20 (by omega); have hy20 : y269.length = (t268 : Int).toNat := (by rw [Ny269.out, List.length_take]; omega); rw [← Ny269.out] at hr20; rw [← hy20] at hcut20; have HO273 := aM (show Kd.V (Kd.int .u8) 5 _ w.heap.size _ (.slice Ao19 y269.length co19) y269 from Kd.V_mk (by omega) hr20); have HC273 := aM (show y269.length ≤ co19 from by omega); clear hr20 hC20 hroom20 hi020 hsz20; have KY20 := aM hy20; clear hy20; replace q20 := eq_true q20) | ((with_reducible refine gate_dst (N := 34) rfl ?_); (try (refine gate_guard (by rfl) ?_; dsimp only)); refine Kd.N_lit (Kd.slice 5 (Kd.int .u8)) _ 22 ?hg (N' := 34) ?hd (xs := ([l0, y265, y269] : List (List Int))) (inner := [.slice A0 l0.length c0, .slice Ao19 y265.length co19, .slice Ao19 y269.length co19]) (ok := (fun k_ => (P0_ k_ ∨ w.heap.size ≤ k_) ∧ some k_ ≠ (.slice Ao16 t259.length co16 : Value).ownBlock)) (okp := (fun k_ => (P0_ k_ ∨ w.heap.size ≤ k_) ∧ some k_ ≠ (.slice Ao16 t259.length co16 : Value).ownBlock)) ?hr ?hp (fun _ hk => hk) ((show ∀ k_, w18.heap.size ≤ k_ → (fun k_ => (P0_ k_ ∨ w.heap.size ≤ k_) ∧ some k_ ≠ (.slice Ao16 t259.length co16 : Value).ownBlock) k_ from fun k_ hk => ⟨(.inr (Nat.le_trans (below_size (by repeat (first | (with_reducible first | exact HB.out | apply wA | apply wN | apply wD) | exact HB.out))) hk)), Kd.fresh' (Kd.N_lt (by (with_reducible repeat (first | apply Kd.N_alloc | apply Kd.N_drewN | apply Kd.N_drew)); exact HO261.out)) k_ hk⟩) _ (Nat.le_refl _)) (Below.refl _ _) (Nat.le_refl _) (by simp) ?_; (case hd => rfl); (case hg => rfl); (case hr => first | (go_simp; done) | (go_simp; rfl)); (case hp => first | exact Kd.reps_drewN _ ((Reps.one (show Kd.FK (Kd.slice 5 (Kd.int .u8)) _ _ l0 [.slice A0 l0.length c0] from (Kd.FK_slice_mk (Kd.V_reads' (Kd.V_mono (ok' := (fun k_ => (P0_ k_ ∨ w.heap.size ≤ k_) ∧ some k_ ≠ (.slice Ao16 t259.length co16 : Value).ownBlock)) (HO0.out) (fun k_ hk => ⟨hk.1.1, hk.1.2⟩))).2.1 (Kd.V_F (Kd.V_mono (ok' := (fun k_ => (P0_ k_ ∨ w.heap.size ≤ k_) ∧ some k_ ≠ (.slice Ao16 t259.length co16 : Value).ownBlock)) (HO0.out) (fun k_ hk => ⟨hk.1.1, hk.1.2⟩))))) (Reps.one (show Kd.FK (Kd.slice 5 (Kd.int .u8)) _ _ y265 [.slice Ao19 y265.length co19] from (Kd.FK_slice_mk (Kd.R_reads' (Kd.R_mono (ok' := (fun k_ => (P0_ k_ ∨ w.heap.size ≤ k_) ∧ some k_ ≠ (.slice Ao16 t259.length co16 : Value).ownBlock)) (Kd.R_apart' (HO267.out) (Kd.N_typed HO261.out) (by decide)) (fun k_ hk => ⟨(.inr (hk.1)), hk.2⟩))).2.1 (Kd.R_F (Kd.R_mono (ok' := (fun k_ => (P0_ k_ ∨ w.heap.size ≤ k_) ∧ some k_ ≠ (.slice Ao16 t259.length co16 : Value).ownBlock)) (Kd.R_apart' (HO267.out) (Kd.N_typed HO261.out) (by decide)) (fun k_ hk => ⟨(.inr (hk.1)), hk.2⟩))))) (Reps.one (show Kd.FK (Kd.slice 5 (Kd.int .u8)) _ _ y269 [.slice Ao19 y269.length co19] from (Kd.FK_slice_mk (Kd.V_reads' (Kd.V_mono (ok' := (fun k_ => (P0_ k_ ∨ w.heap.size ≤ k_) ∧ some k_ ≠ (.slice Ao16 t259.length co16 : Value).ownBlock)) (HO273.out) (fun k_ hk => ⟨hk.1, hk.2⟩))).2.1 (Kd.V_F (Kd.V_mono (ok' := (fun k_ => (P0_ k_ ∨ w.heap.size ≤ k_) ∧ some k_ ≠ (.slice Ao16 t259.length co16 : Value).ownBlock)) (HO273.out) (fun k_ hk => ⟨hk.1, hk.2⟩))))) (Reps.none _ _))))) | exact (Reps.one (show Kd.FK (Kd.slice 5 (Kd.int .u8)) _ _ l0 [.slice A0 l0.length c0] from (Kd.FK_slice_mk (Kd.V_reads' (Kd.V_mono (ok' := (fun k_ => (P0_ k_ ∨ w.heap.size ≤ k_) ∧ some k_ ≠ (.slice Ao16 t259.length co16 : Value).ownBlock)) (HO0.out) (fun k_ hk => ⟨hk.1.1, hk.1.2⟩))).2.1 (Kd.V_F (Kd.V_mono (ok' := (fun k_ => (P0_ k_ ∨ w.heap.size ≤ k_) ∧ some k_ ≠ (.slice Ao16 t259.length co16 : Value).ownBlock)) (HO0.out) (fun k_ hk => ⟨hk.1.1, hk.1.2⟩))))) (Reps.one (show Kd.FK (Kd.slice 5 (Kd.int .u8)) _ _ y265 [.slice Ao19 y265.length co19] from (Kd.FK_slice_mk (Kd.R_reads' (Kd.R_mono (ok' := (fun k_ => (P0_ k_ ∨ w.heap.size ≤ k_) ∧ some k_ ≠ (.slice Ao16 t259.length co16 : Value).ownBlock)) (Kd.R_apart' (HO267.out) (Kd.N_typed HO261.out) (by decide)) (fun k_ hk => ⟨(.inr (hk.1)), hk.2⟩))).2.1 (Kd.R_F (Kd.R_mono (ok' := (fun k_ => (P0_ k_ ∨ w.heap.size ≤ k_) ∧ some k_ ≠ (.slice Ao16 t259.length co16 : Value).ownBlock)) (Kd.R_apart' (HO267.out) (Kd.N_typed HO261.out) (by decide)) (fun k_ hk => ⟨(.inr (hk.1)), hk.2⟩))))) (Reps.one (show Kd.FK (Kd.slice 5 (Kd.int .u8)) _ _ y269 [.slice Ao19 y269.length co19] from (Kd.FK_slice_mk (Kd.V_reads' (Kd.V_mono (ok' := (fun k_ => (P0_ k_ ∨ w.heap.size ≤ k_) ∧ some k_ ≠ (.slice Ao16 t259.length co16 : Value).ownBlock)) (HO273.out) (fun k_ hk => ⟨hk.1, hk.2⟩))).2.1 (Kd.V_F (Kd.V_mono (ok' := (fun k_ => (P0_ k_ ∨ w.heap.size ≤ k_) ∧ some k_ ≠ (.slice Ao16 t259.length co16 : Value).ownBlock)) (HO273.out) (fun k_ hk => ⟨hk.1, hk.2⟩))))) (Reps.none _ _))))); intro v275 w21 ho22 hb hg_ hnew_; clear hg_ hnew_; (first | rw [← Ny274.out] at ho22 | (simp only [Int.reduceToNat] at ho22; rw [← Ny274.out] at ho22)); have n0_ := aM (Kd.V_elder' (by (with_reducible repeat (first | apply Kd.V_alloc | apply Kd.V_drewN | apply Kd.V_drew)); exact HO0.out) (by first | exact Kd.N_base ho22 | exact Kd.N_base (Kd.S_N ho22)) hb); have n1_ := aM (Kd.N_elder' (by (with_reducible repeat (first | apply Kd.N_alloc | apply Kd.N_drewN | apply Kd.N_drew)); exact HO261.out) (by first | exact Kd.N_base ho22 | exact Kd.N_base (Kd.S_N ho22)) hb); have n2_ := aM (Kd.V_elder' (by (with_reducible repeat (first | apply Kd.V_alloc | apply Kd.V_drewN | apply Kd.V_drew)); exact HO273.out) (by first | exact Kd.N_base ho22 | exact Kd.N_base (Kd.S_N ho22)) hb); have n3_ := aM (Kd.N_lower ho22 (below_size (by repeat (first | (with_reducible first | exact HB.out | apply wA | apply wN | apply wD) | exact HB.out)))); have n4_ := aM (below_step (by repeat (first | (with_reducible first | exact HB.out | apply wA | apply wN | apply wD) | exact HB.out)) hb); clear HO0; clear HO261; clear HO273; clear HB; clear HO267; have HO0 := n0_; have HO261 := n1_; have HO273 := n2_; have HO276 := n3_; have HB := n4_; clear n0_ n1_ n2_ n3_ n4_; clear hb ho22; obtain ⟨Ao23, co23, eo23⟩ := Kd.N_slice HO276.out; subst eo23))
      repeat (go_quiet (first | (go_at_call 9; (with_reducible refine (rollbacknetlaw11_awake.calls k  true _ A4.out).mono ?_); rintro e w14 ⟨rfl, hb⟩; have n0_ := aM (Kd.V_below (by (with_reducible repeat (first | apply Kd.V_alloc | apply Kd.V_drewN | apply Kd.V_drew)); exact HO0.out) hb); have n1_ := aM (below_step (by repeat (first | (with_reducible first | exact HB.out | apply wA | apply wN | apply wD) | exact HB.out)) hb); clear HO0; clear HB; have HO0 := n0_; have HB := n1_; clear n0_ n1_; (try clear hb); (try clear hb2); (try clear hk); (try clear hi); (try clear hge_)) | (go_at_call 14; (with_reducible refine (rollbacknetlaw11_bodies.calls k _ _ l1 t259 _ ?side1 ?side2 A8.out).mono ?_); (case side1 => repeat (first | exact (Kd.C_below HR1.out HB.out) | (with_reducible refine Kd.C_alloc ?_ _) | (with_reducible refine Kd.C_drewN ?_ _) | (with_reducible refine Kd.C_drew ?_))); (case side2 => exact HC1.out); rintro e w15 ⟨v260, rfl, ho0, hb⟩; have n0_ := aM (Kd.V_elder' (by (with_reducible repeat (first | apply Kd.V_alloc | apply Kd.V_drewN | apply Kd.V_drew)); exact HO0.out) (by first | exact Kd.N_base ho0 | exact Kd.N_base (Kd.S_N ho0)) hb); have n1_ := aM (Kd.N_lower (Kd.N_mono (ok' := fun k_ => (P0_ k_ ∨ w.heap.size ≤ k_)) (Kd.S_N (Kd.S_bound ho0)) (fun k_ hk_ => (.inr (Nat.le_trans (below_size (by repeat (first | (with_reducible first | exact HB.out | apply wA | apply wN | apply wD) | exact HB.out))) hk_.2.1)))) (below_size (by repeat (first | (with_reducible first | exact HB.out | apply wA | apply wN | apply wD) | exact HB.out)))); have n2_ := aM (below_step (by repeat (first | (with_reducible first | exact HB.out | apply wA | apply wN | apply wD) | exact HB.out)) hb); clear HO0; clear HB; have HO0 := n0_; have HO261 := n1_; have HB := n2_; clear n0_ n1_ n2_; (try clear hb); (try clear hb2); (try clear hk); (try clear hi); (try clear hge_); (try clear ho0); obtain ⟨Ao16, co16, eo16⟩ := Kd.N_slice HO261.out; subst eo16) | (go_at_call 13; (with_reducible refine (rollbacknetlaw11_seal.calls k _ _ t259 t262 _ ?side1 ?side2 A9.out).mono ?_); (case side1 => repeat (first | exact (Kd.N_reads' HO261.out).2.2 | (with_reducible refine Kd.C_alloc ?_ _) | (with_reducible refine Kd.C_drewN ?_ _) | (with_reducible refine Kd.C_drew ?_))); (case side2 => exact (Kd.N_reads' HO261.out).2.1); rintro e w17 ⟨v263, rfl, ho0, hb⟩; have n0_ := aM (Kd.V_elder' (by (with_reducible repeat (first | apply Kd.V_alloc | apply Kd.V_drewN | apply Kd.V_drew)); exact HO0.out) (Kd.R_base ho0) hb); have n1_ := aM (Kd.N_elder' (by (with_reducible repeat (first | apply Kd.N_alloc | apply Kd.N_drewN | apply Kd.N_drew)); exact HO261.out) (Kd.R_base ho0) hb); have n2_ := aM (Kd.R_lower (Kd.R_newM (M := fun k_ => (w.heap.size ≤ k_)) ho0 (below_size (by repeat (first | (with_reducible first | exact HB.out | apply wA | apply wN | apply wD) | exact HB.out))) (fun k_ h_ => h_)) (below_size (by repeat (first | (with_reducible first | exact HB.out | apply wA | apply wN | apply wD) | exact HB.out)))); have n3_ := aM (below_step (by repeat (first | (with_reducible first | exact HB.out | apply wA | apply wN | apply wD) | exact HB.out)) hb); clear HO0; clear HO261; clear HB; have HO0 := n0_; have HO261 := n1_; have HO264 := n2_; have HB := n3_; clear n0_ n1_ n2_ n3_; (try clear hb); (try clear hb2); (try clear hk); (try clear hi); (try clear hge_); (try clear ho0)) | ((with_reducible refine gate_builtin (b := .append) (xs := #[(.tmp 22), .tmp 23]) rfl ?_); (try (refine gate_guard (by rfl) ?_; dsimp only)); at_builtin; refine Kd.R_append_rows (Kd.int .u8) (w0 := w) w.heap.size rfl (.tmp 22) (.tmp 23) 22 5 (.int .u8 0) 1 rfl Try.underlying22 info5 rfl (by decide) (by omega) v263 t262 l0 _ _ _ (fun k_ => (w.heap.size ≤ k_)) (fun _ => False) rfl rfl ?aO ?aR (fun _ _ h => h) (fun _ h => h.elim) ?aF ?aB ?aS ?aL ?_; (case aR => repeat (first | exact (Kd.V_reads' HO0.out).2.2 | (with_reducible refine Kd.C_alloc ?_ _) | (with_reducible refine Kd.C_drewN ?_ _) | (with_reducible refine Kd.C_drew ?_))); (case aB => exact (by repeat (first | (with_reducible first | exact HB.out | apply wA | apply wN | apply wD) | exact HB.out))); (case aF => exact (fun k_ hk => (Nat.le_trans (below_size (by repeat (first | (with_reducible first | exact HB.out | apply wA | apply wN | apply wD) | exact HB.out))) hk))); (case aO => exact (by (with_reducible repeat (first | apply Kd.R_alloc | apply Kd.R_drewN | apply Kd.R_drew)); exact Kd.R_mono HO264.out (fun _ hk => hk.1))); (case aS => exact (below_size (by repeat (first | (with_reducible first | exact HB.out | apply wA | apply wN | apply wD) | exact HB.out)))); (case aL => have := LMc10.out; omega); intro v266 w18 ho hb hg hat; rw [← Ny265.out] at ho; have n0_ := aM (Kd.V_afterv (ok := (fun k_ => (P0_ k_ ∨ w.heap.size ≤ k_) ∧ some k_ ≠ (.slice Ao16 t259.length co16 : Value).ownBlock)) (by (with_reducible repeat (first | apply Kd.V_alloc | apply Kd.V_drewN | apply Kd.V_drew)); exact HO0.out) hg hat); have n1_ := aM (Kd.N_afterv (ok := (fun k_ => (P0_ k_ ∨ w.heap.size ≤ k_))) (by (with_reducible repeat (first | apply Kd.N_alloc | apply Kd.N_drewN | apply Kd.N_drew)); exact HO261.out) hg hat); have n2_ := aM (hb); have n3_ := aM (ho); clear HO0; clear HO261; clear HB; clear HO264; have HO0 := n0_; have HO261 := n1_; have HB := n2_; have HO267 := n3_; clear n0_ n1_ n2_ n3_; clear ho hb hg hat; obtain ⟨Ao19, co19, eo19⟩ := Kd.R_slice HO267.out; subst eo19) | (go_at_call 16; (with_reducible refine (rollbacknetmake_Mod.calls a2 (wrap64 ((y265.length : Int) + 1)) t268 _ A11.out).mono ?_); rintro e w' ⟨rfl, ⟨nd, rfl⟩⟩; (try first | exact ⟨rfl, _, World.drewN_drewN _ _ _⟩ | exact ⟨rfl, _, Eq.trans (World.drewN_drewN _ _ _) (congrArg (World.drewN _) (Nat.add_assoc _ _ _))⟩); have q20 : (t268 : Int) ≤ ((y265.length : Int) : Int) := of_decide_eq_true (by first | (with_reducible assumption) | assumption); obtain ⟨i020, hi020, _, hsz20, _⟩ := info_parts info5; have hroom20 : y265.length ≤ co19 := (Kd.R_reads' HO267.out).2.1; have hC20 : Kd.F (Kd.int .u8) _ _ Ao19 y265.length y265 := (Kd.V_at (base := w.heap.size) (Kd.V_mono (ok' := (fun k_ => ((P0_ k_ ∨ w.heap.size ≤ k_) ∧ some k_ ≠ (.slice Ao16 t259.length co16 : Value).ownBlock))) (Kd.R_V (Kd.R_apart' (HO267.out) (Kd.N_typed HO261.out) (by decide))) (fun k_ hk => ⟨(.inr (hk.1)), hk.2⟩))).2.2; have hcut20 := cut_to (P := Try.prog) 22 5 .i64 Try.underlying22 hi020 Ao19 y265.length co19 t268 (of_decide_eq_true (by first | (with_reducible assumption) | assumption)) q20 hroom20; have hr20 := Kd.F_take (m := (t268 : Int).toNat) hC20 (by omega); have hy20 : y269.length = (t268 : Int).toNat := (by rw [Ny269.out, List.length_take]; omega); rw [← Ny269.out] at hr20; rw [← hy20] at hcut20; have HO273 := aM (show Kd.V (Kd.int .u8) 5 _ w.heap.size _ (.slice Ao19 y269.length co19) y269 from Kd.V_mk (by omega) hr20); have HC273 := aM (show y269.length ≤ co19 from by omega); clear hr20 hC20 hroom20 hi020 hsz20; have KY20 := aM hy20; clear hy20; replace q20 := eq_true q20) | ((with_reducible refine gate_dst (N := 34) rfl ?_); (try (refine gate_guard (by rfl) ?_; dsimp only)); refine Kd.N_lit (Kd.slice 5 (Kd.int .u8)) _ 22 ?hg (N' := 34) ?hd (xs := ([l0, y265, y269] : List (List Int))) (inner := [.slice A0 l0.length c0, .slice Ao19 y265.length co19, .slice Ao19 y269.length co19]) (ok := (fun k_ => (P0_ k_ ∨ w.heap.size ≤ k_) ∧ some k_ ≠ (.slice Ao16 t259.length co16 : Value).ownBlock)) (okp := (fun k_ => (P0_ k_ ∨ w.heap.size ≤ k_) ∧ some k_ ≠ (.slice Ao16 t259.length co16 : Value).ownBlock)) ?hr ?hp (fun _ hk => hk) ((show ∀ k_, w18.heap.size ≤ k_ → (fun k_ => (P0_ k_ ∨ w.heap.size ≤ k_) ∧ some k_ ≠ (.slice Ao16 t259.length co16 : Value).ownBlock) k_ from fun k_ hk => ⟨(.inr (Nat.le_trans (below_size (by repeat (first | (with_reducible first | exact HB.out | apply wA | apply wN | apply wD) | exact HB.out))) hk)), Kd.fresh' (Kd.N_lt (by (with_reducible repeat (first | apply Kd.N_alloc | apply Kd.N_drewN | apply Kd.N_drew)); exact HO261.out)) k_ hk⟩) _ (Nat.le_refl _)) (Below.refl _ _) (Nat.le_refl _) (by simp) ?_; (case hd => rfl); (case hg => rfl); (case hr => first | (go_simp; done) | (go_simp; rfl)); (case hp => first | exact Kd.reps_drewN _ ((Reps.one (show Kd.FK (Kd.slice 5 (Kd.int .u8)) _ _ l0 [.slice A0 l0.length c0] from (Kd.FK_slice_mk (Kd.V_reads' (Kd.V_mono (ok' := (fun k_ => (P0_ k_ ∨ w.heap.size ≤ k_) ∧ some k_ ≠ (.slice Ao16 t259.length co16 : Value).ownBlock)) (HO0.out) (fun k_ hk => ⟨hk.1.1, hk.1.2⟩))).2.1 (Kd.V_F (Kd.V_mono (ok' := (fun k_ => (P0_ k_ ∨ w.heap.size ≤ k_) ∧ some k_ ≠ (.slice Ao16 t259.length co16 : Value).ownBlock)) (HO0.out) (fun k_ hk => ⟨hk.1.1, hk.1.2⟩))))) (Reps.one (show Kd.FK (Kd.slice 5 (Kd.int .u8)) _ _ y265 [.slice Ao19 y265.length co19] from (Kd.FK_slice_mk (Kd.R_reads' (Kd.R_mono (ok' := (fun k_ => (P0_ k_ ∨ w.heap.size ≤ k_) ∧ some k_ ≠ (.slice Ao16 t259.length co16 : Value).ownBlock)) (Kd.R_apart' (HO267.out) (Kd.N_typed HO261.out) (by decide)) (fun k_ hk => ⟨(.inr (hk.1)), hk.2⟩))).2.1 (Kd.R_F (Kd.R_mono (ok' := (fun k_ => (P0_ k_ ∨ w.heap.size ≤ k_) ∧ some k_ ≠ (.slice Ao16 t259.length co16 : Value).ownBlock)) (Kd.R_apart' (HO267.out) (Kd.N_typed HO261.out) (by decide)) (fun k_ hk => ⟨(.inr (hk.1)), hk.2⟩))))) (Reps.one (show Kd.FK (Kd.slice 5 (Kd.int .u8)) _ _ y269 [.slice Ao19 y269.length co19] from (Kd.FK_slice_mk (Kd.V_reads' (Kd.V_mono (ok' := (fun k_ => (P0_ k_ ∨ w.heap.size ≤ k_) ∧ some k_ ≠ (.slice Ao16 t259.length co16 : Value).ownBlock)) (HO273.out) (fun k_ hk => ⟨hk.1, hk.2⟩))).2.1 (Kd.V_F (Kd.V_mono (ok' := (fun k_ => (P0_ k_ ∨ w.heap.size ≤ k_) ∧ some k_ ≠ (.slice Ao16 t259.length co16 : Value).ownBlock)) (HO273.out) (fun k_ hk => ⟨hk.1, hk.2⟩))))) (Reps.none _ _))))) | exact (Reps.one (show Kd.FK (Kd.slice 5 (Kd.int .u8)) _ _ l0 [.slice A0 l0.length c0] from (Kd.FK_slice_mk (Kd.V_reads' (Kd.V_mono (ok' := (fun k_ => (P0_ k_ ∨ w.heap.size ≤ k_) ∧ some k_ ≠ (.slice Ao16 t259.length co16 : Value).ownBlock)) (HO0.out) (fun k_ hk => ⟨hk.1.1, hk.1.2⟩))).2.1 (Kd.V_F (Kd.V_mono (ok' := (fun k_ => (P0_ k_ ∨ w.heap.size ≤ k_) ∧ some k_ ≠ (.slice Ao16 t259.length co16 : Value).ownBlock)) (HO0.out) (fun k_ hk => ⟨hk.1.1, hk.1.2⟩))))) (Reps.one (show Kd.FK (Kd.slice 5 (Kd.int .u8)) _ _ y265 [.slice Ao19 y265.length co19] from (Kd.FK_slice_mk (Kd.R_reads' (Kd.R_mono (ok' := (fun k_ => (P0_ k_ ∨ w.heap.size ≤ k_) ∧ some k_ ≠ (.slice Ao16 t259.length co16 : Value).ownBlock)) (Kd.R_apart' (HO267.out) (Kd.N_typed HO261.out) (by decide)) (fun k_ hk => ⟨(.inr (hk.1)), hk.2⟩))).2.1 (Kd.R_F (Kd.R_mono (ok' := (fun k_ => (P0_ k_ ∨ w.heap.size ≤ k_) ∧ some k_ ≠ (.slice Ao16 t259.length co16 : Value).ownBlock)) (Kd.R_apart' (HO267.out) (Kd.N_typed HO261.out) (by decide)) (fun k_ hk => ⟨(.inr (hk.1)), hk.2⟩))))) (Reps.one (show Kd.FK (Kd.slice 5 (Kd.int .u8)) _ _ y269 [.slice Ao19 y269.length co19] from (Kd.FK_slice_mk (Kd.V_reads' (Kd.V_mono (ok' := (fun k_ => (P0_ k_ ∨ w.heap.size ≤ k_) ∧ some k_ ≠ (.slice Ao16 t259.length co16 : Value).ownBlock)) (HO273.out) (fun k_ hk => ⟨hk.1, hk.2⟩))).2.1 (Kd.V_F (Kd.V_mono (ok' := (fun k_ => (P0_ k_ ∨ w.heap.size ≤ k_) ∧ some k_ ≠ (.slice Ao16 t259.length co16 : Value).ownBlock)) (HO273.out) (fun k_ hk => ⟨hk.1, hk.2⟩))))) (Reps.none _ _))))); intro v275 w21 ho22 hb hg_ hnew_; clear hg_ hnew_; (first | rw [← Ny274.out] at ho22 | (simp only [Int.reduceToNat] at ho22; rw [← Ny274.out] at ho22)); have n0_ := aM (Kd.V_elder' (by (with_reducible repeat (first | apply Kd.V_alloc | apply Kd.V_drewN | apply Kd.V_drew)); exact HO0.out) (by first | exact Kd.N_base ho22 | exact Kd.N_base (Kd.S_N ho22)) hb); have n1_ := aM (Kd.N_elder' (by (with_reducible repeat (first | apply Kd.N_alloc | apply Kd.N_drewN | apply Kd.N_drew)); exact HO261.out) (by first | exact Kd.N_base ho22 | exact Kd.N_base (Kd.S_N ho22)) hb); have n2_ := aM (Kd.V_elder' (by (with_reducible repeat (first | apply Kd.V_alloc | apply Kd.V_drewN | apply Kd.V_drew)); exact HO273.out) (by first | exact Kd.N_base ho22 | exact Kd.N_base (Kd.S_N ho22)) hb); have n3_ := aM (Kd.N_lower ho22 (below_size (by repeat (first | (with_reducible first | exact HB.out | apply wA | apply wN | apply wD) | exact HB.out)))); have n4_ := aM (below_step (by repeat (first | (with_reducible first | exact HB.out | apply wA | apply wN | apply wD) | exact HB.out)) hb); clear HO0; clear HO261; clear HO273; clear HB; clear HO267; have HO0 := n0_; have HO261 := n1_; have HO273 := n2_; have HO276 := n3_; have HB := n4_; clear n0_ n1_ n2_ n3_ n4_; clear hb ho22; obtain ⟨Ao23, co23, eo23⟩ := Kd.N_slice HO276.out; subst eo23)); try go_wp2_with (first | (go_at_call 9; (with_reducible refine (rollbacknetlaw11_awake.calls k  true _ A4.out).mono ?_); rintro e w14 ⟨rfl, hb⟩; have n0_ := aM (Kd.V_below (by (with_reducible repeat (first | apply Kd.V_alloc | apply Kd.V_drewN | apply Kd.V_drew)); exact HO0.out) hb); have n1_ := aM (below_step (by repeat (first | (with_reducible first | exact HB.out | apply wA | apply wN | apply wD) | exact HB.out)) hb); clear HO0; clear HB; have HO0 := n0_; have HB := n1_; clear n0_ n1_; (try clear hb); (try clear hb2); (try clear hk); (try clear hi); (try clear hge_)) | (go_at_call 14; (with_reducible refine (rollbacknetlaw11_bodies.calls k _ _ l1 t259 _ ?side1 ?side2 A8.out).mono ?_); (case side1 => repeat (first | exact (Kd.C_below HR1.out HB.out) | (with_reducible refine Kd.C_alloc ?_ _) | (with_reducible refine Kd.C_drewN ?_ _) | (with_reducible refine Kd.C_drew ?_))); (case side2 => exact HC1.out); rintro e w15 ⟨v260, rfl, ho0, hb⟩; have n0_ := aM (Kd.V_elder' (by (with_reducible repeat (first | apply Kd.V_alloc | apply Kd.V_drewN | apply Kd.V_drew)); exact HO0.out) (by first | exact Kd.N_base ho0 | exact Kd.N_base (Kd.S_N ho0)) hb); have n1_ := aM (Kd.N_lower (Kd.N_mono (ok' := fun k_ => (P0_ k_ ∨ w.heap.size ≤ k_)) (Kd.S_N (Kd.S_bound ho0)) (fun k_ hk_ => (.inr (Nat.le_trans (below_size (by repeat (first | (with_reducible first | exact HB.out | apply wA | apply wN | apply wD) | exact HB.out))) hk_.2.1)))) (below_size (by repeat (first | (with_reducible first | exact HB.out | apply wA | apply wN | apply wD) | exact HB.out)))); have n2_ := aM (below_step (by repeat (first | (with_reducible first | exact HB.out | apply wA | apply wN | apply wD) | exact HB.out)) hb); clear HO0; clear HB; have HO0 := n0_; have HO261 := n1_; have HB := n2_; clear n0_ n1_ n2_; (try clear hb); (try clear hb2); (try clear hk); (try clear hi); (try clear hge_); (try clear ho0); obtain ⟨Ao16, co16, eo16⟩ := Kd.N_slice HO261.out; subst eo16) | (go_at_call 13; (with_reducible refine (rollbacknetlaw11_seal.calls k _ _ t259 t262 _ ?side1 ?side2 A9.out).mono ?_); (case side1 => repeat (first | exact (Kd.N_reads' HO261.out).2.2 | (with_reducible refine Kd.C_alloc ?_ _) | (with_reducible refine Kd.C_drewN ?_ _) | (with_reducible refine Kd.C_drew ?_))); (case side2 => exact (Kd.N_reads' HO261.out).2.1); rintro e w17 ⟨v263, rfl, ho0, hb⟩; have n0_ := aM (Kd.V_elder' (by (with_reducible repeat (first | apply Kd.V_alloc | apply Kd.V_drewN | apply Kd.V_drew)); exact HO0.out) (Kd.R_base ho0) hb); have n1_ := aM (Kd.N_elder' (by (with_reducible repeat (first | apply Kd.N_alloc | apply Kd.N_drewN | apply Kd.N_drew)); exact HO261.out) (Kd.R_base ho0) hb); have n2_ := aM (Kd.R_lower (Kd.R_newM (M := fun k_ => (w.heap.size ≤ k_)) ho0 (below_size (by repeat (first | (with_reducible first | exact HB.out | apply wA | apply wN | apply wD) | exact HB.out))) (fun k_ h_ => h_)) (below_size (by repeat (first | (with_reducible first | exact HB.out | apply wA | apply wN | apply wD) | exact HB.out)))); have n3_ := aM (below_step (by repeat (first | (with_reducible first | exact HB.out | apply wA | apply wN | apply wD) | exact HB.out)) hb); clear HO0; clear HO261; clear HB; have HO0 := n0_; have HO261 := n1_; have HO264 := n2_; have HB := n3_; clear n0_ n1_ n2_ n3_; (try clear hb); (try clear hb2); (try clear hk); (try clear hi); (try clear hge_); (try clear ho0)) | ((with_reducible refine gate_builtin (b := .append) (xs := #[(.tmp 22), .tmp 23]) rfl ?_); (try (refine gate_guard (by rfl) ?_; dsimp only)); at_builtin; refine Kd.R_append_rows (Kd.int .u8) (w0 := w) w.heap.size rfl (.tmp 22) (.tmp 23) 22 5 (.int .u8 0) 1 rfl Try.underlying22 info5 rfl (by decide) (by omega) v263 t262 l0 _ _ _ (fun k_ => (w.heap.size ≤ k_)) (fun _ => False) rfl rfl ?aO ?aR (fun _ _ h => h) (fun _ h => h.elim) ?aF ?aB ?aS ?aL ?_; (case aR => repeat (first | exact (Kd.V_reads' HO0.out).2.2 | (with_reducible refine Kd.C_alloc ?_ _) | (with_reducible refine Kd.C_drewN ?_ _) | (with_reducible refine Kd.C_drew ?_))); (case aB => exact (by repeat (first | (with_reducible first | exact HB.out | apply wA | apply wN | apply wD) | exact HB.out))); (case aF => exact (fun k_ hk => (Nat.le_trans (below_size (by repeat (first | (with_reducible first | exact HB.out | apply wA | apply wN | apply wD) | exact HB.out))) hk))); (case aO => exact (by (with_reducible repeat (first | apply Kd.R_alloc | apply Kd.R_drewN | apply Kd.R_drew)); exact Kd.R_mono HO264.out (fun _ hk => hk.1))); (case aS => exact (below_size (by repeat (first | (with_reducible first | exact HB.out | apply wA | apply wN | apply wD) | exact HB.out)))); (case aL => have := LMc10.out; omega); intro v266 w18 ho hb hg hat; rw [← Ny265.out] at ho; have n0_ := aM (Kd.V_afterv (ok := (fun k_ => (P0_ k_ ∨ w.heap.size ≤ k_) ∧ some k_ ≠ (.slice Ao16 t259.length co16 : Value).ownBlock)) (by (with_reducible repeat (first | apply Kd.V_alloc | apply Kd.V_drewN | apply Kd.V_drew)); exact HO0.out) hg hat); have n1_ := aM (Kd.N_afterv (ok := (fun k_ => (P0_ k_ ∨ w.heap.size ≤ k_))) (by (with_reducible repeat (first | apply Kd.N_alloc | apply Kd.N_drewN | apply Kd.N_drew)); exact HO261.out) hg hat); have n2_ := aM (hb); have n3_ := aM (ho); clear HO0; clear HO261; clear HB; clear HO264; have HO0 := n0_; have HO261 := n1_; have HB := n2_; have HO267 := n3_; clear n0_ n1_ n2_ n3_; clear ho hb hg hat; obtain ⟨Ao19, co19, eo19⟩ := Kd.R_slice HO267.out; subst eo19) | (go_at_call 16; (with_reducible refine (rollbacknetmake_Mod.calls a2 (wrap64 ((y265.length : Int) + 1)) t268 _ A11.out).mono ?_); rintro e w' ⟨rfl, ⟨nd, rfl⟩⟩; (try first | exact ⟨rfl, _, World.drewN_drewN _ _ _⟩ | exact ⟨rfl, _, Eq.trans (World.drewN_drewN _ _ _) (congrArg (World.drewN _) (Nat.add_assoc _ _ _))⟩); have q20 : (t268 : Int) ≤ ((y265.length : Int) : Int) := of_decide_eq_true (by first | (with_reducible assumption) | assumption); obtain ⟨i020, hi020, _, hsz20, _⟩ := info_parts info5; have hroom20 : y265.length ≤ co19 := (Kd.R_reads' HO267.out).2.1; have hC20 : Kd.F (Kd.int .u8) _ _ Ao19 y265.length y265 := (Kd.V_at (base := w.heap.size) (Kd.V_mono (ok' := (fun k_ => ((P0_ k_ ∨ w.heap.size ≤ k_) ∧ some k_ ≠ (.slice Ao16 t259.length co16 : Value).ownBlock))) (Kd.R_V (Kd.R_apart' (HO267.out) (Kd.N_typed HO261.out) (by decide))) (fun k_ hk => ⟨(.inr (hk.1)), hk.2⟩))).2.2; have hcut20 := cut_to (P := Try.prog) 22 5 .i64 Try.underlying22 hi020 Ao19 y265.length co19 t268 (of_decide_eq_true (by first | (with_reducible assumption) | assumption)) q20 hroom20; have hr20 := Kd.F_take (m := (t268 : Int).toNat) hC20 (by omega); have hy20 : y269.length = (t268 : Int).toNat := (by rw [Ny269.out, List.length_take]; omega); rw [← Ny269.out] at hr20; rw [← hy20] at hcut20; have HO273 := aM (show Kd.V (Kd.int .u8) 5 _ w.heap.size _ (.slice Ao19 y269.length co19) y269 from Kd.V_mk (by omega) hr20); have HC273 := aM (show y269.length ≤ co19 from by omega); clear hr20 hC20 hroom20 hi020 hsz20; have KY20 := aM hy20; clear hy20; replace q20 := eq_true q20) | ((with_reducible refine gate_dst (N := 34) rfl ?_); (try (refine gate_guard (by rfl) ?_; dsimp only)); refine Kd.N_lit (Kd.slice 5 (Kd.int .u8)) _ 22 ?hg (N' := 34) ?hd (xs := ([l0, y265, y269] : List (List Int))) (inner := [.slice A0 l0.length c0, .slice Ao19 y265.length co19, .slice Ao19 y269.length co19]) (ok := (fun k_ => (P0_ k_ ∨ w.heap.size ≤ k_) ∧ some k_ ≠ (.slice Ao16 t259.length co16 : Value).ownBlock)) (okp := (fun k_ => (P0_ k_ ∨ w.heap.size ≤ k_) ∧ some k_ ≠ (.slice Ao16 t259.length co16 : Value).ownBlock)) ?hr ?hp (fun _ hk => hk) ((show ∀ k_, w18.heap.size ≤ k_ → (fun k_ => (P0_ k_ ∨ w.heap.size ≤ k_) ∧ some k_ ≠ (.slice Ao16 t259.length co16 : Value).ownBlock) k_ from fun k_ hk => ⟨(.inr (Nat.le_trans (below_size (by repeat (first | (with_reducible first | exact HB.out | apply wA | apply wN | apply wD) | exact HB.out))) hk)), Kd.fresh' (Kd.N_lt (by (with_reducible repeat (first | apply Kd.N_alloc | apply Kd.N_drewN | apply Kd.N_drew)); exact HO261.out)) k_ hk⟩) _ (Nat.le_refl _)) (Below.refl _ _) (Nat.le_refl _) (by simp) ?_; (case hd => rfl); (case hg => rfl); (case hr => first | (go_simp; done) | (go_simp; rfl)); (case hp => first | exact Kd.reps_drewN _ ((Reps.one (show Kd.FK (Kd.slice 5 (Kd.int .u8)) _ _ l0 [.slice A0 l0.length c0] from (Kd.FK_slice_mk (Kd.V_reads' (Kd.V_mono (ok' := (fun k_ => (P0_ k_ ∨ w.heap.size ≤ k_) ∧ some k_ ≠ (.slice Ao16 t259.length co16 : Value).ownBlock)) (HO0.out) (fun k_ hk => ⟨hk.1.1, hk.1.2⟩))).2.1 (Kd.V_F (Kd.V_mono (ok' := (fun k_ => (P0_ k_ ∨ w.heap.size ≤ k_) ∧ some k_ ≠ (.slice Ao16 t259.length co16 : Value).ownBlock)) (HO0.out) (fun k_ hk => ⟨hk.1.1, hk.1.2⟩))))) (Reps.one (show Kd.FK (Kd.slice 5 (Kd.int .u8)) _ _ y265 [.slice Ao19 y265.length co19] from (Kd.FK_slice_mk (Kd.R_reads' (Kd.R_mono (ok' := (fun k_ => (P0_ k_ ∨ w.heap.size ≤ k_) ∧ some k_ ≠ (.slice Ao16 t259.length co16 : Value).ownBlock)) (Kd.R_apart' (HO267.out) (Kd.N_typed HO261.out) (by decide)) (fun k_ hk => ⟨(.inr (hk.1)), hk.2⟩))).2.1 (Kd.R_F (Kd.R_mono (ok' := (fun k_ => (P0_ k_ ∨ w.heap.size ≤ k_) ∧ some k_ ≠ (.slice Ao16 t259.length co16 : Value).ownBlock)) (Kd.R_apart' (HO267.out) (Kd.N_typed HO261.out) (by decide)) (fun k_ hk => ⟨(.inr (hk.1)), hk.2⟩))))) (Reps.one (show Kd.FK (Kd.slice 5 (Kd.int .u8)) _ _ y269 [.slice Ao19 y269.length co19] from (Kd.FK_slice_mk (Kd.V_reads' (Kd.V_mono (ok' := (fun k_ => (P0_ k_ ∨ w.heap.size ≤ k_) ∧ some k_ ≠ (.slice Ao16 t259.length co16 : Value).ownBlock)) (HO273.out) (fun k_ hk => ⟨hk.1, hk.2⟩))).2.1 (Kd.V_F (Kd.V_mono (ok' := (fun k_ => (P0_ k_ ∨ w.heap.size ≤ k_) ∧ some k_ ≠ (.slice Ao16 t259.length co16 : Value).ownBlock)) (HO273.out) (fun k_ hk => ⟨hk.1, hk.2⟩))))) (Reps.none _ _))))) | exact (Reps.one (show Kd.FK (Kd.slice 5 (Kd.int .u8)) _ _ l0 [.slice A0 l0.length c0] from (Kd.FK_slice_mk (Kd.V_reads' (Kd.V_mono (ok' := (fun k_ => (P0_ k_ ∨ w.heap.size ≤ k_) ∧ some k_ ≠ (.slice Ao16 t259.length co16 : Value).ownBlock)) (HO0.out) (fun k_ hk => ⟨hk.1.1, hk.1.2⟩))).2.1 (Kd.V_F (Kd.V_mono (ok' := (fun k_ => (P0_ k_ ∨ w.heap.size ≤ k_) ∧ some k_ ≠ (.slice Ao16 t259.length co16 : Value).ownBlock)) (HO0.out) (fun k_ hk => ⟨hk.1.1, hk.1.2⟩))))) (Reps.one (show Kd.FK (Kd.slice 5 (Kd.int .u8)) _ _ y265 [.slice Ao19 y265.length co19] from (Kd.FK_slice_mk (Kd.R_reads' (Kd.R_mono (ok' := (fun k_ => (P0_ k_ ∨ w.heap.size ≤ k_) ∧ some k_ ≠ (.slice Ao16 t259.length co16 : Value).ownBlock)) (Kd.R_apart' (HO267.out) (Kd.N_typed HO261.out) (by decide)) (fun k_ hk => ⟨(.inr (hk.1)), hk.2⟩))).2.1 (Kd.R_F (Kd.R_mono (ok' := (fun k_ => (P0_ k_ ∨ w.heap.size ≤ k_) ∧ some k_ ≠ (.slice Ao16 t259.length co16 : Value).ownBlock)) (Kd.R_apart' (HO267.out) (Kd.N_typed HO261.out) (by decide)) (fun k_ hk => ⟨(.inr (hk.1)), hk.2⟩))))) (Reps.one (show Kd.FK (Kd.slice 5 (Kd.int .u8)) _ _ y269 [.slice Ao19 y269.length co19] from (Kd.FK_slice_mk (Kd.V_reads' (Kd.V_mono (ok' := (fun k_ => (P0_ k_ ∨ w.heap.size ≤ k_) ∧ some k_ ≠ (.slice Ao16 t259.length co16 : Value).ownBlock)) (HO273.out) (fun k_ hk => ⟨hk.1, hk.2⟩))).2.1 (Kd.V_F (Kd.V_mono (ok' := (fun k_ => (P0_ k_ ∨ w.heap.size ≤ k_) ∧ some k_ ≠ (.slice Ao16 t259.length co16 : Value).ownBlock)) (HO273.out) (fun k_ hk => ⟨hk.1, hk.2⟩))))) (Reps.none _ _))))); intro v275 w21 ho22 hb hg_ hnew_; clear hg_ hnew_; (first | rw [← Ny274.out] at ho22 | (simp only [Int.reduceToNat] at ho22; rw [← Ny274.out] at ho22)); have n0_ := aM (Kd.V_elder' (by (with_reducible repeat (first | apply Kd.V_alloc | apply Kd.V_drewN | apply Kd.V_drew)); exact HO0.out) (by first | exact Kd.N_base ho22 | exact Kd.N_base (Kd.S_N ho22)) hb); have n1_ := aM (Kd.N_elder' (by (with_reducible repeat (first | apply Kd.N_alloc | apply Kd.N_drewN | apply Kd.N_drew)); exact HO261.out) (by first | exact Kd.N_base ho22 | exact Kd.N_base (Kd.S_N ho22)) hb); have n2_ := aM (Kd.V_elder' (by (with_reducible repeat (first | apply Kd.V_alloc | apply Kd.V_drewN | apply Kd.V_drew)); exact HO273.out) (by first | exact Kd.N_base ho22 | exact Kd.N_base (Kd.S_N ho22)) hb); have n3_ := aM (Kd.N_lower ho22 (below_size (by repeat (first | (with_reducible first | exact HB.out | apply wA | apply wN | apply wD) | exact HB.out)))); have n4_ := aM (below_step (by repeat (first | (with_reducible first | exact HB.out | apply wA | apply wN | apply wD) | exact HB.out)) hb); clear HO0; clear HO261; clear HO273; clear HB; clear HO267; have HO0 := n0_; have HO261 := n1_; have HO273 := n2_; have HO276 := n3_; have HB := n4_; clear n0_ n1_ n2_ n3_ n4_; clear hb ho22; obtain ⟨Ao23, co23, eo23⟩ := Kd.N_slice HO276.out; subst eo23)))
      go_loopg [36] k (fun kq v36 w' => ∃ (x36_1 : Int), v36 = .int .i64 x36_1 ∧ Aside0 (rollbacknetlaw11_FrameScans.l0 kq y274 (y274.length : Int) x36_1 = some r) ∧ Aside0 (kq ≤ k) ∧ Aside0 (Kd.N (Kd.slice 5 (Kd.int .u8)) 22 w' w.heap.size (fun k_ => (P0_ k_ ∨ w.heap.size ≤ k_)) (.slice Ao23 y274.length co23) y274) ∧ Aside0 (Below w.heap.size w w'))
      case atStart => exact ⟨(0), (by first | rfl | (simp; done) | (simp [*]; done)), H', ⟨Nat.le_refl _⟩, ⟨by (with_reducible repeat (first | apply Kd.N_alloc | apply Kd.N_drewN | apply Kd.N_drew)); exact Kd.N_mono HO276.out (fun _ hk => hk.1)⟩, ⟨by repeat (first | (with_reducible first | exact HB.out | apply wA | apply wN | apply wD) | exact HB.out)⟩⟩
      case round =>
       clear H'
       try clear c1
       try clear p2
       try clear q2
       try clear c5
       try clear c6
       try clear c6b0
       try clear c6b1
       try clear p6
       try clear c10
       try clear c12
       try clear c12b0
       try clear c12b1
       try clear c13
       try clear c13b0
       try clear c13b1
       try clear q20
       try clear q20
       obtain ⟨x36_1, rfl, HA, HK1, HO_34, HB⟩ := hrel
       cases gk with
       | zero => exact absurd HA.out (by simp [rollbacknetlaw11_FrameScans.l0])
       | succ k1 =>
        have H := HA.out
        clear HA
        simp only [rollbacknetlaw11_FrameScans.l0] at H
        by_cases c24 : x36_1 < (y274.length : Int)
        ·rw [if_pos c24] at H
         have c24b0 : decide (x36_1 < (y274.length : Int)) = true := decide_eq_true c24
         clear c24
         by_cases c25 : 0 ≤ x36_1
         ·rw [if_pos c25] at H
          have c25b0 : decide (0 ≤ x36_1) = true := decide_eq_true c25
          clear c25
          by_cases c26 : x36_1 < (y274.length : Int)
          ·rw [if_pos c26] at H
           have c26b0 : decide (x36_1 < (y274.length : Int)) = true := decide_eq_true c26
           clear c26
           replace H := Option.bind_eq_some_iff.mp H
           obtain ⟨⟨t278, t279⟩, A270, H⟩ := H
           replace H : ((rollbacknetref11_Scan.f k1 (rd_L2 y274 x36_1)).bind fun bt282 => (if t279 = bt282.2 then (rollbacknetlaw11_FrameScans.j1 k1 t278 bt282.1 y274 (y274.length : Int) x36_1 ((t278.length : Int) != (bt282.1.length : Int))) else (rollbacknetlaw11_FrameScans.j1 k1 t278 bt282.1 y274 (y274.length : Int) x36_1 true))) = some r := H
           have A27 := aM A270
           clear A270
           replace H := Option.bind_eq_some_iff.mp H
           obtain ⟨⟨t282, t283⟩, A280, H⟩ := H
           replace H : (if t279 = t283 then (rollbacknetlaw11_FrameScans.j1 k1 t278 t282 y274 (y274.length : Int) x36_1 ((t278.length : Int) != (t282.length : Int))) else (rollbacknetlaw11_FrameScans.j1 k1 t278 t282 y274 (y274.length : Int) x36_1 true)) = some r := H
           have A28 := aM A280
           clear A280
           have HC29 := aM H
           clear H
           have p277 : 0 ≤ (x36_1 : Int) := of_decide_eq_true (by first | (with_reducible assumption) | assumption)
           have q277 : x36_1 < (y274.length : Int) := of_decide_eq_true (by first | (with_reducible assumption) | assumption)
           obtain ⟨ad277, A277_0, c277_0, e277, hx277_0, hl277_0, hi277_0⟩ := at_L2 (Kd.N_reads' HO_34.out).2.2 x36_1 p277 q277
           cases e277
           obtain ⟨ce277, hce277, hMe277, hcc277⟩ := Kd.N_get HO_34.out [] x36_1 p277 (by first | exact q277 | exact of_decide_eq_true (by first | (with_reducible assumption) | assumption) | (have e_ := (Kd.N_reads' HO_34.out).1; omega))
           obtain ⟨ua277_0, uc277_0, rfl, ul277_0, ge277_0⟩ := Kd.FK_slice_open hMe277
           have hv277_0 := hcc277 0 _ rfl
           rw [Nat.add_zero, show ((Kd.slice 5 (Kd.int .u8))).sz = 1 from rfl, Nat.mul_one] at hv277_0
           replace hv277_0 := Option.some.inj (hv277_0.symm.trans hx277_0)
           injection hv277_0 with hva_ hvn_ hvc_
           rw [hva_] at ge277_0
           rw [hvc_] at ul277_0
           have HL277_0 := aM (show Kd.V (Kd.int .u8) 5 _ w.heap.size _ _ (rd_L2 y274 x36_1) from Kd.V_mk ul277_0 ge277_0)
           clear hva_ hvn_ hvc_ ge277_0 ul277_0
           clear hcc277 hce277
           have HR277_0 := aM hi277_0
           have HC277_0 := aM hl277_0
           clear hi277_0 hl277_0
           replace p277 := eq_true p277
           replace q277 := eq_true q277
           go_upto_region 11 with (first | (go_at_call 18; (with_reducible refine (frame_Scan.calls k1 _ _ (rd_L2 y274 x36_1) t278 t279 _ ?side1 ?side2 A27.out).mono ?_); (case side1 => repeat (first | exact (by repeat (first | (with_reducible exact HR277_0.out) | (with_reducible refine Kd.C_alloc ?_ _) | (with_reducible refine Kd.C_drewN ?_ _) | (with_reducible refine Kd.C_drew ?_) | exact HR277_0.out)) | (with_reducible refine Kd.C_alloc ?_ _) | (with_reducible refine Kd.C_drewN ?_ _) | (with_reducible refine Kd.C_drew ?_))); (case side2 => exact HC277_0.out); rintro e w30 ⟨v280, rfl, ho0, hb⟩; have n0_ := aM (Kd.N_elder' (by (with_reducible repeat (first | apply Kd.N_alloc | apply Kd.N_drewN | apply Kd.N_drew)); exact HO_34.out) (by first | exact Kd.N_base ho0 | exact Kd.N_base (Kd.S_N ho0)) hb); have n1_ := aM (Kd.V_elder' (by (with_reducible repeat (first | apply Kd.V_alloc | apply Kd.V_drewN | apply Kd.V_drew)); exact HL277_0.out) (by first | exact Kd.N_base ho0 | exact Kd.N_base (Kd.S_N ho0)) hb); have n2_ := aM (Kd.N_lower (Kd.N_mono (ok' := fun k_ => (P0_ k_ ∨ w.heap.size ≤ k_) ∧ some k_ ≠ (.slice (some ad277) y274.length co23 : Value).ownBlock) (Kd.S_N (Kd.S_bound ho0)) (fun k_ hk_ => ⟨(.inr (Nat.le_trans (below_size (by repeat (first | (with_reducible first | exact HB.out | apply wA | apply wN | apply wD) | exact HB.out))) hk_.2.1)), (Kd.fresh' (Kd.N_lt (by (with_reducible repeat (first | apply Kd.N_alloc | apply Kd.N_drewN | apply Kd.N_drew)); exact HO_34.out)) k_ hk_.2.1)⟩)) (below_size (by repeat (first | (with_reducible first | exact HB.out | apply wA | apply wN | apply wD) | exact HB.out)))); have n3_ := aM (Kd.C_below (by repeat (first | (with_reducible exact HR277_0.out) | (with_reducible refine Kd.C_alloc ?_ _) | (with_reducible refine Kd.C_drewN ?_ _) | (with_reducible refine Kd.C_drew ?_) | exact HR277_0.out)) hb); have n4_ := aM (below_step (by repeat (first | (with_reducible first | exact HB.out | apply wA | apply wN | apply wD) | exact HB.out)) hb); clear HO_34; clear HL277_0; clear HR277_0; clear HB; have HO_34 := n0_; have HL277_0 := n1_; have HO281 := n2_; have HR277_0 := n3_; have HB := n4_; clear n0_ n1_ n2_ n3_ n4_; (try clear hb); (try clear hb2); (try clear hk); (try clear hi); (try clear hge_); (try clear ho0)) | (go_at_call 19; (with_reducible refine (rollbacknetref11_Scan.calls k1 _ _ (rd_L2 y274 x36_1) t282 t283 _ ?side1 ?side2 A28.out).mono ?_); (case side1 => repeat (first | exact (by repeat (first | (with_reducible exact HR277_0.out) | (with_reducible refine Kd.C_alloc ?_ _) | (with_reducible refine Kd.C_drewN ?_ _) | (with_reducible refine Kd.C_drew ?_) | exact HR277_0.out)) | (with_reducible refine Kd.C_alloc ?_ _) | (with_reducible refine Kd.C_drewN ?_ _) | (with_reducible refine Kd.C_drew ?_))); (case side2 => exact HC277_0.out); rintro e w31 ⟨v284, rfl, ho0, hb⟩; have n0_ := aM (Kd.N_elder' (by (with_reducible repeat (first | apply Kd.N_alloc | apply Kd.N_drewN | apply Kd.N_drew)); exact HO_34.out) (by first | exact Kd.N_base ho0 | exact Kd.N_base (Kd.S_N ho0)) hb); have n1_ := aM (Kd.V_elder' (by (with_reducible repeat (first | apply Kd.V_alloc | apply Kd.V_drewN | apply Kd.V_drew)); exact HL277_0.out) (by first | exact Kd.N_base ho0 | exact Kd.N_base (Kd.S_N ho0)) hb); have n2_ := aM (Kd.N_elder' (by (with_reducible repeat (first | apply Kd.N_alloc | apply Kd.N_drewN | apply Kd.N_drew)); exact HO281.out) (by first | exact Kd.N_base ho0 | exact Kd.N_base (Kd.S_N ho0)) hb); have n3_ := aM (Kd.N_lower (Kd.N_mono (ok' := fun k_ => (P0_ k_ ∨ w.heap.size ≤ k_) ∧ some k_ ≠ (.slice (some ad277) y274.length co23 : Value).ownBlock ∧ some k_ ≠ (v280 : Value).ownBlock) (Kd.S_N (Kd.S_bound ho0)) (fun k_ hk_ => ⟨(.inr (Nat.le_trans (below_size (by repeat (first | (with_reducible first | exact HB.out | apply wA | apply wN | apply wD) | exact HB.out))) hk_.2.1)), (Kd.fresh' (Kd.N_lt (by (with_reducible repeat (first | apply Kd.N_alloc | apply Kd.N_drewN | apply Kd.N_drew)); exact HO_34.out)) k_ hk_.2.1), (Kd.fresh' (Kd.N_lt (by (with_reducible repeat (first | apply Kd.N_alloc | apply Kd.N_drewN | apply Kd.N_drew)); exact HO281.out)) k_ hk_.2.1)⟩)) (below_size (by repeat (first | (with_reducible first | exact HB.out | apply wA | apply wN | apply wD) | exact HB.out)))); have n4_ := aM (Kd.C_below (by repeat (first | (with_reducible exact HR277_0.out) | (with_reducible refine Kd.C_alloc ?_ _) | (with_reducible refine Kd.C_drewN ?_ _) | (with_reducible refine Kd.C_drew ?_) | exact HR277_0.out)) hb); have n5_ := aM (below_step (by repeat (first | (with_reducible first | exact HB.out | apply wA | apply wN | apply wD) | exact HB.out)) hb); clear HO_34; clear HL277_0; clear HO281; clear HR277_0; clear HB; have HO_34 := n0_; have HL277_0 := n1_; have HO281 := n2_; have HO285 := n3_; have HR277_0 := n4_; have HB := n5_; clear n0_ n1_ n2_ n3_ n4_ n5_; (try clear hb); (try clear hb2); (try clear hk); (try clear hi); (try clear hge_); (try clear ho0)))
           repeat (go_quiet (first | (go_at_call 18; (with_reducible refine (frame_Scan.calls k1 _ _ (rd_L2 y274 x36_1) t278 t279 _ ?side1 ?side2 A27.out).mono ?_); (case side1 => repeat (first | exact (by repeat (first | (with_reducible exact HR277_0.out) | (with_reducible refine Kd.C_alloc ?_ _) | (with_reducible refine Kd.C_drewN ?_ _) | (with_reducible refine Kd.C_drew ?_) | exact HR277_0.out)) | (with_reducible refine Kd.C_alloc ?_ _) | (with_reducible refine Kd.C_drewN ?_ _) | (with_reducible refine Kd.C_drew ?_))); (case side2 => exact HC277_0.out); rintro e w30 ⟨v280, rfl, ho0, hb⟩; have n0_ := aM (Kd.N_elder' (by (with_reducible repeat (first | apply Kd.N_alloc | apply Kd.N_drewN | apply Kd.N_drew)); exact HO_34.out) (by first | exact Kd.N_base ho0 | exact Kd.N_base (Kd.S_N ho0)) hb); have n1_ := aM (Kd.V_elder' (by (with_reducible repeat (first | apply Kd.V_alloc | apply Kd.V_drewN | apply Kd.V_drew)); exact HL277_0.out) (by first | exact Kd.N_base ho0 | exact Kd.N_base (Kd.S_N ho0)) hb); have n2_ := aM (Kd.N_lower (Kd.N_mono (ok' := fun k_ => (P0_ k_ ∨ w.heap.size ≤ k_) ∧ some k_ ≠ (.slice (some ad277) y274.length co23 : Value).ownBlock) (Kd.S_N (Kd.S_bound ho0)) (fun k_ hk_ => ⟨(.inr (Nat.le_trans (below_size (by repeat (first | (with_reducible first | exact HB.out | apply wA | apply wN | apply wD) | exact HB.out))) hk_.2.1)), (Kd.fresh' (Kd.N_lt (by (with_reducible repeat (first | apply Kd.N_alloc | apply Kd.N_drewN | apply Kd.N_drew)); exact HO_34.out)) k_ hk_.2.1)⟩)) (below_size (by repeat (first | (with_reducible first | exact HB.out | apply wA | apply wN | apply wD) | exact HB.out)))); have n3_ := aM (Kd.C_below (by repeat (first | (with_reducible exact HR277_0.out) | (with_reducible refine Kd.C_alloc ?_ _) | (with_reducible refine Kd.C_drewN ?_ _) | (with_reducible refine Kd.C_drew ?_) | exact HR277_0.out)) hb); have n4_ := aM (below_step (by repeat (first | (with_reducible first | exact HB.out | apply wA | apply wN | apply wD) | exact HB.out)) hb); clear HO_34; clear HL277_0; clear HR277_0; clear HB; have HO_34 := n0_; have HL277_0 := n1_; have HO281 := n2_; have HR277_0 := n3_; have HB := n4_; clear n0_ n1_ n2_ n3_ n4_; (try clear hb); (try clear hb2); (try clear hk); (try clear hi); (try clear hge_); (try clear ho0)) | (go_at_call 19; (with_reducible refine (rollbacknetref11_Scan.calls k1 _ _ (rd_L2 y274 x36_1) t282 t283 _ ?side1 ?side2 A28.out).mono ?_); (case side1 => repeat (first | exact (by repeat (first | (with_reducible exact HR277_0.out) | (with_reducible refine Kd.C_alloc ?_ _) | (with_reducible refine Kd.C_drewN ?_ _) | (with_reducible refine Kd.C_drew ?_) | exact HR277_0.out)) | (with_reducible refine Kd.C_alloc ?_ _) | (with_reducible refine Kd.C_drewN ?_ _) | (with_reducible refine Kd.C_drew ?_))); (case side2 => exact HC277_0.out); rintro e w31 ⟨v284, rfl, ho0, hb⟩; have n0_ := aM (Kd.N_elder' (by (with_reducible repeat (first | apply Kd.N_alloc | apply Kd.N_drewN | apply Kd.N_drew)); exact HO_34.out) (by first | exact Kd.N_base ho0 | exact Kd.N_base (Kd.S_N ho0)) hb); have n1_ := aM (Kd.V_elder' (by (with_reducible repeat (first | apply Kd.V_alloc | apply Kd.V_drewN | apply Kd.V_drew)); exact HL277_0.out) (by first | exact Kd.N_base ho0 | exact Kd.N_base (Kd.S_N ho0)) hb); have n2_ := aM (Kd.N_elder' (by (with_reducible repeat (first | apply Kd.N_alloc | apply Kd.N_drewN | apply Kd.N_drew)); exact HO281.out) (by first | exact Kd.N_base ho0 | exact Kd.N_base (Kd.S_N ho0)) hb); have n3_ := aM (Kd.N_lower (Kd.N_mono (ok' := fun k_ => (P0_ k_ ∨ w.heap.size ≤ k_) ∧ some k_ ≠ (.slice (some ad277) y274.length co23 : Value).ownBlock ∧ some k_ ≠ (v280 : Value).ownBlock) (Kd.S_N (Kd.S_bound ho0)) (fun k_ hk_ => ⟨(.inr (Nat.le_trans (below_size (by repeat (first | (with_reducible first | exact HB.out | apply wA | apply wN | apply wD) | exact HB.out))) hk_.2.1)), (Kd.fresh' (Kd.N_lt (by (with_reducible repeat (first | apply Kd.N_alloc | apply Kd.N_drewN | apply Kd.N_drew)); exact HO_34.out)) k_ hk_.2.1), (Kd.fresh' (Kd.N_lt (by (with_reducible repeat (first | apply Kd.N_alloc | apply Kd.N_drewN | apply Kd.N_drew)); exact HO281.out)) k_ hk_.2.1)⟩)) (below_size (by repeat (first | (with_reducible first | exact HB.out | apply wA | apply wN | apply wD) | exact HB.out)))); have n4_ := aM (Kd.C_below (by repeat (first | (with_reducible exact HR277_0.out) | (with_reducible refine Kd.C_alloc ?_ _) | (with_reducible refine Kd.C_drewN ?_ _) | (with_reducible refine Kd.C_drew ?_) | exact HR277_0.out)) hb); have n5_ := aM (below_step (by repeat (first | (with_reducible first | exact HB.out | apply wA | apply wN | apply wD) | exact HB.out)) hb); clear HO_34; clear HL277_0; clear HO281; clear HR277_0; clear HB; have HO_34 := n0_; have HL277_0 := n1_; have HO281 := n2_; have HO285 := n3_; have HR277_0 := n4_; have HB := n5_; clear n0_ n1_ n2_ n3_ n4_ n5_; (try clear hb); (try clear hb2); (try clear hk); (try clear hi); (try clear hge_); (try clear ho0))); go_upto_region 11 with (first | (go_at_call 18; (with_reducible refine (frame_Scan.calls k1 _ _ (rd_L2 y274 x36_1) t278 t279 _ ?side1 ?side2 A27.out).mono ?_); (case side1 => repeat (first | exact (by repeat (first | (with_reducible exact HR277_0.out) | (with_reducible refine Kd.C_alloc ?_ _) | (with_reducible refine Kd.C_drewN ?_ _) | (with_reducible refine Kd.C_drew ?_) | exact HR277_0.out)) | (with_reducible refine Kd.C_alloc ?_ _) | (with_reducible refine Kd.C_drewN ?_ _) | (with_reducible refine Kd.C_drew ?_))); (case side2 => exact HC277_0.out); rintro e w30 ⟨v280, rfl, ho0, hb⟩; have n0_ := aM (Kd.N_elder' (by (with_reducible repeat (first | apply Kd.N_alloc | apply Kd.N_drewN | apply Kd.N_drew)); exact HO_34.out) (by first | exact Kd.N_base ho0 | exact Kd.N_base (Kd.S_N ho0)) hb); have n1_ := aM (Kd.V_elder' (by (with_reducible repeat (first | apply Kd.V_alloc | apply Kd.V_drewN | apply Kd.V_drew)); exact HL277_0.out) (by first | exact Kd.N_base ho0 | exact Kd.N_base (Kd.S_N ho0)) hb); have n2_ := aM (Kd.N_lower (Kd.N_mono (ok' := fun k_ => (P0_ k_ ∨ w.heap.size ≤ k_) ∧ some k_ ≠ (.slice (some ad277) y274.length co23 : Value).ownBlock) (Kd.S_N (Kd.S_bound ho0)) (fun k_ hk_ => ⟨(.inr (Nat.le_trans (below_size (by repeat (first | (with_reducible first | exact HB.out | apply wA | apply wN | apply wD) | exact HB.out))) hk_.2.1)), (Kd.fresh' (Kd.N_lt (by (with_reducible repeat (first | apply Kd.N_alloc | apply Kd.N_drewN | apply Kd.N_drew)); exact HO_34.out)) k_ hk_.2.1)⟩)) (below_size (by repeat (first | (with_reducible first | exact HB.out | apply wA | apply wN | apply wD) | exact HB.out)))); have n3_ := aM (Kd.C_below (by repeat (first | (with_reducible exact HR277_0.out) | (with_reducible refine Kd.C_alloc ?_ _) | (with_reducible refine Kd.C_drewN ?_ _) | (with_reducible refine Kd.C_drew ?_) | exact HR277_0.out)) hb); have n4_ := aM (below_step (by repeat (first | (with_reducible first | exact HB.out | apply wA | apply wN | apply wD) | exact HB.out)) hb); clear HO_34; clear HL277_0; clear HR277_0; clear HB; have HO_34 := n0_; have HL277_0 := n1_; have HO281 := n2_; have HR277_0 := n3_; have HB := n4_; clear n0_ n1_ n2_ n3_ n4_; (try clear hb); (try clear hb2); (try clear hk); (try clear hi); (try clear hge_); (try clear ho0)) | (go_at_call 19; (with_reducible refine (rollbacknetref11_Scan.calls k1 _ _ (rd_L2 y274 x36_1) t282 t283 _ ?side1 ?side2 A28.out).mono ?_); (case side1 => repeat (first | exact (by repeat (first | (with_reducible exact HR277_0.out) | (with_reducible refine Kd.C_alloc ?_ _) | (with_reducible refine Kd.C_drewN ?_ _) | (with_reducible refine Kd.C_drew ?_) | exact HR277_0.out)) | (with_reducible refine Kd.C_alloc ?_ _) | (with_reducible refine Kd.C_drewN ?_ _) | (with_reducible refine Kd.C_drew ?_))); (case side2 => exact HC277_0.out); rintro e w31 ⟨v284, rfl, ho0, hb⟩; have n0_ := aM (Kd.N_elder' (by (with_reducible repeat (first | apply Kd.N_alloc | apply Kd.N_drewN | apply Kd.N_drew)); exact HO_34.out) (by first | exact Kd.N_base ho0 | exact Kd.N_base (Kd.S_N ho0)) hb); have n1_ := aM (Kd.V_elder' (by (with_reducible repeat (first | apply Kd.V_alloc | apply Kd.V_drewN | apply Kd.V_drew)); exact HL277_0.out) (by first | exact Kd.N_base ho0 | exact Kd.N_base (Kd.S_N ho0)) hb); have n2_ := aM (Kd.N_elder' (by (with_reducible repeat (first | apply Kd.N_alloc | apply Kd.N_drewN | apply Kd.N_drew)); exact HO281.out) (by first | exact Kd.N_base ho0 | exact Kd.N_base (Kd.S_N ho0)) hb); have n3_ := aM (Kd.N_lower (Kd.N_mono (ok' := fun k_ => (P0_ k_ ∨ w.heap.size ≤ k_) ∧ some k_ ≠ (.slice (some ad277) y274.length co23 : Value).ownBlock ∧ some k_ ≠ (v280 : Value).ownBlock) (Kd.S_N (Kd.S_bound ho0)) (fun k_ hk_ => ⟨(.inr (Nat.le_trans (below_size (by repeat (first | (with_reducible first | exact HB.out | apply wA | apply wN | apply wD) | exact HB.out))) hk_.2.1)), (Kd.fresh' (Kd.N_lt (by (with_reducible repeat (first | apply Kd.N_alloc | apply Kd.N_drewN | apply Kd.N_drew)); exact HO_34.out)) k_ hk_.2.1), (Kd.fresh' (Kd.N_lt (by (with_reducible repeat (first | apply Kd.N_alloc | apply Kd.N_drewN | apply Kd.N_drew)); exact HO281.out)) k_ hk_.2.1)⟩)) (below_size (by repeat (first | (with_reducible first | exact HB.out | apply wA | apply wN | apply wD) | exact HB.out)))); have n4_ := aM (Kd.C_below (by repeat (first | (with_reducible exact HR277_0.out) | (with_reducible refine Kd.C_alloc ?_ _) | (with_reducible refine Kd.C_drewN ?_ _) | (with_reducible refine Kd.C_drew ?_) | exact HR277_0.out)) hb); have n5_ := aM (below_step (by repeat (first | (with_reducible first | exact HB.out | apply wA | apply wN | apply wD) | exact HB.out)) hb); clear HO_34; clear HL277_0; clear HO281; clear HR277_0; clear HB; have HO_34 := n0_; have HL277_0 := n1_; have HO281 := n2_; have HO285 := n3_; have HR277_0 := n4_; have HB := n5_; clear n0_ n1_ n2_ n3_ n4_ n5_; (try clear hb); (try clear hb2); (try clear hk); (try clear hi); (try clear hge_); (try clear ho0))))
           (try simp only [Act.put, List.setIfInBounds_toArray, List.set_cons_zero, List.set_cons_succ])
           go_cut [59] (fun v59 wc => ∃ (kq : Nat) (x59_28 : Bool), v59 = .bool x59_28 ∧ Aside0 (rollbacknetlaw11_FrameScans.j1 kq t278 t282 y274 (y274.length : Int) x36_1 x59_28 = some r) ∧ Aside0 (kq ≤ k1) ∧ Aside0 (Kd.N (Kd.slice 5 (Kd.int .u8)) 22 wc w.heap.size (fun k_ => (P0_ k_ ∨ w.heap.size ≤ k_) ∧ some k_ ≠ (v284 : Value).ownBlock ∧ some k_ ≠ ((.slice (some ad277) y274.length co23) : Value).ownBlock) v280 t278) ∧ Aside0 (Kd.N (Kd.slice 5 (Kd.int .u8)) 22 wc w.heap.size (fun k_ => (P0_ k_ ∨ w.heap.size ≤ k_) ∧ some k_ ≠ (v280 : Value).ownBlock ∧ some k_ ≠ ((.slice (some ad277) y274.length co23) : Value).ownBlock) v284 t282) ∧ Aside0 (Kd.N (Kd.slice 5 (Kd.int .u8)) 22 wc w.heap.size (fun k_ => (P0_ k_ ∨ w.heap.size ≤ k_) ∧ some k_ ≠ (v280 : Value).ownBlock ∧ some k_ ≠ (v284 : Value).ownBlock) (.slice (some ad277) y274.length co23) y274) ∧ Aside0 (Kd.C (Kd.int .u8) wc A277_0 (rd_L2 y274 x36_1).length (rd_L2 y274 x36_1)) ∧ Aside0 (Below w.heap.size w wc))
           case first =>
            have H := HC29.out
            clear HC29
            by_cases c32 : t279 = t283
            ·rw [if_pos c32] at H
             have c32b0 : (t279 == t283) = true := beq_iff_eq.mpr c32
             have c32b1 : (t279 != t283) = false := bne_eq_false_iff_eq.mpr c32
             clear c32
             (first | rw [c32b0] | (simp only [i64_w, i32_w]; rw [c32b0]) | skip)
             have H' := aM H
             clear H
             obtain ⟨Ao33, co33, eo33⟩ := Kd.N_slice HO281.out
             subst eo33
             obtain ⟨Ao34, co34, eo34⟩ := Kd.N_slice HO285.out
             subst eo34
             go_wp2
             repeat (go_quiet (fail); try go_wp2)
             go_meet
             case rel => exact ⟨_, (((t278.length : Int) != (t282.length : Int))), (by first | rfl | (simp; done) | (simp [*]; done)), H', ⟨by have := HK1.out; first | omega | exact Nat.le_refl _⟩, ⟨by (with_reducible repeat (first | apply Kd.N_alloc | apply Kd.N_drewN | apply Kd.N_drew)); exact Kd.N_mono HO281.out (fun _ hk => ⟨hk.1.1, ⟨hk.2, hk.1.2⟩⟩)⟩, ⟨by (with_reducible repeat (first | apply Kd.N_alloc | apply Kd.N_drewN | apply Kd.N_drew)); exact Kd.N_mono HO285.out (fun _ hk => ⟨hk.1, ⟨hk.2.2, hk.2.1⟩⟩)⟩, ⟨by (with_reducible repeat (first | apply Kd.N_alloc | apply Kd.N_drewN | apply Kd.N_drew)); exact Kd.N_mono HO_34.out (fun _ hk => ⟨hk.1.1, ⟨hk.1.2, hk.2⟩⟩)⟩, ⟨by repeat (first | (with_reducible exact HR277_0.out) | (with_reducible refine Kd.C_alloc ?_ _) | (with_reducible refine Kd.C_drewN ?_ _) | (with_reducible refine Kd.C_drew ?_) | exact HR277_0.out)⟩, ⟨by repeat (first | (with_reducible first | exact HB.out | apply wA | apply wN | apply wD) | exact HB.out)⟩⟩
            ·rw [if_neg c32] at H
             have c32b0 : (t279 == t283) = false := beq_eq_false_iff_ne.mpr c32
             have c32b1 : (t279 != t283) = true := bne_iff_ne.mpr c32
             (first | rw [c32b0] | (simp only [i64_w, i32_w]; rw [c32b0]) | skip)
             have H' := aM H
             clear H
             go_wp2
             repeat (go_quiet (fail); try go_wp2)
             go_meet
             case rel => exact ⟨_, (true), (by first | rfl | (simp; done) | (simp [*]; done)), H', ⟨by have := HK1.out; first | omega | exact Nat.le_refl _⟩, ⟨by (with_reducible repeat (first | apply Kd.N_alloc | apply Kd.N_drewN | apply Kd.N_drew)); exact Kd.N_mono HO281.out (fun _ hk => ⟨hk.1.1, ⟨hk.2, hk.1.2⟩⟩)⟩, ⟨by (with_reducible repeat (first | apply Kd.N_alloc | apply Kd.N_drewN | apply Kd.N_drew)); exact Kd.N_mono HO285.out (fun _ hk => ⟨hk.1, ⟨hk.2.2, hk.2.1⟩⟩)⟩, ⟨by (with_reducible repeat (first | apply Kd.N_alloc | apply Kd.N_drewN | apply Kd.N_drew)); exact Kd.N_mono HO_34.out (fun _ hk => ⟨hk.1.1, ⟨hk.1.2, hk.2⟩⟩)⟩, ⟨by repeat (first | (with_reducible exact HR277_0.out) | (with_reducible refine Kd.C_alloc ?_ _) | (with_reducible refine Kd.C_drewN ?_ _) | (with_reducible refine Kd.C_drew ?_) | exact HR277_0.out)⟩, ⟨by repeat (first | (with_reducible first | exact HB.out | apply wA | apply wN | apply wD) | exact HB.out)⟩⟩
           case rest =>
            clear HC29
            try clear c1
            try clear c2
            try clear p2
            try clear q2
            try clear hx2
            try clear c3
            try clear c5
            try clear c6
            try clear c6b0
            try clear c6b1
            try clear p6
            try clear c10
            try clear c12
            try clear c12b0
            try clear c12b1
            try clear c13
            try clear c13b0
            try clear c13b1
            try clear q20
            try clear c24
            try clear c24b0
            try clear c25
            try clear c25b0
            try clear c26
            try clear c26b0
            try clear c27
            try clear p27
            try clear q27
            try clear hx27
            try clear c32
            try clear c32b0
            try clear c32b1
            try clear hx277_0
            try clear p2
            try clear p277
            try clear p6
            try clear q2
            try clear q20
            try clear q277
            obtain ⟨kq, x59_28, rfl, HA, HJ28, HO_10, HO_12, HO_34, HR277_0, HB⟩ := hcut
            cases kq with
            | zero => exact absurd HA.out (by simp [rollbacknetlaw11_FrameScans.j1])
            | succ kj28 =>
             have H := HA.out
             clear HA
             simp only [rollbacknetlaw11_FrameScans.j1] at H
             by_cases c35 : x59_28 = true
             ·subst c35
              have H1 : (some false) = some r := by rw [if_pos rfl] at H; exact H
              clear H
              have H := H1
              clear H1
              obtain rfl := Option.some.inj H
              go_wp2
              repeat (go_quiet (fail); try go_wp2)
              go_ret
              exact ⟨by first | rfl | (simp [errW_none, errW_some] <;> rfl) | (simp [*, errW_none, errW_some] <;> rfl), by repeat (first | (with_reducible first | exact HB.out | apply wA | apply wN | apply wD) | exact HB.out)⟩
             ·replace c35 := Bool.eq_false_iff.mpr c35
              subst c35
              have H1 : (rollbacknetlaw11_FrameScans.l1 kj28 t278 t282 y274 (y274.length : Int) x36_1 (t278.length : Int) 0) = some r := by rw [if_neg (show ¬ (false = true) by decide)] at H; exact H
              clear H
              have H := H1
              clear H1
              have H' := aM H
              clear H
              obtain ⟨Ao36, co36, eo36⟩ := Kd.N_slice HO_10.out
              subst eo36
              go_wp2
              repeat (go_quiet (fail); try go_wp2)
              go_loopg [62] kj28 (fun kq v62 w' => ∃ (x62_3 : Int), v62 = .int .i64 x62_3 ∧ Aside0 (rollbacknetlaw11_FrameScans.l1 kq t278 t282 y274 (y274.length : Int) x36_1 (t278.length : Int) x62_3 = some r) ∧ Aside0 (kq ≤ kj28) ∧ Aside0 (Kd.N (Kd.slice 5 (Kd.int .u8)) 22 w' w.heap.size (fun k_ => (P0_ k_ ∨ w.heap.size ≤ k_) ∧ some k_ ≠ (v284 : Value).ownBlock ∧ some k_ ≠ ((.slice (some ad277) y274.length co23) : Value).ownBlock) (.slice Ao36 t278.length co36) t278) ∧ Aside0 (Kd.N (Kd.slice 5 (Kd.int .u8)) 22 w' w.heap.size (fun k_ => (P0_ k_ ∨ w.heap.size ≤ k_) ∧ some k_ ≠ ((.slice Ao36 t278.length co36) : Value).ownBlock ∧ some k_ ≠ ((.slice (some ad277) y274.length co23) : Value).ownBlock) v284 t282) ∧ Aside0 (Kd.N (Kd.slice 5 (Kd.int .u8)) 22 w' w.heap.size (fun k_ => (P0_ k_ ∨ w.heap.size ≤ k_) ∧ some k_ ≠ ((.slice Ao36 t278.length co36) : Value).ownBlock ∧ some k_ ≠ (v284 : Value).ownBlock) (.slice (some ad277) y274.length co23) y274) ∧ Aside0 (Kd.C (Kd.int .u8) w' A277_0 (rd_L2 y274 x36_1).length (rd_L2 y274 x36_1)) ∧ Aside0 (Below w.heap.size w w'))
              case atStart => exact ⟨(0), (by first | rfl | (simp; done) | (simp [*]; done)), H', ⟨Nat.le_refl _⟩, ⟨by (with_reducible repeat (first | apply Kd.N_alloc | apply Kd.N_drewN | apply Kd.N_drew)); exact HO_10.out⟩, ⟨by (with_reducible repeat (first | apply Kd.N_alloc | apply Kd.N_drewN | apply Kd.N_drew)); exact HO_12.out⟩, ⟨by (with_reducible repeat (first | apply Kd.N_alloc | apply Kd.N_drewN | apply Kd.N_drew)); exact HO_34.out⟩, ⟨by repeat (first | (with_reducible exact HR277_0.out) | (with_reducible refine Kd.C_alloc ?_ _) | (with_reducible refine Kd.C_drewN ?_ _) | (with_reducible refine Kd.C_drew ?_) | exact HR277_0.out)⟩, ⟨by repeat (first | (with_reducible first | exact HB.out | apply wA | apply wN | apply wD) | exact HB.out)⟩⟩
              case round =>
               clear H'
               try clear c1
               try clear c2
               try clear p2
               try clear q2
               try clear hx2
               try clear c3
               try clear c5
               try clear c6
               try clear c6b0
               try clear c6b1
               try clear p6
               try clear c10
               try clear c12
               try clear c12b0
               try clear c12b1
               try clear c13
               try clear c13b0
               try clear c13b1
               try clear q20
               try clear c24
               try clear c24b0
               try clear c25
               try clear c25b0
               try clear c26
               try clear c26b0
               try clear c27
               try clear p27
               try clear q27
               try clear hx27
               try clear c32
               try clear c32b0
               try clear c32b1
               try clear c35
               try clear hx277_0
               try clear p2
               try clear p27
               try clear p277
               try clear p6
               try clear q2
               try clear q20
               try clear q27
               try clear q277
               obtain ⟨x62_3, rfl, HA, HK3, HO_10, HO_12, HO_34, HR277_0, HB⟩ := hrel
               cases gk with
               | zero => exact absurd HA.out (by simp [rollbacknetlaw11_FrameScans.l1])
               | succ k3 =>
                have H := HA.out
                clear HA
                simp only [rollbacknetlaw11_FrameScans.l1] at H
                by_cases c37 : x62_3 < (t278.length : Int)
                ·rw [if_pos c37] at H
                 have c37b0 : decide (x62_3 < (t278.length : Int)) = true := decide_eq_true c37
                 clear c37
                 by_cases c38 : 0 ≤ x62_3
                 ·rw [if_pos c38] at H
                  have c38b0 : decide (0 ≤ x62_3) = true := decide_eq_true c38
                  clear c38
                  by_cases c39 : x62_3 < (t278.length : Int)
                  ·rw [if_pos c39] at H
                   have c39b0 : decide (x62_3 < (t278.length : Int)) = true := decide_eq_true c39
                   clear c39
                   by_cases c40 : x62_3 < (t282.length : Int)
                   ·rw [if_pos c40] at H
                    have c40b0 : decide (x62_3 < (t282.length : Int)) = true := decide_eq_true c40
                    clear c40
                    replace H := Option.bind_eq_some_iff.mp H
                    obtain ⟨t288, A410, H⟩ := H
                    replace H : (if t288 = true then (rollbacknetlaw11_FrameScans.l1 k3 t278 t282 y274 (y274.length : Int) x36_1 (t278.length : Int) (wrap64 (x62_3 + 1))) else (some false)) = some r := H
                    have A41 := aM A410
                    clear A410
                    by_cases c42 : t288 = true
                    ·subst c42
                     have H1 : (rollbacknetlaw11_FrameScans.l1 k3 t278 t282 y274 (y274.length : Int) x36_1 (t278.length : Int) (wrap64 (x62_3 + 1))) = some r := by rw [if_pos rfl] at H; exact H
                     clear H
                     have H := H1
                     clear H1
                     have H' := aM H
                     clear H
                     have p286 : 0 ≤ (x62_3 : Int) := of_decide_eq_true (by first | (with_reducible assumption) | assumption)
                     have q286 : x62_3 < (t278.length : Int) := of_decide_eq_true (by first | (with_reducible assumption) | assumption)
                     obtain ⟨ad286, A286_0, c286_0, e286, hx286_0, hl286_0, hi286_0⟩ := at_L2 (Kd.N_reads' HO_10.out).2.2 x62_3 p286 q286
                     cases e286
                     obtain ⟨ce286, hce286, hMe286, hcc286⟩ := Kd.N_get HO_10.out [] x62_3 p286 (by first | exact q286 | exact of_decide_eq_true (by first | (with_reducible assumption) | assumption) | (have e_ := (Kd.N_reads' HO_10.out).1; omega))
                     obtain ⟨ua286_0, uc286_0, rfl, ul286_0, ge286_0⟩ := Kd.FK_slice_open hMe286
                     have hv286_0 := hcc286 0 _ rfl
                     rw [Nat.add_zero, show ((Kd.slice 5 (Kd.int .u8))).sz = 1 from rfl, Nat.mul_one] at hv286_0
                     replace hv286_0 := Option.some.inj (hv286_0.symm.trans hx286_0)
                     injection hv286_0 with hva_ hvn_ hvc_
                     rw [hva_] at ge286_0
                     rw [hvc_] at ul286_0
                     have HL286_0 := aM (show Kd.V (Kd.int .u8) 5 _ w.heap.size _ _ (rd_L2 t278 x62_3) from Kd.V_mk ul286_0 ge286_0)
                     clear hva_ hvn_ hvc_ ge286_0 ul286_0
                     clear hcc286 hce286
                     have HR286_0 := aM hi286_0
                     have HC286_0 := aM hl286_0
                     clear hi286_0 hl286_0
                     replace p286 := eq_true p286
                     replace q286 := eq_true q286
                     obtain ⟨Ao43, co43, eo43⟩ := Kd.N_slice HO_12.out
                     subst eo43
                     have p287 : 0 ≤ (x62_3 : Int) := of_decide_eq_true (by first | (with_reducible assumption) | assumption)
                     have q287 : x62_3 < (t282.length : Int) := of_decide_eq_true (by first | (with_reducible assumption) | assumption)
                     obtain ⟨ad287, A287_0, c287_0, e287, hx287_0, hl287_0, hi287_0⟩ := at_L2 (Kd.N_reads' HO_12.out).2.2 x62_3 p287 q287
                     cases e287
                     obtain ⟨ce287, hce287, hMe287, hcc287⟩ := Kd.N_get HO_12.out [] x62_3 p287 (by first | exact q287 | exact of_decide_eq_true (by first | (with_reducible assumption) | assumption) | (have e_ := (Kd.N_reads' HO_12.out).1; omega))
                     obtain ⟨ua287_0, uc287_0, rfl, ul287_0, ge287_0⟩ := Kd.FK_slice_open hMe287
                     have hv287_0 := hcc287 0 _ rfl
                     rw [Nat.add_zero, show ((Kd.slice 5 (Kd.int .u8))).sz = 1 from rfl, Nat.mul_one] at hv287_0
                     replace hv287_0 := Option.some.inj (hv287_0.symm.trans hx287_0)
                     injection hv287_0 with hva_ hvn_ hvc_
                     rw [hva_] at ge287_0
                     rw [hvc_] at ul287_0
                     have HL287_0 := aM (show Kd.V (Kd.int .u8) 5 _ w.heap.size _ _ (rd_L2 t282 x62_3) from Kd.V_mk ul287_0 ge287_0)
                     clear hva_ hvn_ hvc_ ge287_0 ul287_0
                     clear hcc287 hce287
                     have HR287_0 := aM hi287_0
                     have HC287_0 := aM hl287_0
                     clear hi287_0 hl287_0
                     replace p287 := eq_true p287
                     replace q287 := eq_true q287
                     go_wp2_with (first | (go_at_call 12; (with_reducible refine (rollbacknetref08_SameBytes.calls k3 _ _ (rd_L2 t278 x62_3) _ _ (rd_L2 t282 x62_3) true _ ?side1 ?side2 ?side3 ?side4 A41.out).mono ?_); (case side1 => repeat (first | exact (by repeat (first | (with_reducible exact HR286_0.out) | (with_reducible refine Kd.C_alloc ?_ _) | (with_reducible refine Kd.C_drewN ?_ _) | (with_reducible refine Kd.C_drew ?_) | exact HR286_0.out)) | (with_reducible refine Kd.C_alloc ?_ _) | (with_reducible refine Kd.C_drewN ?_ _) | (with_reducible refine Kd.C_drew ?_))); (case side2 => exact HC286_0.out); (case side3 => repeat (first | exact (by repeat (first | (with_reducible exact HR287_0.out) | (with_reducible refine Kd.C_alloc ?_ _) | (with_reducible refine Kd.C_drewN ?_ _) | (with_reducible refine Kd.C_drew ?_) | exact HR287_0.out)) | (with_reducible refine Kd.C_alloc ?_ _) | (with_reducible refine Kd.C_drewN ?_ _) | (with_reducible refine Kd.C_drew ?_))); (case side4 => exact HC287_0.out); rintro e w' ⟨rfl, ⟨nd, rfl⟩⟩; (try first | exact ⟨rfl, _, World.drewN_drewN _ _ _⟩ | exact ⟨rfl, _, Eq.trans (World.drewN_drewN _ _ _) (congrArg (World.drewN _) (Nat.add_assoc _ _ _))⟩)))
                     repeat (go_quiet (first | (go_at_call 12; (with_reducible refine (rollbacknetref08_SameBytes.calls k3 _ _ (rd_L2 t278 x62_3) _ _ (rd_L2 t282 x62_3) true _ ?side1 ?side2 ?side3 ?side4 A41.out).mono ?_); (case side1 => repeat (first | exact (by repeat (first | (with_reducible exact HR286_0.out) | (with_reducible refine Kd.C_alloc ?_ _) | (with_reducible refine Kd.C_drewN ?_ _) | (with_reducible refine Kd.C_drew ?_) | exact HR286_0.out)) | (with_reducible refine Kd.C_alloc ?_ _) | (with_reducible refine Kd.C_drewN ?_ _) | (with_reducible refine Kd.C_drew ?_))); (case side2 => exact HC286_0.out); (case side3 => repeat (first | exact (by repeat (first | (with_reducible exact HR287_0.out) | (with_reducible refine Kd.C_alloc ?_ _) | (with_reducible refine Kd.C_drewN ?_ _) | (with_reducible refine Kd.C_drew ?_) | exact HR287_0.out)) | (with_reducible refine Kd.C_alloc ?_ _) | (with_reducible refine Kd.C_drewN ?_ _) | (with_reducible refine Kd.C_drew ?_))); (case side4 => exact HC287_0.out); rintro e w' ⟨rfl, ⟨nd, rfl⟩⟩; (try first | exact ⟨rfl, _, World.drewN_drewN _ _ _⟩ | exact ⟨rfl, _, Eq.trans (World.drewN_drewN _ _ _) (congrArg (World.drewN _) (Nat.add_assoc _ _ _))⟩))); try go_wp2_with (first | (go_at_call 12; (with_reducible refine (rollbacknetref08_SameBytes.calls k3 _ _ (rd_L2 t278 x62_3) _ _ (rd_L2 t282 x62_3) true _ ?side1 ?side2 ?side3 ?side4 A41.out).mono ?_); (case side1 => repeat (first | exact (by repeat (first | (with_reducible exact HR286_0.out) | (with_reducible refine Kd.C_alloc ?_ _) | (with_reducible refine Kd.C_drewN ?_ _) | (with_reducible refine Kd.C_drew ?_) | exact HR286_0.out)) | (with_reducible refine Kd.C_alloc ?_ _) | (with_reducible refine Kd.C_drewN ?_ _) | (with_reducible refine Kd.C_drew ?_))); (case side2 => exact HC286_0.out); (case side3 => repeat (first | exact (by repeat (first | (with_reducible exact HR287_0.out) | (with_reducible refine Kd.C_alloc ?_ _) | (with_reducible refine Kd.C_drewN ?_ _) | (with_reducible refine Kd.C_drew ?_) | exact HR287_0.out)) | (with_reducible refine Kd.C_alloc ?_ _) | (with_reducible refine Kd.C_drewN ?_ _) | (with_reducible refine Kd.C_drew ?_))); (case side4 => exact HC287_0.out); rintro e w' ⟨rfl, ⟨nd, rfl⟩⟩; (try first | exact ⟨rfl, _, World.drewN_drewN _ _ _⟩ | exact ⟨rfl, _, Eq.trans (World.drewN_drewN _ _ _) (congrArg (World.drewN _) (Nat.add_assoc _ _ _))⟩))))
                     go_roundg k3
                     case measure => have := HK1.out; have := HJ28.out; have := HK3.out; omega
                     case rel => exact ⟨(wrap64 (x62_3 + 1)), (by first | rfl | (simp; done) | (simp [*]; done)), H', ⟨by have := HK1.out; have := HJ28.out; have := HK3.out; omega⟩, ⟨by (with_reducible repeat (first | apply Kd.N_alloc | apply Kd.N_drewN | apply Kd.N_drew)); exact HO_10.out⟩, ⟨by (with_reducible repeat (first | apply Kd.N_alloc | apply Kd.N_drewN | apply Kd.N_drew)); exact HO_12.out⟩, ⟨by (with_reducible repeat (first | apply Kd.N_alloc | apply Kd.N_drewN | apply Kd.N_drew)); exact HO_34.out⟩, ⟨by repeat (first | (with_reducible exact HR277_0.out) | (with_reducible refine Kd.C_alloc ?_ _) | (with_reducible refine Kd.C_drewN ?_ _) | (with_reducible refine Kd.C_drew ?_) | exact HR277_0.out)⟩, ⟨by repeat (first | (with_reducible first | exact HB.out | apply wA | apply wN | apply wD) | exact HB.out)⟩⟩
                    ·replace c42 := Bool.eq_false_iff.mpr c42
                     subst c42
                     have H1 : (some false) = some r := by rw [if_neg (show ¬ (false = true) by decide)] at H; exact H
                     clear H
                     have H := H1
                     clear H1
                     obtain rfl := Option.some.inj H
                     have p286 : 0 ≤ (x62_3 : Int) := of_decide_eq_true (by first | (with_reducible assumption) | assumption)
                     have q286 : x62_3 < (t278.length : Int) := of_decide_eq_true (by first | (with_reducible assumption) | assumption)
                     obtain ⟨ad286, A286_0, c286_0, e286, hx286_0, hl286_0, hi286_0⟩ := at_L2 (Kd.N_reads' HO_10.out).2.2 x62_3 p286 q286
                     cases e286
                     obtain ⟨ce286, hce286, hMe286, hcc286⟩ := Kd.N_get HO_10.out [] x62_3 p286 (by first | exact q286 | exact of_decide_eq_true (by first | (with_reducible assumption) | assumption) | (have e_ := (Kd.N_reads' HO_10.out).1; omega))
                     obtain ⟨ua286_0, uc286_0, rfl, ul286_0, ge286_0⟩ := Kd.FK_slice_open hMe286
                     have hv286_0 := hcc286 0 _ rfl
                     rw [Nat.add_zero, show ((Kd.slice 5 (Kd.int .u8))).sz = 1 from rfl, Nat.mul_one] at hv286_0
                     replace hv286_0 := Option.some.inj (hv286_0.symm.trans hx286_0)
                     injection hv286_0 with hva_ hvn_ hvc_
                     rw [hva_] at ge286_0
                     rw [hvc_] at ul286_0
                     have HL286_0 := aM (show Kd.V (Kd.int .u8) 5 _ w.heap.size _ _ (rd_L2 t278 x62_3) from Kd.V_mk ul286_0 ge286_0)
                     clear hva_ hvn_ hvc_ ge286_0 ul286_0
                     clear hcc286 hce286
                     have HR286_0 := aM hi286_0
                     have HC286_0 := aM hl286_0
                     clear hi286_0 hl286_0
                     replace p286 := eq_true p286
                     replace q286 := eq_true q286
                     obtain ⟨Ao44, co44, eo44⟩ := Kd.N_slice HO_12.out
                     subst eo44
                     have p287 : 0 ≤ (x62_3 : Int) := of_decide_eq_true (by first | (with_reducible assumption) | assumption)
                     have q287 : x62_3 < (t282.length : Int) := of_decide_eq_true (by first | (with_reducible assumption) | assumption)
                     obtain ⟨ad287, A287_0, c287_0, e287, hx287_0, hl287_0, hi287_0⟩ := at_L2 (Kd.N_reads' HO_12.out).2.2 x62_3 p287 q287
                     cases e287
                     obtain ⟨ce287, hce287, hMe287, hcc287⟩ := Kd.N_get HO_12.out [] x62_3 p287 (by first | exact q287 | exact of_decide_eq_true (by first | (with_reducible assumption) | assumption) | (have e_ := (Kd.N_reads' HO_12.out).1; omega))
                     obtain ⟨ua287_0, uc287_0, rfl, ul287_0, ge287_0⟩ := Kd.FK_slice_open hMe287
                     have hv287_0 := hcc287 0 _ rfl
                     rw [Nat.add_zero, show ((Kd.slice 5 (Kd.int .u8))).sz = 1 from rfl, Nat.mul_one] at hv287_0
                     replace hv287_0 := Option.some.inj (hv287_0.symm.trans hx287_0)
                     injection hv287_0 with hva_ hvn_ hvc_
                     rw [hva_] at ge287_0
                     rw [hvc_] at ul287_0
                     have HL287_0 := aM (show Kd.V (Kd.int .u8) 5 _ w.heap.size _ _ (rd_L2 t282 x62_3) from Kd.V_mk ul287_0 ge287_0)
                     clear hva_ hvn_ hvc_ ge287_0 ul287_0
                     clear hcc287 hce287
                     have HR287_0 := aM hi287_0
                     have HC287_0 := aM hl287_0
                     clear hi287_0 hl287_0
                     replace p287 := eq_true p287
                     replace q287 := eq_true q287
                     go_wp2_with (first | (go_at_call 12; (with_reducible refine (rollbacknetref08_SameBytes.calls k3 _ _ (rd_L2 t278 x62_3) _ _ (rd_L2 t282 x62_3) false _ ?side1 ?side2 ?side3 ?side4 A41.out).mono ?_); (case side1 => repeat (first | exact (by repeat (first | (with_reducible exact HR286_0.out) | (with_reducible refine Kd.C_alloc ?_ _) | (with_reducible refine Kd.C_drewN ?_ _) | (with_reducible refine Kd.C_drew ?_) | exact HR286_0.out)) | (with_reducible refine Kd.C_alloc ?_ _) | (with_reducible refine Kd.C_drewN ?_ _) | (with_reducible refine Kd.C_drew ?_))); (case side2 => exact HC286_0.out); (case side3 => repeat (first | exact (by repeat (first | (with_reducible exact HR287_0.out) | (with_reducible refine Kd.C_alloc ?_ _) | (with_reducible refine Kd.C_drewN ?_ _) | (with_reducible refine Kd.C_drew ?_) | exact HR287_0.out)) | (with_reducible refine Kd.C_alloc ?_ _) | (with_reducible refine Kd.C_drewN ?_ _) | (with_reducible refine Kd.C_drew ?_))); (case side4 => exact HC287_0.out); rintro e w' ⟨rfl, ⟨nd, rfl⟩⟩; (try first | exact ⟨rfl, _, World.drewN_drewN _ _ _⟩ | exact ⟨rfl, _, Eq.trans (World.drewN_drewN _ _ _) (congrArg (World.drewN _) (Nat.add_assoc _ _ _))⟩)))
                     repeat (go_quiet (first | (go_at_call 12; (with_reducible refine (rollbacknetref08_SameBytes.calls k3 _ _ (rd_L2 t278 x62_3) _ _ (rd_L2 t282 x62_3) false _ ?side1 ?side2 ?side3 ?side4 A41.out).mono ?_); (case side1 => repeat (first | exact (by repeat (first | (with_reducible exact HR286_0.out) | (with_reducible refine Kd.C_alloc ?_ _) | (with_reducible refine Kd.C_drewN ?_ _) | (with_reducible refine Kd.C_drew ?_) | exact HR286_0.out)) | (with_reducible refine Kd.C_alloc ?_ _) | (with_reducible refine Kd.C_drewN ?_ _) | (with_reducible refine Kd.C_drew ?_))); (case side2 => exact HC286_0.out); (case side3 => repeat (first | exact (by repeat (first | (with_reducible exact HR287_0.out) | (with_reducible refine Kd.C_alloc ?_ _) | (with_reducible refine Kd.C_drewN ?_ _) | (with_reducible refine Kd.C_drew ?_) | exact HR287_0.out)) | (with_reducible refine Kd.C_alloc ?_ _) | (with_reducible refine Kd.C_drewN ?_ _) | (with_reducible refine Kd.C_drew ?_))); (case side4 => exact HC287_0.out); rintro e w' ⟨rfl, ⟨nd, rfl⟩⟩; (try first | exact ⟨rfl, _, World.drewN_drewN _ _ _⟩ | exact ⟨rfl, _, Eq.trans (World.drewN_drewN _ _ _) (congrArg (World.drewN _) (Nat.add_assoc _ _ _))⟩))); try go_wp2_with (first | (go_at_call 12; (with_reducible refine (rollbacknetref08_SameBytes.calls k3 _ _ (rd_L2 t278 x62_3) _ _ (rd_L2 t282 x62_3) false _ ?side1 ?side2 ?side3 ?side4 A41.out).mono ?_); (case side1 => repeat (first | exact (by repeat (first | (with_reducible exact HR286_0.out) | (with_reducible refine Kd.C_alloc ?_ _) | (with_reducible refine Kd.C_drewN ?_ _) | (with_reducible refine Kd.C_drew ?_) | exact HR286_0.out)) | (with_reducible refine Kd.C_alloc ?_ _) | (with_reducible refine Kd.C_drewN ?_ _) | (with_reducible refine Kd.C_drew ?_))); (case side2 => exact HC286_0.out); (case side3 => repeat (first | exact (by repeat (first | (with_reducible exact HR287_0.out) | (with_reducible refine Kd.C_alloc ?_ _) | (with_reducible refine Kd.C_drewN ?_ _) | (with_reducible refine Kd.C_drew ?_) | exact HR287_0.out)) | (with_reducible refine Kd.C_alloc ?_ _) | (with_reducible refine Kd.C_drewN ?_ _) | (with_reducible refine Kd.C_drew ?_))); (case side4 => exact HC287_0.out); rintro e w' ⟨rfl, ⟨nd, rfl⟩⟩; (try first | exact ⟨rfl, _, World.drewN_drewN _ _ _⟩ | exact ⟨rfl, _, Eq.trans (World.drewN_drewN _ _ _) (congrArg (World.drewN _) (Nat.add_assoc _ _ _))⟩))))
                     go_ret
                     exact ⟨by first | rfl | (simp [errW_none, errW_some] <;> rfl) | (simp [*, errW_none, errW_some] <;> rfl), by repeat (first | (with_reducible first | exact HB.out | apply wA | apply wN | apply wD) | exact HB.out)⟩
                   ·rw [if_neg c40] at H
                    exact absurd H (by simp)
                  ·rw [if_neg c39] at H
                   exact absurd H (by simp)
                 ·rw [if_neg c38] at H
                  exact absurd H (by simp)
                ·rw [if_neg c37] at H
                 have c37b0 : decide (x62_3 < (t278.length : Int)) = false := decide_eq_false c37
                 clear c37
                 have H' := aM H
                 clear H
                 go_wp2
                 repeat (go_quiet (fail); try go_wp2)
                 go_roundg k3
                 case measure => have := HK1.out; have := HJ28.out; have := HK3.out; omega
                 case rel => exact ⟨(wrap64 (x36_1 + 1)), (by first | rfl | (simp; done) | (simp [*]; done)), H', ⟨by have := HK1.out; have := HJ28.out; have := HK3.out; omega⟩, ⟨by (with_reducible repeat (first | apply Kd.N_alloc | apply Kd.N_drewN | apply Kd.N_drew)); exact Kd.N_mono HO_34.out (fun _ hk => hk.1)⟩, ⟨by repeat (first | (with_reducible first | exact HB.out | apply wA | apply wN | apply wD) | exact HB.out)⟩⟩
          ·rw [if_neg c26] at H
           exact absurd H (by simp)
         ·rw [if_neg c25] at H
          exact absurd H (by simp)
        ·rw [if_neg c24] at H
         have c24b0 : decide (x36_1 < (y274.length : Int)) = false := decide_eq_false c24
         clear c24
         obtain rfl := Option.some.inj H
         go_wp2
         repeat (go_quiet (fail); try go_wp2)
         go_ret
         exact ⟨by first | rfl | (simp [errW_none, errW_some] <;> rfl) | (simp [*, errW_none, errW_some] <;> rfl), by repeat (first | (with_reducible first | exact HB.out | apply wA | apply wN | apply wD) | exact HB.out)⟩
     ·rw [if_neg c13] at H
      exact absurd H (by simp)
    ·rw [if_neg c12] at H
     exact absurd H (by simp)
   ·rw [if_neg c10] at H
    exact absurd H (by simp)
 ·replace c5 := Bool.eq_false_iff.mpr c5
  subst c5
  have H1 : (some false) = some r := by rw [if_neg (show ¬ (false = true) by decide)] at H; exact H
  clear H
  have H := H1
  clear H1
  obtain rfl := Option.some.inj H
  go_enter Try.func6, Try.ntmps6
  go_wp2_with (first | (go_at_call 9; (with_reducible refine (rollbacknetlaw11_awake.calls k  false _ A4.out).mono ?_); rintro e w45 ⟨rfl, hb⟩; have n0_ := aM (Kd.V_below (by (with_reducible repeat (first | apply Kd.V_alloc | apply Kd.V_drewN | apply Kd.V_drew)); exact HO0.out) hb); have n1_ := aM (below_step (by repeat (first | (with_reducible first | exact HB.out | apply wA | apply wN | apply wD) | exact HB.out)) hb); clear HO0; clear HB; have HO0 := n0_; have HB := n1_; clear n0_ n1_; (try clear hb); (try clear hb2); (try clear hk); (try clear hi); (try clear hge_)))
  repeat (go_quiet (first | (go_at_call 9; (with_reducible refine (rollbacknetlaw11_awake.calls k  false _ A4.out).mono ?_); rintro e w45 ⟨rfl, hb⟩; have n0_ := aM (Kd.V_below (by (with_reducible repeat (first | apply Kd.V_alloc | apply Kd.V_drewN | apply Kd.V_drew)); exact HO0.out) hb); have n1_ := aM (below_step (by repeat (first | (with_reducible first | exact HB.out | apply wA | apply wN | apply wD) | exact HB.out)) hb); clear HO0; clear HB; have HO0 := n0_; have HB := n1_; clear n0_ n1_; (try clear hb); (try clear hb2); (try clear hk); (try clear hi); (try clear hge_))); try go_wp2_with (first | (go_at_call 9; (with_reducible refine (rollbacknetlaw11_awake.calls k  false _ A4.out).mono ?_); rintro e w45 ⟨rfl, hb⟩; have n0_ := aM (Kd.V_below (by (with_reducible repeat (first | apply Kd.V_alloc | apply Kd.V_drewN | apply Kd.V_drew)); exact HO0.out) hb); have n1_ := aM (below_step (by repeat (first | (with_reducible first | exact HB.out | apply wA | apply wN | apply wD) | exact HB.out)) hb); clear HO0; clear HB; have HO0 := n0_; have HB := n1_; clear n0_ n1_; (try clear hb); (try clear hb2); (try clear hk); (try clear hi); (try clear hge_))))
  go_ret
  exact ⟨by first | rfl | (simp [errW_none, errW_some] <;> rfl) | (simp [*, errW_none, errW_some] <;> rfl), by repeat (first | (with_reducible first | exact HB.out | apply wA | apply wN | apply wD) | exact HB.out)⟩

end Go.Proofs.Ytmlphabhldahlaa.PFk
