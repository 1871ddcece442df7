-- Laid by wip/tools/xprint.py, a program of this session over the kit's print: functions as Lean functions, each with its contract.
import Derived.Test.YtmlphabhldahlaaPFkx0
import Derived.Test.YtmlphabhldahlaaPFkx3
import Derived.Test.YtmlphabhldahlaaPFkx5
import Derived.Test.YtmlphabhldahlaaPFkx13
import Derived.Test.YtmlphabhldahlaaPFkx15
namespace Go.Proofs.Ytmlphabhldahlaa.PFk
open Go.RowKit Go.Proofs.YtmlphabhldahlaaW.PrintWords Go.Proofs.YtmlphabhldahlaaW.PrintLast Go.Proofs.YtmlphabhldahlaaW.PrintMore
attribute [local go_sem] max2_int min2_int max_two min_two max_three min_three max_four min_four   -- for this text's walks alone
set_option linter.unusedVariables false
set_option linter.unusedSimpArgs false

/-! ### rollbacknetlaw11_FrameFinds: function 5 -/
mutual
def rollbacknetlaw11_FrameFinds.j0 : Nat → List Int → Int → Int → Bool → Option (Bool)
 | 0, _, _, _, _ => none
 | k + 1, x0, x1, x2, x27 => if x27 = true then (some true) else ((frame_Seal.f x0).bind fun bt238 => (if bt238.2 = 0 then (rollbacknetlaw11_FrameFinds.j1 k x0 x1 x2 bt238.1 ((bt238.1.length : Int) != (wrap64 ((x0.length : Int) + 8)))) else (rollbacknetlaw11_FrameFinds.j1 k x0 x1 x2 bt238.1 true)))
def rollbacknetlaw11_FrameFinds.j1 : Nat → List Int → Int → Int → List Int → Bool → Option (Bool)
 | 0, _, _, _, _, _ => none
 | k + 1, x0, x1, x2, x7, x42 => if x42 = true then (some false) else ((rollbacknetmake_Mod.f x1 (wrap64 ((wrap64 (8 * (x0.length : Int))) - 31))).bind fun t242 => (rollbacknetlaw11_FrameFinds.l0 k x2 x7 (wrap64 (64 + t242)) 0))
def rollbacknetlaw11_FrameFinds.l0 : Nat → Int → List Int → Int → Int → Option (Bool)
 | 0, _, _, _, _ => none
 | k + 1, x2, x7, x9, x10 => if x10 < 32 then (if 0 ≤ (IntKind.u64.wrap (x10)) then (if (Go.bits .and .u32 (shr .u32 x2 (IntKind.u64.wrap (x10))) 1) = 1 then (if 0 ≤ (wrap64 (Int.tdiv (wrap64 (x9 + x10)) 8)) then (if (wrap64 (Int.tdiv (wrap64 (x9 + x10)) 8)) < (x7.length : Int) then (if 0 ≤ (IntKind.u64.wrap (Int.tmod (wrap64 (x9 + x10)) 8)) then (rollbacknetlaw11_FrameFinds.l0 k x2 (x7.set ((wrap64 (Int.tdiv (wrap64 (x9 + x10)) 8)) : Int).toNat (Go.bits .xor .u8 (rd x7 (wrap64 (Int.tdiv (wrap64 (x9 + x10)) 8))) (shl .u8 1 (IntKind.u64.wrap (Int.tmod (wrap64 (x9 + x10)) 8))))) x9 (wrap64 (x10 + 1))) else (none)) else (none)) else (none)) else (rollbacknetlaw11_FrameFinds.l0 k x2 x7 x9 (wrap64 (x10 + 1)))) else (none)) else ((frame_Next.f k x7 0).bind fun bt245 => (some (bt245.2.2 == 10)))
end
def rollbacknetlaw11_FrameFinds.f (k : Nat) (l0 : List Int) (a1 : Int) (a2 : Int) : Option (Bool) := (rollbacknetlaw11_awake.f k).bind fun t237 => (if t237 = true then (if (l0.length : Int) < 4 then (rollbacknetlaw11_FrameFinds.j0 k l0 a1 a2 true) else (if (l0.length : Int) > 1000 then (rollbacknetlaw11_FrameFinds.j0 k l0 a1 a2 true) else (rollbacknetlaw11_FrameFinds.j0 k l0 a1 a2 (a2 == 0)))) else (some false))
theorem rollbacknetlaw11_FrameFinds.mono_l : ∀ k, (∀ y0 y1 y2 y3, LeO (rollbacknetlaw11_FrameFinds.j0 k y0 y1 y2 y3) (rollbacknetlaw11_FrameFinds.j0 (k + 1) y0 y1 y2 y3)) ∧ (∀ y0 y1 y2 y3 y4, LeO (rollbacknetlaw11_FrameFinds.j1 k y0 y1 y2 y3 y4) (rollbacknetlaw11_FrameFinds.j1 (k + 1) y0 y1 y2 y3 y4)) ∧ (∀ y0 y1 y2 y3, LeO (rollbacknetlaw11_FrameFinds.l0 k y0 y1 y2 y3) (rollbacknetlaw11_FrameFinds.l0 (k + 1) y0 y1 y2 y3))
 | 0 => ⟨fun _ _ _ _ r h => by simp [rollbacknetlaw11_FrameFinds.j0] at h, fun _ _ _ _ _ r h => by simp [rollbacknetlaw11_FrameFinds.j1] at h, fun _ _ _ _ r h => by simp [rollbacknetlaw11_FrameFinds.l0] at h⟩
 | k + 1 => by
  obtain ⟨ih0, ih1, ih2⟩ := rollbacknetlaw11_FrameFinds.mono_l k
  refine ⟨?_, ?_, ?_⟩
  ·intro y0 y1 y2 y3
   unfold rollbacknetlaw11_FrameFinds.j0
   repeat' first
   | (with_reducible exact ih0 _ _ _ _)
   | (with_reducible exact ih1 _ _ _ _ _)
   | (with_reducible exact ih2 _ _ _ _)
   | (with_reducible exact frame_Next.mono _ _ _)
   | (with_reducible exact rollbacknetlaw11_awake.mono _)
   | (with_reducible exact LeO.refl _)
   | (with_reducible exact LeO.none _)
   | (with_reducible refine LeO.ite ?_ ?_)
   | (with_reducible refine LeO.bind ?_ (fun _ => ?_))
   | exact ih0 _ _ _ _
   | exact ih1 _ _ _ _ _
   | exact ih2 _ _ _ _
   | exact frame_Next.mono _ _ _
   | exact rollbacknetlaw11_awake.mono _
   | exact LeO.none _
   | refine LeO.ite ?_ ?_
   | refine LeO.bind ?_ (fun _ => ?_)
  ·intro y0 y1 y2 y3 y4
   unfold rollbacknetlaw11_FrameFinds.j1
   repeat' first
   | (with_reducible exact ih0 _ _ _ _)
   | (with_reducible exact ih1 _ _ _ _ _)
   | (with_reducible exact ih2 _ _ _ _)
   | (with_reducible exact frame_Next.mono _ _ _)
   | (with_reducible exact rollbacknetlaw11_awake.mono _)
   | (with_reducible exact LeO.refl _)
   | (with_reducible exact LeO.none _)
   | (with_reducible refine LeO.ite ?_ ?_)
   | (with_reducible refine LeO.bind ?_ (fun _ => ?_))
   | exact ih0 _ _ _ _
   | exact ih1 _ _ _ _ _
   | exact ih2 _ _ _ _
   | exact frame_Next.mono _ _ _
   | exact rollbacknetlaw11_awake.mono _
   | exact LeO.none _
   | refine LeO.ite ?_ ?_
   | refine LeO.bind ?_ (fun _ => ?_)
  ·intro y0 y1 y2 y3
   unfold rollbacknetlaw11_FrameFinds.l0
   repeat' first
   | (with_reducible exact ih0 _ _ _ _)
   | (with_reducible exact ih1 _ _ _ _ _)
   | (with_reducible exact ih2 _ _ _ _)
   | (with_reducible exact frame_Next.mono _ _ _)
   | (with_reducible exact rollbacknetlaw11_awake.mono _)
   | (with_reducible exact LeO.refl _)
   | (with_reducible exact LeO.none _)
   | (with_reducible refine LeO.ite ?_ ?_)
   | (with_reducible refine LeO.bind ?_ (fun _ => ?_))
   | exact ih0 _ _ _ _
   | exact ih1 _ _ _ _ _
   | exact ih2 _ _ _ _
   | exact frame_Next.mono _ _ _
   | exact rollbacknetlaw11_awake.mono _
   | exact LeO.none _
   | refine LeO.ite ?_ ?_
   | refine LeO.bind ?_ (fun _ => ?_)
theorem rollbacknetlaw11_FrameFinds.mono : ∀ a0 a1 a2 k, LeO (rollbacknetlaw11_FrameFinds.f k a0 a1 a2) (rollbacknetlaw11_FrameFinds.f (k + 1) a0 a1 a2) := by
 intro a0 a1 a2 k
 obtain ⟨ih0, ih1, ih2⟩ := rollbacknetlaw11_FrameFinds.mono_l k
 unfold rollbacknetlaw11_FrameFinds.f
 repeat' first
   | (with_reducible exact ih0 _ _ _ _)
   | (with_reducible exact ih1 _ _ _ _ _)
   | (with_reducible exact ih2 _ _ _ _)
   | (with_reducible exact frame_Next.mono _ _ _)
   | (with_reducible exact rollbacknetlaw11_awake.mono _)
   | (with_reducible exact LeO.refl _)
   | (with_reducible exact LeO.none _)
   | (with_reducible refine LeO.ite ?_ ?_)
   | (with_reducible refine LeO.bind ?_ (fun _ => ?_))
   | exact ih0 _ _ _ _
   | exact ih1 _ _ _ _ _
   | exact ih2 _ _ _ _
   | exact frame_Next.mono _ _ _
   | exact rollbacknetlaw11_awake.mono _
   | exact LeO.none _
   | refine LeO.ite ?_ ?_
   | refine LeO.bind ?_ (fun _ => ?_)
set_option maxHeartbeats 8000000 in
set_option maxRecDepth 100000 in
theorem rollbacknetlaw11_FrameFinds.calls (k : Nat) (A0 : Option Addr) (c0 : Nat) (l0 : List Int) (a1 : Int) (a2 : Int) (r : Bool) (w : World) (hr0 : Kd.C (Kd.int .u8) w A0 l0.length l0) (hc0 : l0.length ≤ c0) (h : rollbacknetlaw11_FrameFinds.f k l0 a1 a2 = some r) :
  Calls Try.prog 5 #[.slice A0 l0.length c0, .int .i64 a1, .int .u32 a2] w fun e w' => e = .returned (.bool r) ∧ Below w.heap.size w w' := by
 have HR0 := aM hr0
 have HC0 := aM hc0
 clear hr0 hc0
 have HB := aM (Below.refl w.heap.size w)
 have H : ((rollbacknetlaw11_awake.f k).bind fun t237 => (if t237 = true then (if (l0.length : Int) < 4 then (rollbacknetlaw11_FrameFinds.j0 k l0 a1 a2 true) else (if (l0.length : Int) > 1000 then (rollbacknetlaw11_FrameFinds.j0 k l0 a1 a2 true) else (rollbacknetlaw11_FrameFinds.j0 k l0 a1 a2 (a2 == 0)))) else (some false))) = some r := h
 clear h
 replace H := Option.bind_eq_some_iff.mp H
 obtain ⟨t237, A40, H⟩ := H
 replace H : (if t237 = true then (if (l0.length : Int) < 4 then (rollbacknetlaw11_FrameFinds.j0 k l0 a1 a2 true) else (if (l0.length : Int) > 1000 then (rollbacknetlaw11_FrameFinds.j0 k l0 a1 a2 true) else (rollbacknetlaw11_FrameFinds.j0 k l0 a1 a2 (a2 == 0)))) else (some false)) = some r := H
 have A4 := aM A40
 clear A40
 by_cases c5 : t237 = true
 ·subst c5
  have H1 : (if (l0.length : Int) < 4 then (rollbacknetlaw11_FrameFinds.j0 k l0 a1 a2 true) else (if (l0.length : Int) > 1000 then (rollbacknetlaw11_FrameFinds.j0 k l0 a1 a2 true) else (rollbacknetlaw11_FrameFinds.j0 k l0 a1 a2 (a2 == 0)))) = some r := by rw [if_pos rfl] at H; exact H
  clear H
  have H := H1
  clear H1
  have HC6 := aM H
  clear H
  go_enter Try.func5, Try.ntmps5
  go_upto_region 3 with (first | ((with_reducible refine gate_callee (f := 9) rfl ?_); refine goesL_ (some 14) rfl rfl Try.func9 (by kernel_rfl) rfl #[] rfl (by (try simp only [List.map_toArray, List.map_cons, List.map_nil]); first | done | rfl | (simp only [List.length_drop, List.length_take]; rfl)) ?_; (with_reducible refine (rollbacknetlaw11_awake.calls k  true _ A4.out).mono ?_); rintro e w7 ⟨rfl, hb⟩; refine ⟨_, rfl, ?_⟩; have n0_ := aM (below_step (by repeat (first | (with_reducible first | exact HB.out | apply wA | apply wN | apply wD) | exact HB.out)) hb); clear HB; have HB := n0_; clear n0_; (try clear hb); (try clear hb2); (try clear hk); (try clear hi); (try clear hge_)))
  (try simp only [Act.put, List.setIfInBounds_toArray, List.set_cons_zero, List.set_cons_succ])
  go_cut [27] (fun v27 wc => ∃ (kq : Nat) (x27_5 : Bool), v27 = .bool x27_5 ∧ Aside0 (rollbacknetlaw11_FrameFinds.j0 kq l0 a1 a2 x27_5 = some r) ∧ Aside0 (kq ≤ k) ∧ Aside0 (Below w.heap.size w wc))
  case first =>
   have H := HC6.out
   clear HC6
   by_cases c8 : (l0.length : Int) < 4
   ·rw [if_pos c8] at H
    have c8b0 : decide ((l0.length : Int) < 4) = true := decide_eq_true c8
    have c8b1 : decide (l0.length < 4) = true := decide_eq_true (by omega)
    clear c8
    (first | rw [c8b0] | (simp only [i64_w, i32_w]; rw [c8b0]) | skip)
    have H' := aM H
    clear H
    go_wp2
    go_meet
    case rel => exact ⟨_, (true), (by first | rfl | (simp; done) | (simp [*]; done)), H', ⟨by first | omega | exact Nat.le_refl _⟩, ⟨by repeat (first | (with_reducible first | exact HB.out | apply wA | apply wN | apply wD) | exact HB.out)⟩⟩
   ·rw [if_neg c8] at H
    have c8b0 : decide ((l0.length : Int) < 4) = false := decide_eq_false c8
    have c8b1 : decide (l0.length < 4) = false := decide_eq_false (by omega)
    clear c8
    (first | rw [c8b0] | (simp only [i64_w, i32_w]; rw [c8b0]) | skip)
    by_cases c9 : (l0.length : Int) > 1000
    ·rw [if_pos c9] at H
     have c9b0 : decide (1000 < (l0.length : Int)) = true := decide_eq_true c9
     have c9b1 : decide (1000 < l0.length) = true := decide_eq_true (by omega)
     clear c9
     have H' := aM H
     clear H
     go_wp2
     go_meet
     case rel => exact ⟨_, (true), (by first | rfl | (simp; done) | (simp [*]; done)), H', ⟨by first | omega | exact Nat.le_refl _⟩, ⟨by repeat (first | (with_reducible first | exact HB.out | apply wA | apply wN | apply wD) | exact HB.out)⟩⟩
    ·rw [if_neg c9] at H
     have c9b0 : decide (1000 < (l0.length : Int)) = false := decide_eq_false c9
     have c9b1 : decide (1000 < l0.length) = false := decide_eq_false (by omega)
     clear c9
     have H' := aM H
     clear H
     go_wp2
     go_meet
     case rel => exact ⟨_, ((a2 == 0)), (by first | rfl | (simp; done) | (simp [*]; done)), H', ⟨by first | omega | exact Nat.le_refl _⟩, ⟨by repeat (first | (with_reducible first | exact HB.out | apply wA | apply wN | apply wD) | exact HB.out)⟩⟩
  case rest =>
   clear HC6
   try clear p2
   try clear c5
   try clear c8
   try clear c8b0
   try clear c8b1
   try clear c9
   try clear c9b0
   try clear c9b1
   obtain ⟨kq, x27_5, rfl, HA, HJ5, HB⟩ := hcut
   cases kq with
   | zero => exact absurd HA.out (by simp [rollbacknetlaw11_FrameFinds.j0])
   | succ kj5 =>
    have H := HA.out
    clear HA
    simp only [rollbacknetlaw11_FrameFinds.j0] at H
    by_cases c10 : x27_5 = true
    ·subst c10
     have H1 : (some true) = some r := by rw [if_pos rfl] at H; exact H
     clear H
     have H := H1
     clear H1
     obtain rfl := Option.some.inj H
     go_wp2
     go_ret
     exact ⟨by first | rfl | (simp [errW_none, errW_some] <;> rfl) | (simp [*, errW_none, errW_some] <;> rfl), by repeat (first | (with_reducible first | exact HB.out | apply wA | apply wN | apply wD) | exact HB.out)⟩
    ·replace c10 := Bool.eq_false_iff.mpr c10
     subst c10
     have H1 : ((frame_Seal.f l0).bind fun bt238 => (if bt238.2 = 0 then (rollbacknetlaw11_FrameFinds.j1 kj5 l0 a1 a2 bt238.1 ((bt238.1.length : Int) != (wrap64 ((l0.length : Int) + 8)))) else (rollbacknetlaw11_FrameFinds.j1 kj5 l0 a1 a2 bt238.1 true))) = some r := by rw [if_neg (show ¬ (false = true) by decide)] at H; exact H
     clear H
     have H := H1
     clear H1
     replace H := Option.bind_eq_some_iff.mp H
     obtain ⟨⟨t238, t239⟩, A110, H⟩ := H
     replace H : (if t239 = 0 then (rollbacknetlaw11_FrameFinds.j1 kj5 l0 a1 a2 t238 ((t238.length : Int) != (wrap64 ((l0.length : Int) + 8)))) else (rollbacknetlaw11_FrameFinds.j1 kj5 l0 a1 a2 t238 true)) = some r := H
     have A11 := aM A110
     clear A110
     have HC12 := aM H
     clear H
     go_upto_region 6 with (first | ((with_reducible refine gate_callee (f := 10) rfl ?_); refine goesL_ (some 30) rfl rfl Try.func10 (by kernel_rfl) rfl #[.slice A0 l0.length c0] rfl (by (try simp only [List.map_toArray, List.map_cons, List.map_nil]); first | done | rfl | (simp only [List.length_drop, List.length_take]; rfl)) ?_; (with_reducible refine (frame_Seal.calls _ _ l0 t238 t239 _ ?side1 ?side2 A11.out).mono ?_); (case side1 => repeat (first | exact (Kd.C_below HR0.out HB.out) | (with_reducible refine Kd.C_alloc ?_ _) | (with_reducible refine Kd.C_drewN ?_ _) | (with_reducible refine Kd.C_drew ?_))); (case side2 => exact HC0.out); rintro e w13 ⟨v240, rfl, ho0, hb⟩; refine ⟨_, rfl, ?_⟩; have n0_ := aM (Kd.R_lower ho0 (below_size (by repeat (first | (with_reducible first | exact HB.out | apply wA | apply wN | apply wD) | exact HB.out)))); have n1_ := aM (below_step (by repeat (first | (with_reducible first | exact HB.out | apply wA | apply wN | apply wD) | exact HB.out)) hb); clear HB; have HO241 := n0_; have HB := n1_; clear n0_ n1_; (try clear hb); (try clear hb2); (try clear hk); (try clear hi); (try clear hge_); (try clear ho0)))
     (try simp only [Act.put, List.setIfInBounds_toArray, List.set_cons_zero, List.set_cons_succ])
     go_cut [42] (fun v42 wc => ∃ (kq : Nat) (x42_11 : Bool), v42 = .bool x42_11 ∧ Aside0 (rollbacknetlaw11_FrameFinds.j1 kq l0 a1 a2 t238 x42_11 = some r) ∧ Aside0 (kq ≤ kj5) ∧ Aside0 (Kd.R (Kd.int .u8) 5 wc w.heap.size (fun _ => True) v240 t238) ∧ Aside0 (Below w.heap.size w wc))
     case first =>
      have H := HC12.out
      clear HC12
      by_cases c14 : t239 = 0
      ·rw [if_pos c14] at H
       have c14b0 : (t239 == 0) = true := beq_iff_eq.mpr c14
       have c14b1 : (t239 != 0) = false := bne_eq_false_iff_eq.mpr c14
       clear c14
       (first | rw [c14b0] | (simp only [i64_w, i32_w]; rw [c14b0]) | skip)
       have H' := aM H
       clear H
       obtain ⟨Ao15, co15, eo15⟩ := Kd.R_slice HO241.out
       subst eo15
       go_wp2
       go_meet
       case rel => exact ⟨_, (((t238.length : Int) != (wrap64 ((l0.length : Int) + 8)))), (by first | rfl | (simp; done) | (simp [*]; done)), H', ⟨by have := HJ5.out; first | omega | exact Nat.le_refl _⟩, ⟨by (with_reducible repeat (first | apply Kd.R_alloc | apply Kd.R_drewN | apply Kd.R_drew)); exact HO241.out⟩, ⟨by repeat (first | (with_reducible first | exact HB.out | apply wA | apply wN | apply wD) | exact HB.out)⟩⟩
      ·rw [if_neg c14] at H
       have c14b0 : (t239 == 0) = false := beq_eq_false_iff_ne.mpr c14
       have c14b1 : (t239 != 0) = true := bne_iff_ne.mpr c14
       (first | rw [c14b0] | (simp only [i64_w, i32_w]; rw [c14b0]) | skip)
       have H' := aM H
       clear H
       go_wp2
       go_meet
       case rel => exact ⟨_, (true), (by first | rfl | (simp; done) | (simp [*]; done)), H', ⟨by have := HJ5.out; first | omega | exact Nat.le_refl _⟩, ⟨by (with_reducible repeat (first | apply Kd.R_alloc | apply Kd.R_drewN | apply Kd.R_drew)); exact HO241.out⟩, ⟨by repeat (first | (with_reducible first | exact HB.out | apply wA | apply wN | apply wD) | exact HB.out)⟩⟩
     case rest =>
      clear HC12
      try clear c1
      try clear p2
      try clear c5
      try clear p6
      try clear c8
      try clear c8b0
      try clear c8b1
      try clear c9
      try clear c9b0
      try clear c9b1
      try clear c10
      try clear c14
      try clear c14b0
      try clear c14b1
      try clear p2
      obtain ⟨kq, x42_11, rfl, HA, HJ11, HO_7, HB⟩ := hcut
      cases kq with
      | zero => exact absurd HA.out (by simp [rollbacknetlaw11_FrameFinds.j1])
      | succ kj11 =>
       have H := HA.out
       clear HA
       simp only [rollbacknetlaw11_FrameFinds.j1] at H
       by_cases c16 : x42_11 = true
       ·subst c16
        have H1 : (some false) = some r := by rw [if_pos rfl] at H; exact H
        clear H
        have H := H1
        clear H1
        obtain rfl := Option.some.inj H
        go_wp2
        go_ret
        exact ⟨by first | rfl | (simp [errW_none, errW_some] <;> rfl) | (simp [*, errW_none, errW_some] <;> rfl), by repeat (first | (with_reducible first | exact HB.out | apply wA | apply wN | apply wD) | exact HB.out)⟩
       ·replace c16 := Bool.eq_false_iff.mpr c16
        subst c16
        have H1 : ((rollbacknetmake_Mod.f a1 (wrap64 ((wrap64 (8 * (l0.length : Int))) - 31))).bind fun t242 => (rollbacknetlaw11_FrameFinds.l0 kj11 a2 t238 (wrap64 (64 + t242)) 0)) = some r := by rw [if_neg (show ¬ (false = true) by decide)] at H; exact H
        clear H
        have H := H1
        clear H1
        replace H := Option.bind_eq_some_iff.mp H
        obtain ⟨t242, A170, H⟩ := H
        replace H : (rollbacknetlaw11_FrameFinds.l0 kj11 a2 t238 (wrap64 (64 + t242)) 0) = some r := H
        have A17 := aM A170
        clear A170
        have H' := aM H
        clear H
        go_wp2_with (first | ((with_reducible refine gate_callee (f := 16) rfl ?_); refine goesL_ (some 48) rfl rfl Try.func16 (by kernel_rfl) rfl #[.int .i64 a1, .int .i64 (wrap64 ((wrap64 (8 * (l0.length : Int))) - 31))] rfl (by (try simp only [List.map_toArray, List.map_cons, List.map_nil]); first | done | rfl | (simp only [List.length_drop, List.length_take]; rfl)) ?_; (with_reducible refine (rollbacknetmake_Mod.calls a1 (wrap64 ((wrap64 (8 * (l0.length : Int))) - 31)) t242 _ A17.out).mono ?_); rintro e w' ⟨rfl, ⟨nd, rfl⟩⟩; refine ⟨_, rfl, ?_⟩))
        go_loopg [10] kj11 (fun kq v10 w' => ∃ (x7_3 : List Int) (x10_3 : Int), v10 = .int .i64 x10_3 ∧ Aside0 (rollbacknetlaw11_FrameFinds.l0 kq a2 x7_3 (wrap64 (64 + t242)) x10_3 = some r) ∧ Aside0 (kq ≤ kj11) ∧ Aside0 (Kd.R (Kd.int .u8) 5 w' w.heap.size (fun _ => True) v240 x7_3) ∧ Aside0 (Below w.heap.size w w'))
        case atStart => exact ⟨(t238), (0), (by first | rfl | (simp; done) | (simp [*]; done)), H', ⟨Nat.le_refl _⟩, ⟨by (with_reducible repeat (first | apply Kd.R_alloc | apply Kd.R_drewN | apply Kd.R_drew)); exact HO_7.out⟩, ⟨by repeat (first | (with_reducible first | exact HB.out | apply wA | apply wN | apply wD) | exact HB.out)⟩⟩
        case round =>
         clear H'
         try clear c1
         try clear p2
         try clear c5
         try clear p6
         try clear c8
         try clear c8b0
         try clear c8b1
         try clear c9
         try clear c9b0
         try clear c9b1
         try clear c10
         try clear c14
         try clear c14b0
         try clear c14b1
         try clear c16
         try clear p2
         try clear p6
         obtain ⟨x7_3, x10_3, rfl, HA, HK3, HO_7, HB⟩ := hrel
         cases gk with
         | zero => exact absurd HA.out (by simp [rollbacknetlaw11_FrameFinds.l0])
         | succ k3 =>
          have H := HA.out
          clear HA
          simp only [rollbacknetlaw11_FrameFinds.l0] at H
          by_cases c18 : x10_3 < 32
          ·rw [if_pos c18] at H
           have c18b0 : decide (x10_3 < 32) = true := decide_eq_true c18
           clear c18
           obtain ⟨ji19, hji19⟩ : ∃ j_ : Int, (IntKind.u64.wrap (x10_3)) = j_ := ⟨_, rfl⟩
           replace H : (if 0 ≤ (ji19) then (if (Go.bits .and .u32 (shr .u32 a2 (ji19)) 1) = 1 then (if 0 ≤ (wrap64 (Int.tdiv (wrap64 ((wrap64 (64 + t242)) + x10_3)) 8)) then (if (wrap64 (Int.tdiv (wrap64 ((wrap64 (64 + t242)) + x10_3)) 8)) < (x7_3.length : Int) then (if 0 ≤ (IntKind.u64.wrap (Int.tmod (wrap64 ((wrap64 (64 + t242)) + x10_3)) 8)) then (rollbacknetlaw11_FrameFinds.l0 k3 a2 (x7_3.set ((wrap64 (Int.tdiv (wrap64 ((wrap64 (64 + t242)) + x10_3)) 8)) : Int).toNat (Go.bits .xor .u8 (rd x7_3 (wrap64 (Int.tdiv (wrap64 ((wrap64 (64 + t242)) + x10_3)) 8))) (shl .u8 1 (IntKind.u64.wrap (Int.tmod (wrap64 ((wrap64 (64 + t242)) + x10_3)) 8))))) (wrap64 (64 + t242)) (wrap64 (x10_3 + 1))) else (none)) else (none)) else (none)) else (rollbacknetlaw11_FrameFinds.l0 k3 a2 x7_3 (wrap64 (64 + t242)) (wrap64 (x10_3 + 1)))) else (none)) = some r := by first | (rw [hji19] at H; exact H) | (simp only [hji19] at H ⊢; exact H)
           by_cases c20 : 0 ≤ (ji19)
           ·rw [if_pos c20] at H
            have c20b0 := eq_true c20
            have c20b1 : decide (0 ≤ (ji19)) = true := decide_eq_true c20
            clear c20
            obtain ⟨ji21, hji21⟩ : ∃ j_ : Int, (shr .u32 a2 (ji19)) = j_ := ⟨_, rfl⟩
            replace H : (if (Go.bits .and .u32 (ji21) 1) = 1 then (if 0 ≤ (wrap64 (Int.tdiv (wrap64 ((wrap64 (64 + t242)) + x10_3)) 8)) then (if (wrap64 (Int.tdiv (wrap64 ((wrap64 (64 + t242)) + x10_3)) 8)) < (x7_3.length : Int) then (if 0 ≤ (IntKind.u64.wrap (Int.tmod (wrap64 ((wrap64 (64 + t242)) + x10_3)) 8)) then (rollbacknetlaw11_FrameFinds.l0 k3 a2 (x7_3.set ((wrap64 (Int.tdiv (wrap64 ((wrap64 (64 + t242)) + x10_3)) 8)) : Int).toNat (Go.bits .xor .u8 (rd x7_3 (wrap64 (Int.tdiv (wrap64 ((wrap64 (64 + t242)) + x10_3)) 8))) (shl .u8 1 (IntKind.u64.wrap (Int.tmod (wrap64 ((wrap64 (64 + t242)) + x10_3)) 8))))) (wrap64 (64 + t242)) (wrap64 (x10_3 + 1))) else (none)) else (none)) else (none)) else (rollbacknetlaw11_FrameFinds.l0 k3 a2 x7_3 (wrap64 (64 + t242)) (wrap64 (x10_3 + 1)))) = some r := by first | (rw [hji21] at H; exact H) | (simp only [hji21] at H ⊢; exact H)
            have hji21_ : (a2 / 2 ^ min (ji19).toNat 32) = ji21 := hji21
            have hji21z : (ji19) ≤ 32 → (a2 / 2 ^ (ji19).toNat) = ji21 := shr_small hji21
            by_cases c22 : (Go.bits .and .u32 (ji21) 1) = 1
            ·rw [if_pos c22] at H
             have c22b0 : ((Go.bits .and .u32 (ji21) 1) == 1) = true := beq_iff_eq.mpr c22
             have c22b1 : ((Go.bits .and .u32 (ji21) 1) != 1) = false := bne_eq_false_iff_eq.mpr c22
             clear c22
             obtain ⟨ji23, hji23⟩ : ∃ j_ : Int, (wrap64 (Int.tdiv (wrap64 ((wrap64 (64 + t242)) + x10_3)) 8)) = j_ := ⟨_, rfl⟩
             replace H : (if 0 ≤ (ji23) then (if (ji23) < (x7_3.length : Int) then (if 0 ≤ (IntKind.u64.wrap (Int.tmod (wrap64 ((wrap64 (64 + t242)) + x10_3)) 8)) then (rollbacknetlaw11_FrameFinds.l0 k3 a2 (x7_3.set ((ji23) : Int).toNat (Go.bits .xor .u8 (rd x7_3 (ji23)) (shl .u8 1 (IntKind.u64.wrap (Int.tmod (wrap64 ((wrap64 (64 + t242)) + x10_3)) 8))))) (wrap64 (64 + t242)) (wrap64 (x10_3 + 1))) else (none)) else (none)) else (none)) = some r := by first | (rw [hji23] at H; exact H) | (simp only [hji23] at H ⊢; exact H)
             have hji23w : (IntKind.i64.wrap (Int.tdiv (wrap64 ((wrap64 (64 + t242)) + x10_3)) 8)) = ji23 := (i64_w _).trans hji23
             by_cases c24 : 0 ≤ (ji23)
             ·rw [if_pos c24] at H
              have c24b0 : decide (0 ≤ (ji23)) = true := decide_eq_true c24
              clear c24
              by_cases c25 : (ji23) < (x7_3.length : Int)
              ·rw [if_pos c25] at H
               have c25b0 : decide ((ji23) < (x7_3.length : Int)) = true := decide_eq_true c25
               clear c25
               obtain ⟨ji26, hji26⟩ : ∃ j_ : Int, (IntKind.u64.wrap (Int.tmod (wrap64 ((wrap64 (64 + t242)) + x10_3)) 8)) = j_ := ⟨_, rfl⟩
               replace H : (if 0 ≤ (ji26) then (rollbacknetlaw11_FrameFinds.l0 k3 a2 (x7_3.set ((ji23) : Int).toNat (Go.bits .xor .u8 (rd x7_3 (ji23)) (shl .u8 1 (ji26)))) (wrap64 (64 + t242)) (wrap64 (x10_3 + 1))) else (none)) = some r := by first | (rw [hji26] at H; exact H) | (simp only [hji26] at H ⊢; exact H)
               by_cases c27 : 0 ≤ (ji26)
               ·rw [if_pos c27] at H
                have c27b0 := eq_true c27
                have c27b1 : decide (0 ≤ (ji26)) = true := decide_eq_true c27
                clear c27
                obtain ⟨ji28, hji28⟩ : ∃ j_ : Int, (shl .u8 1 (ji26)) = j_ := ⟨_, rfl⟩
                replace H : (rollbacknetlaw11_FrameFinds.l0 k3 a2 (x7_3.set ((ji23) : Int).toNat (Go.bits .xor .u8 (rd x7_3 (ji23)) (ji28))) (wrap64 (64 + t242)) (wrap64 (x10_3 + 1))) = some r := by first | (rw [hji28] at H; exact H) | (simp only [hji28] at H ⊢; exact H)
                have hji28_ : (IntKind.u8.wrap (1 * 2 ^ min (ji26).toNat 8)) = ji28 := hji28
                have hji28z : (ji26) ≤ 8 → (IntKind.u8.wrap (1 * 2 ^ (ji26).toNat)) = ji28 := shl_small hji28
                have hji28u : (IntKind.u8.wrap (2 ^ min (ji26).toNat 8)) = ji28 := by have h_ := hji28_; rw [Int.one_mul] at h_; exact h_
                have hji28v : (ji26) ≤ 8 → (IntKind.u8.wrap (2 ^ (ji26).toNat)) = ji28 := fun hle_ => by have h_ := hji28z hle_; rw [Int.one_mul] at h_; exact h_
                obtain ⟨y244, hy244⟩ : ∃ y_ : List Int, y_ = (x7_3.set ((ji23) : Int).toNat (Go.bits .xor .u8 (rd x7_3 (ji23)) (ji28))) := ⟨_, rfl⟩
                replace H : (rollbacknetlaw11_FrameFinds.l0 k3 a2 y244 (wrap64 (64 + t242)) (wrap64 (x10_3 + 1))) = some r := by first | (rw [hy244]; with_reducible exact H) | (have H2_ := (Option.bind_some _ _).symm.trans H; rw [hy244]; with_reducible exact H2_) | (have H2_ := (Option.bind_some _ _).symm.trans H; with_reducible exact H2_) | with_reducible exact H | (rw [hy244]; exact H) | exact H
                have Ny244 := aM hy244
                clear hy244
                have H' := aM H
                clear H
                obtain ⟨Ao30, co30, eo30⟩ := Kd.R_slice HO_7.out
                subst eo30
                have p243 : 0 ≤ ((ji23) : Int) := of_decide_eq_true (by first | (with_reducible assumption) | assumption)
                have q243 : (ji23) < (x7_3.length : Int) := of_decide_eq_true (by first | (with_reducible assumption) | assumption)
                obtain ⟨ad243, e243, hx243_0⟩ := Kd.at_int (Kd.R_reads' HO_7.out).2.2 (ji23) p243 q243
                cases e243
                replace p243 := eq_true p243
                replace q243 := eq_true q243
                have p29 : 0 ≤ ((ji23) : Int) := of_decide_eq_true (by first | (with_reducible assumption) | assumption)
                have q29 : ((ji23) : Int) < ((x7_3.length : Int) : Int) := of_decide_eq_true (by first | (with_reducible assumption) | assumption)
                obtain ⟨go29, co29, eo29, gb29, gl29, cl29, HG29⟩ := Kd.R_form HO_7.out (by omega)
                (first | cases eo29 | (injection eo29 with ea_ en_ ec_; (first | subst ea_ | (injection ea_ with ea_; subst ea_)); subst ec_; clear en_))
                have GB29 := aM gb29
                have GG29 := aM HG29
                clear gb29 gl29 HG29
                (first | simp only [add_plain] at hx243_0 | skip)
                obtain ⟨hx29_0, hf29_0⟩ := Kd.R_celln 0 HO_7.out ((ji23) : Int) p29 q29
                replace p29 := eq_true p29
                replace q29 := eq_true q29
                have HP31 := Kd.R_putg HO_7.out ((ji23) : Int) (Go.bits .xor .u8 (rd x7_3 (ji23)) (ji28))
                go_wp2_with (first | ((with_reducible refine gate_store (t := 5) (p := 74) rfl ?_); refine store_event (t := 5) (p := 74) (v := ?vo_w32) (w1 := (wr.setCell ⟨go29, ((ji23) : Int).toNat, none⟩ (.int .u8 (Go.bits .xor .u8 (rd x7_3 (ji23)) (ji28))))) ?hg ?ho ?hn ?hr ?_; (case ho => rfl); (case hg => rfl); (case hn => rfl); (case hr => first | (go_simp; done) | (go_simp; rfl)); intro w32 hw; have hg : wr.grownBy w32 (some go29) := (by rw [hw]; exact HP31.2); have hp_ : Kd.R (Kd.int .u8) 5 w32 w.heap.size (fun _ => True) (.slice (some ⟨go29, 0, none⟩) x7_3.length co30) y244 := (by rw [hw, Ny244.out]; exact HP31.1); clear HP31; have n0_ := aM (hp_); have n1_ := aM ((by rw [hw]; exact below_set (HB.out) GB29.out : Below w.heap.size w w32)); clear HO_7; clear HB; have HO_7 := n0_; have HB := n1_; clear n0_ n1_; clear hg hw hp_))
                go_roundg k3
                case measure => have := HJ5.out; have := HJ11.out; have := HK3.out; omega
                case rel => exact ⟨(y244), (wrap64 (x10_3 + 1)), (by first | rfl | (simp; done) | (simp [*]; done)), H', ⟨by have := HJ5.out; have := HJ11.out; have := HK3.out; omega⟩, ⟨by (with_reducible repeat (first | apply Kd.R_alloc | apply Kd.R_drewN | apply Kd.R_drew)); exact HO_7.out⟩, ⟨by repeat (first | (with_reducible first | exact HB.out | apply wA | apply wN | apply wD) | exact HB.out)⟩⟩
               ·rw [if_neg c27] at H
                exact absurd H (by simp)
              ·rw [if_neg c25] at H
               exact absurd H (by simp)
             ·rw [if_neg c24] at H
              exact absurd H (by simp)
            ·rw [if_neg c22] at H
             have c22b0 : ((Go.bits .and .u32 (ji21) 1) == 1) = false := beq_eq_false_iff_ne.mpr c22
             have c22b1 : ((Go.bits .and .u32 (ji21) 1) != 1) = true := bne_iff_ne.mpr c22
             have H' := aM H
             clear H
             go_wp2
             go_roundg k3
             case measure => have := HJ5.out; have := HJ11.out; have := HK3.out; omega
             case rel => exact ⟨(x7_3), (wrap64 (x10_3 + 1)), (by first | rfl | (simp; done) | (simp [*]; done)), H', ⟨by have := HJ5.out; have := HJ11.out; have := HK3.out; omega⟩, ⟨by (with_reducible repeat (first | apply Kd.R_alloc | apply Kd.R_drewN | apply Kd.R_drew)); exact HO_7.out⟩, ⟨by repeat (first | (with_reducible first | exact HB.out | apply wA | apply wN | apply wD) | exact HB.out)⟩⟩
           ·rw [if_neg c20] at H
            exact absurd H (by simp)
          ·rw [if_neg c18] at H
           have c18b0 : decide (x10_3 < 32) = false := decide_eq_false c18
           clear c18
           replace H := Option.bind_eq_some_iff.mp H
           obtain ⟨⟨t245, t246, t247⟩, A330, H⟩ := H
           replace H : (some (t247 == 10)) = some r := H
           have A33 := aM A330
           clear A330
           obtain rfl := Option.some.inj H
           obtain ⟨Ao34, co34, eo34⟩ := Kd.R_slice HO_7.out
           subst eo34
           go_wp2_with (first | ((with_reducible refine gate_callee (f := 17) rfl ?_); refine goesL_ (some 77) rfl rfl Try.func17 (by kernel_rfl) rfl #[.slice Ao34 x7_3.length co34, .int .i64 0] rfl (by (try simp only [List.map_toArray, List.map_cons, List.map_nil]); first | done | rfl | (simp only [List.length_drop, List.length_take]; rfl)) ?_; (with_reducible refine (frame_Next.calls k3 _ _ x7_3 0 t245 t246 t247 _ ?side1 ?side2 A33.out).mono ?_); (case side1 => repeat (first | exact (Kd.R_reads' HO_7.out).2.2 | (with_reducible refine Kd.C_alloc ?_ _) | (with_reducible refine Kd.C_drewN ?_ _) | (with_reducible refine Kd.C_drew ?_))); (case side2 => exact (Kd.R_reads' HO_7.out).2.1); rintro e w35 ⟨v248, rfl, ho0, hb⟩; refine ⟨_, rfl, ?_⟩; have n0_ := aM (Kd.R_elder' (by (with_reducible repeat (first | apply Kd.R_alloc | apply Kd.R_drewN | apply Kd.R_drew)); exact HO_7.out) (Kd.R_base ho0) hb); have n1_ := aM (Kd.R_lower (Kd.R_new' ho0 (Kd.R_lt (by (with_reducible repeat (first | apply Kd.R_alloc | apply Kd.R_drewN | apply Kd.R_drew)); exact HO_7.out))) (below_size (by repeat (first | (with_reducible first | exact HB.out | apply wA | apply wN | apply wD) | exact HB.out)))); have n2_ := aM (below_step (by repeat (first | (with_reducible first | exact HB.out | apply wA | apply wN | apply wD) | exact HB.out)) hb); clear HO_7; clear HB; have HO_7 := n0_; have HO249 := n1_; have HB := n2_; clear n0_ n1_ n2_; (try clear hb); (try clear hb2); (try clear hk); (try clear hi); (try clear hge_); (try clear ho0)))
           go_ret
           exact ⟨by first | rfl | (simp [errW_none, errW_some] <;> rfl) | (simp [*, errW_none, errW_some] <;> rfl), by repeat (first | (with_reducible first | exact HB.out | apply wA | apply wN | apply wD) | exact HB.out)⟩
 ·replace c5 := Bool.eq_false_iff.mpr c5
  subst c5
  have H1 : (some false) = some r := by rw [if_neg (show ¬ (false = true) by decide)] at H; exact H
  clear H
  have H := H1
  clear H1
  obtain rfl := Option.some.inj H
  go_enter Try.func5, Try.ntmps5
  go_wp2_with (first | ((with_reducible refine gate_callee (f := 9) rfl ?_); refine goesL_ (some 14) rfl rfl Try.func9 (by kernel_rfl) rfl #[] rfl (by (try simp only [List.map_toArray, List.map_cons, List.map_nil]); first | done | rfl | (simp only [List.length_drop, List.length_take]; rfl)) ?_; (with_reducible refine (rollbacknetlaw11_awake.calls k  false _ A4.out).mono ?_); rintro e w36 ⟨rfl, hb⟩; refine ⟨_, rfl, ?_⟩; have n0_ := aM (below_step (by repeat (first | (with_reducible first | exact HB.out | apply wA | apply wN | apply wD) | exact HB.out)) hb); clear HB; have HB := n0_; clear n0_; (try clear hb); (try clear hb2); (try clear hk); (try clear hi); (try clear hge_)))
  go_ret
  exact ⟨by first | rfl | (simp [errW_none, errW_some] <;> rfl) | (simp [*, errW_none, errW_some] <;> rfl), by repeat (first | (with_reducible first | exact HB.out | apply wA | apply wN | apply wD) | exact HB.out)⟩

end Go.Proofs.Ytmlphabhldahlaa.PFk
