-- Laid by wip/tools/xprint.py, a program of this session over the kit's print: functions as Lean functions, each with its contract.
import Derived.Test.YtnfbjdnflifcoaaPDkx0
import Derived.Test.YtnfbjdnflifcoaaPDkx4
import Derived.Test.YtnfbjdnflifcoaaPDkx5
import Derived.Test.YtnfbjdnflifcoaaPDkx6
import Derived.Test.YtnfbjdnflifcoaaPDkx8
import Derived.Test.YtnfbjdnflifcoaaPDkx9
namespace Go.Proofs.Ytnfbjdnflifcoaa.PDk
open Go.RowKit Go.Proofs.YtnfbjdnflifcoaaW.PrintWords Go.Proofs.YtnfbjdnflifcoaaW.PrintLast Go.Proofs.YtnfbjdnflifcoaaW.PrintMore
attribute [local go_sem] max2_int min2_int max_two min_two max_three min_three max_four min_four   -- for this text's walks alone
set_option linter.unusedVariables false
set_option linter.unusedSimpArgs false

/-! ### rollbacknetlaw10_DiskTears: function 4 -/
mutual
def rollbacknetlaw10_DiskTears.j0 : Nat → List Int → Int → List Int → Bool → Option (Bool)
 | 0, _, _, _, _ => none
 | k + 1, x0, x1, x2, x25 => if x25 = true then (some true) else ((disk_New.f 1).bind fun bt230 => ((disk_Append.f k bt230.1 0 x0).bind fun bt235 => ((disk_Crash.f k bt235.1 (([(⟨x1, x2⟩ : S39)] : List (S39)))).bind fun t242 => ((disk_Read.f t242 0).bind fun bt245 => (if bt235.2 = 0 then (if bt245.2 = 0 then (rollbacknetlaw10_DiskTears.j1 k x0 x2 bt245.1 ((bt245.1.length : Int) != (mn (mx x1 0) (x0.length : Int)))) else (rollbacknetlaw10_DiskTears.j1 k x0 x2 bt245.1 true)) else (rollbacknetlaw10_DiskTears.j1 k x0 x2 bt245.1 true))))))
def rollbacknetlaw10_DiskTears.j1 : Nat → List Int → List Int → List Int → Bool → Option (Bool)
 | 0, _, _, _, _ => none
 | k + 1, x0, x2, x10, x61 => if x61 = true then (some false) else (rollbacknetlaw10_DiskTears.l0 k x0 x2 x10 (x10.length : Int) 0)
def rollbacknetlaw10_DiskTears.l0 : Nat → List Int → List Int → List Int → Int → Int → Option (Bool)
 | 0, _, _, _, _, _ => none
 | k + 1, x0, x2, x10, x63, x64 => if x64 < x63 then (if 0 ≤ x64 then (if x64 < (x0.length : Int) then (rollbacknetlaw10_DiskTears.l1 k x0 x2 x10 x64 (rd x0 x64) x63 x64 x2 (x2.length : Int) 0) else (none)) else (none)) else (some true)
def rollbacknetlaw10_DiskTears.l1 : Nat → List Int → List Int → List Int → Int → Int → Int → Int → List Int → Int → Int → Option (Bool)
 | 0, _, _, _, _, _, _, _, _, _, _ => none
 | k + 1, x0, x2, x10, x12, x13, x63, x64, x71, x72, x73 => if x73 < x72 then (if 0 ≤ x73 then (if x73 < (x71.length : Int) then (if (rd x71 x73) = (wrap64 (Int.tdiv x12 16)) then (rollbacknetlaw10_DiskTears.l1 k x0 x2 x10 x12 0 x63 x64 x71 x72 (wrap64 (x73 + 1))) else (rollbacknetlaw10_DiskTears.l1 k x0 x2 x10 x12 x13 x63 x64 x71 x72 (wrap64 (x73 + 1)))) else (none)) else (none)) else (if 0 ≤ x12 then (if x12 < (x10.length : Int) then (if (rd x10 x12) = x13 then (rollbacknetlaw10_DiskTears.l0 k x0 x2 x10 x63 (wrap64 (x64 + 1))) else (some false)) else (none)) else (none))
end
def rollbacknetlaw10_DiskTears.f (k : Nat) (l0 : List Int) (a1 : Int) (l2 : List Int) : Option (Bool) := (rollbacknetlaw10_awake.f k).bind fun t229 => (if t229 = true then (if (l0.length : Int) > 500 then (rollbacknetlaw10_DiskTears.j0 k l0 a1 l2 true) else (rollbacknetlaw10_DiskTears.j0 k l0 a1 l2 (decide ((l2.length : Int) > 50)))) else (some false))
theorem rollbacknetlaw10_DiskTears.mono_l : ∀ k, (∀ y0 y1 y2 y3, LeO (rollbacknetlaw10_DiskTears.j0 k y0 y1 y2 y3) (rollbacknetlaw10_DiskTears.j0 (k + 1) y0 y1 y2 y3)) ∧ (∀ y0 y1 y2 y3, LeO (rollbacknetlaw10_DiskTears.j1 k y0 y1 y2 y3) (rollbacknetlaw10_DiskTears.j1 (k + 1) y0 y1 y2 y3)) ∧ (∀ y0 y1 y2 y3 y4, LeO (rollbacknetlaw10_DiskTears.l0 k y0 y1 y2 y3 y4) (rollbacknetlaw10_DiskTears.l0 (k + 1) y0 y1 y2 y3 y4)) ∧ (∀ y0 y1 y2 y3 y4 y5 y6 y7 y8 y9, LeO (rollbacknetlaw10_DiskTears.l1 k y0 y1 y2 y3 y4 y5 y6 y7 y8 y9) (rollbacknetlaw10_DiskTears.l1 (k + 1) y0 y1 y2 y3 y4 y5 y6 y7 y8 y9))
 | 0 => ⟨fun _ _ _ _ r h => by simp [rollbacknetlaw10_DiskTears.j0] at h, fun _ _ _ _ r h => by simp [rollbacknetlaw10_DiskTears.j1] at h, fun _ _ _ _ _ r h => by simp [rollbacknetlaw10_DiskTears.l0] at h, fun _ _ _ _ _ _ _ _ _ _ r h => by simp [rollbacknetlaw10_DiskTears.l1] at h⟩
 | k + 1 => by
  obtain ⟨ih0, ih1, ih2, ih3⟩ := rollbacknetlaw10_DiskTears.mono_l k
  refine ⟨?_, ?_, ?_, ?_⟩
  ·intro y0 y1 y2 y3
   unfold rollbacknetlaw10_DiskTears.j0
   repeat' first
   | (with_reducible exact ih0 _ _ _ _)
   | (with_reducible exact ih1 _ _ _ _)
   | (with_reducible exact ih2 _ _ _ _ _)
   | (with_reducible exact ih3 _ _ _ _ _ _ _ _ _ _)
   | (with_reducible exact disk_Append.mono _ _ _ _)
   | (with_reducible exact disk_Crash.mono _ _ _)
   | (with_reducible exact rollbacknetlaw10_awake.mono _)
   | (with_reducible exact LeO.refl _)
   | (with_reducible exact LeO.none _)
   | (with_reducible refine LeO.ite ?_ ?_)
   | (with_reducible refine LeO.bind ?_ (fun _ => ?_))
   | exact ih0 _ _ _ _
   | exact ih1 _ _ _ _
   | exact ih2 _ _ _ _ _
   | exact ih3 _ _ _ _ _ _ _ _ _ _
   | exact disk_Append.mono _ _ _ _
   | exact disk_Crash.mono _ _ _
   | exact rollbacknetlaw10_awake.mono _
   | exact LeO.none _
   | refine LeO.ite ?_ ?_
   | refine LeO.bind ?_ (fun _ => ?_)
  ·intro y0 y1 y2 y3
   unfold rollbacknetlaw10_DiskTears.j1
   repeat' first
   | (with_reducible exact ih0 _ _ _ _)
   | (with_reducible exact ih1 _ _ _ _)
   | (with_reducible exact ih2 _ _ _ _ _)
   | (with_reducible exact ih3 _ _ _ _ _ _ _ _ _ _)
   | (with_reducible exact disk_Append.mono _ _ _ _)
   | (with_reducible exact disk_Crash.mono _ _ _)
   | (with_reducible exact rollbacknetlaw10_awake.mono _)
   | (with_reducible exact LeO.refl _)
   | (with_reducible exact LeO.none _)
   | (with_reducible refine LeO.ite ?_ ?_)
   | (with_reducible refine LeO.bind ?_ (fun _ => ?_))
   | exact ih0 _ _ _ _
   | exact ih1 _ _ _ _
   | exact ih2 _ _ _ _ _
   | exact ih3 _ _ _ _ _ _ _ _ _ _
   | exact disk_Append.mono _ _ _ _
   | exact disk_Crash.mono _ _ _
   | exact rollbacknetlaw10_awake.mono _
   | exact LeO.none _
   | refine LeO.ite ?_ ?_
   | refine LeO.bind ?_ (fun _ => ?_)
  ·intro y0 y1 y2 y3 y4
   unfold rollbacknetlaw10_DiskTears.l0
   repeat' first
   | (with_reducible exact ih0 _ _ _ _)
   | (with_reducible exact ih1 _ _ _ _)
   | (with_reducible exact ih2 _ _ _ _ _)
   | (with_reducible exact ih3 _ _ _ _ _ _ _ _ _ _)
   | (with_reducible exact disk_Append.mono _ _ _ _)
   | (with_reducible exact disk_Crash.mono _ _ _)
   | (with_reducible exact rollbacknetlaw10_awake.mono _)
   | (with_reducible exact LeO.refl _)
   | (with_reducible exact LeO.none _)
   | (with_reducible refine LeO.ite ?_ ?_)
   | (with_reducible refine LeO.bind ?_ (fun _ => ?_))
   | exact ih0 _ _ _ _
   | exact ih1 _ _ _ _
   | exact ih2 _ _ _ _ _
   | exact ih3 _ _ _ _ _ _ _ _ _ _
   | exact disk_Append.mono _ _ _ _
   | exact disk_Crash.mono _ _ _
   | exact rollbacknetlaw10_awake.mono _
   | exact LeO.none _
   | refine LeO.ite ?_ ?_
   | refine LeO.bind ?_ (fun _ => ?_)
  ·intro y0 y1 y2 y3 y4 y5 y6 y7 y8 y9
   unfold rollbacknetlaw10_DiskTears.l1
   repeat' first
   | (with_reducible exact ih0 _ _ _ _)
   | (with_reducible exact ih1 _ _ _ _)
   | (with_reducible exact ih2 _ _ _ _ _)
   | (with_reducible exact ih3 _ _ _ _ _ _ _ _ _ _)
   | (with_reducible exact disk_Append.mono _ _ _ _)
   | (with_reducible exact disk_Crash.mono _ _ _)
   | (with_reducible exact rollbacknetlaw10_awake.mono _)
   | (with_reducible exact LeO.refl _)
   | (with_reducible exact LeO.none _)
   | (with_reducible refine LeO.ite ?_ ?_)
   | (with_reducible refine LeO.bind ?_ (fun _ => ?_))
   | exact ih0 _ _ _ _
   | exact ih1 _ _ _ _
   | exact ih2 _ _ _ _ _
   | exact ih3 _ _ _ _ _ _ _ _ _ _
   | exact disk_Append.mono _ _ _ _
   | exact disk_Crash.mono _ _ _
   | exact rollbacknetlaw10_awake.mono _
   | exact LeO.none _
   | refine LeO.ite ?_ ?_
   | refine LeO.bind ?_ (fun _ => ?_)
theorem rollbacknetlaw10_DiskTears.mono : ∀ a0 a1 a2 k, LeO (rollbacknetlaw10_DiskTears.f k a0 a1 a2) (rollbacknetlaw10_DiskTears.f (k + 1) a0 a1 a2) := by
 intro a0 a1 a2 k
 obtain ⟨ih0, ih1, ih2, ih3⟩ := rollbacknetlaw10_DiskTears.mono_l k
 unfold rollbacknetlaw10_DiskTears.f
 repeat' first
   | (with_reducible exact ih0 _ _ _ _)
   | (with_reducible exact ih1 _ _ _ _)
   | (with_reducible exact ih2 _ _ _ _ _)
   | (with_reducible exact ih3 _ _ _ _ _ _ _ _ _ _)
   | (with_reducible exact disk_Append.mono _ _ _ _)
   | (with_reducible exact disk_Crash.mono _ _ _)
   | (with_reducible exact rollbacknetlaw10_awake.mono _)
   | (with_reducible exact LeO.refl _)
   | (with_reducible exact LeO.none _)
   | (with_reducible refine LeO.ite ?_ ?_)
   | (with_reducible refine LeO.bind ?_ (fun _ => ?_))
   | exact ih0 _ _ _ _
   | exact ih1 _ _ _ _
   | exact ih2 _ _ _ _ _
   | exact ih3 _ _ _ _ _ _ _ _ _ _
   | exact disk_Append.mono _ _ _ _
   | exact disk_Crash.mono _ _ _
   | exact rollbacknetlaw10_awake.mono _
   | exact LeO.none _
   | refine LeO.ite ?_ ?_
   | refine LeO.bind ?_ (fun _ => ?_)
set_option maxHeartbeats 8000000 in
set_option maxRecDepth 100000 in
theorem rollbacknetlaw10_DiskTears.calls (k : Nat) (A0 : Option Addr) (c0 : Nat) (l0 : List Int) (a1 : Int) (P2_ : Nat → Prop) (A2 : Option Addr) (c2 : Nat) (l2 : List Int) (r : Bool) (w : World) (hr0 : Kd.C (Kd.int .u8) w A0 l0.length l0) (hc0 : l0.length ≤ c0) (hs2 : Kd.V (Kd.int .i64) 3 w w.heap.size (fun k_ => P2_ k_) (.slice A2 l2.length c2) l2) (h : rollbacknetlaw10_DiskTears.f k l0 a1 l2 = some r) :
  Calls Try.prog 4 #[.slice A0 l0.length c0, .int .i64 a1, .slice A2 l2.length c2] w fun e w' => e = .returned (.bool r) ∧ Below w.heap.size w w' := by
 have hu24 := Try.underlying24
 have hu39 := Try.underlying39
 have HR0 := aM hr0
 have HC0 := aM hc0
 clear hr0 hc0
 have HO2 := aM (show Kd.V (Kd.int .i64) 3 w w.heap.size (fun k_ => (P2_ k_ ∨ w.heap.size ≤ k_)) (.slice A2 l2.length c2) l2 from Kd.V_mono hs2 (fun k_ hk => .inl hk))
 have HB := aM (Below.refl w.heap.size w)
 have H : ((rollbacknetlaw10_awake.f k).bind fun t229 => (if t229 = true then (if (l0.length : Int) > 500 then (rollbacknetlaw10_DiskTears.j0 k l0 a1 l2 true) else (rollbacknetlaw10_DiskTears.j0 k l0 a1 l2 (decide ((l2.length : Int) > 50)))) else (some false))) = some r := h
 clear h
 replace H := Option.bind_eq_some_iff.mp H
 obtain ⟨t229, A40, H⟩ := H
 replace H : (if t229 = true then (if (l0.length : Int) > 500 then (rollbacknetlaw10_DiskTears.j0 k l0 a1 l2 true) else (rollbacknetlaw10_DiskTears.j0 k l0 a1 l2 (decide ((l2.length : Int) > 50)))) else (some false)) = some r := H
 have A4 := aM A40
 clear A40
 by_cases c5 : t229 = true
 ·subst c5
  have H1 : (if (l0.length : Int) > 500 then (rollbacknetlaw10_DiskTears.j0 k l0 a1 l2 true) else (rollbacknetlaw10_DiskTears.j0 k l0 a1 l2 (decide ((l2.length : Int) > 50)))) = some r := by rw [if_pos rfl] at H; exact H
  clear H
  have H := H1
  clear H1
  have HC6 := aM H
  clear H
  go_enter Try.func4, Try.ntmps4
  go_upto_region 3 with (first | ((with_reducible refine gate_callee (f := 9) rfl ?_); refine goesL_ (some 16) rfl rfl Try.func9 (by kernel_rfl) rfl #[] rfl (by (try simp only [List.map_toArray, List.map_cons, List.map_nil]); first | done | rfl | (simp only [List.length_drop, List.length_take]; rfl)) ?_; (with_reducible refine (rollbacknetlaw10_awake.calls k  true _ A4.out).mono ?_); rintro e w7 ⟨rfl, hb⟩; refine ⟨_, rfl, ?_⟩; have n0_ := aM (Kd.V_below (by (with_reducible repeat (first | apply Kd.V_alloc | apply Kd.V_drewN | apply Kd.V_drew)); exact HO2.out) hb); have n1_ := aM (below_step (by repeat (first | (with_reducible first | exact HB.out | apply wA | apply wN | apply wD) | exact HB.out)) hb); clear HO2; clear HB; have HO2 := n0_; have HB := n1_; clear n0_ n1_; (try clear hb); (try clear hb2); (try clear hk); (try clear hi)))
  (try simp only [Act.put, List.setIfInBounds_toArray, List.set_cons_zero, List.set_cons_succ])
  go_cut [25] (fun v25 wc => ∃ (kq : Nat) (x25_5 : Bool), v25 = .bool x25_5 ∧ Aside0 (rollbacknetlaw10_DiskTears.j0 kq l0 a1 l2 x25_5 = some r) ∧ Aside0 (kq ≤ k) ∧ Aside0 (Kd.V (Kd.int .i64) 3 wc w.heap.size (fun k_ => (P2_ k_ ∨ w.heap.size ≤ k_)) (.slice A2 l2.length c2) l2) ∧ Aside0 (Below w.heap.size w wc))
  case first =>
   have H := HC6.out
   clear HC6
   by_cases c8 : (l0.length : Int) > 500
   ·rw [if_pos c8] at H
    have c8b0 : decide (500 < (l0.length : Int)) = true := decide_eq_true c8
    have c8b1 : decide (500 < l0.length) = true := decide_eq_true (by omega)
    clear c8
    (first | rw [c8b0] | (simp only [i64_w, i32_w]; rw [c8b0]) | skip)
    have H' := aM H
    clear H
    go_wp2
    go_meet
    case rel => exact ⟨_, (true), (by first | rfl | (simp; done) | (simp [*]; done)), H', ⟨by first | omega | exact Nat.le_refl _⟩, ⟨by (with_reducible repeat (first | apply Kd.V_alloc | apply Kd.V_drewN | apply Kd.V_drew)); exact HO2.out⟩, ⟨by repeat (first | (with_reducible first | exact HB.out | apply wA | apply wN | apply wD) | exact HB.out)⟩⟩
   ·rw [if_neg c8] at H
    have c8b0 : decide (500 < (l0.length : Int)) = false := decide_eq_false c8
    have c8b1 : decide (500 < l0.length) = false := decide_eq_false (by omega)
    clear c8
    (first | rw [c8b0] | (simp only [i64_w, i32_w]; rw [c8b0]) | skip)
    have H' := aM H
    clear H
    go_wp2
    go_meet
    case rel => exact ⟨_, (decide ((l2.length : Int) > 50)), (by first | rfl | (simp; done) | (simp [*]; done)), H', ⟨by first | omega | exact Nat.le_refl _⟩, ⟨by (with_reducible repeat (first | apply Kd.V_alloc | apply Kd.V_drewN | apply Kd.V_drew)); exact HO2.out⟩, ⟨by repeat (first | (with_reducible first | exact HB.out | apply wA | apply wN | apply wD) | exact HB.out)⟩⟩
  case rest =>
   clear HC6
   try clear c2
   try clear p2
   try clear c4
   try clear c5
   try clear c8
   try clear c8b0
   try clear c8b1
   obtain ⟨kq, x25_5, rfl, HA, HJ5, HO_2, HB⟩ := hcut
   cases kq with
   | zero => exact absurd HA.out (by simp [rollbacknetlaw10_DiskTears.j0])
   | succ kj5 =>
    have H := HA.out
    clear HA
    simp only [rollbacknetlaw10_DiskTears.j0] at H
    by_cases c9 : x25_5 = true
    ·subst c9
     have H1 : (some true) = some r := by rw [if_pos rfl] at H; exact H
     clear H
     have H := H1
     clear H1
     obtain rfl := Option.some.inj H
     go_wp2
     go_ret
     exact ⟨by first | rfl | (simp [errW_none, errW_some] <;> rfl) | (simp [*, errW_none, errW_some] <;> rfl), by repeat (first | (with_reducible first | exact HB.out | apply wA | apply wN | apply wD) | exact HB.out)⟩
    ·replace c9 := Bool.eq_false_iff.mpr c9
     subst c9
     have H1 : ((disk_New.f 1).bind fun bt230 => ((disk_Append.f kj5 bt230.1 0 l0).bind fun bt235 => ((disk_Crash.f kj5 bt235.1 (([(⟨a1, l2⟩ : S39)] : List (S39)))).bind fun t242 => ((disk_Read.f t242 0).bind fun bt245 => (if bt235.2 = 0 then (if bt245.2 = 0 then (rollbacknetlaw10_DiskTears.j1 kj5 l0 l2 bt245.1 ((bt245.1.length : Int) != (mn (mx a1 0) (l0.length : Int)))) else (rollbacknetlaw10_DiskTears.j1 kj5 l0 l2 bt245.1 true)) else (rollbacknetlaw10_DiskTears.j1 kj5 l0 l2 bt245.1 true)))))) = some r := by rw [if_neg (show ¬ (false = true) by decide)] at H; exact H
     clear H
     have H := H1
     clear H1
     replace H := Option.bind_eq_some_iff.mp H
     obtain ⟨⟨t230, t233⟩, A100, H⟩ := H
     replace H : ((disk_Append.f kj5 t230 0 l0).bind fun bt235 => ((disk_Crash.f kj5 bt235.1 (([(⟨a1, l2⟩ : S39)] : List (S39)))).bind fun t242 => ((disk_Read.f t242 0).bind fun bt245 => (if bt235.2 = 0 then (if bt245.2 = 0 then (rollbacknetlaw10_DiskTears.j1 kj5 l0 l2 bt245.1 ((bt245.1.length : Int) != (mn (mx a1 0) (l0.length : Int)))) else (rollbacknetlaw10_DiskTears.j1 kj5 l0 l2 bt245.1 true)) else (rollbacknetlaw10_DiskTears.j1 kj5 l0 l2 bt245.1 true))))) = some r := H
     have A10 := aM A100
     clear A100
     replace H := Option.bind_eq_some_iff.mp H
     obtain ⟨⟨t235, t238⟩, A110, H⟩ := H
     replace H : ((disk_Crash.f kj5 t235 (([(⟨a1, l2⟩ : S39)] : List (S39)))).bind fun t242 => ((disk_Read.f t242 0).bind fun bt245 => (if t238 = 0 then (if bt245.2 = 0 then (rollbacknetlaw10_DiskTears.j1 kj5 l0 l2 bt245.1 ((bt245.1.length : Int) != (mn (mx a1 0) (l0.length : Int)))) else (rollbacknetlaw10_DiskTears.j1 kj5 l0 l2 bt245.1 true)) else (rollbacknetlaw10_DiskTears.j1 kj5 l0 l2 bt245.1 true)))) = some r := H
     have A11 := aM A110
     clear A110
     have HC12 := aM H
     clear H
     go_upto_region 7 with (first | ((with_reducible refine gate_callee (f := 13) rfl ?_); refine goesL_ (some 27) rfl rfl Try.func13 (by kernel_rfl) rfl #[.int .i64 1] rfl (by (try simp only [List.map_toArray, List.map_cons, List.map_nil]); first | done | rfl | (simp only [List.length_drop, List.length_take]; rfl)) ?_; (with_reducible refine (disk_New.calls 1 t230 t233 _ A10.out).mono ?_); rintro e w13 ⟨v231, rfl, ho0, hb⟩; refine ⟨_, rfl, ?_⟩; have n0_ := aM (Kd.V_elder' (by (with_reducible repeat (first | apply Kd.V_alloc | apply Kd.V_drewN | apply Kd.V_drew)); exact HO_2.out) (by first | exact Kd.N_base ho0 | exact Kd.N_base (Kd.S_N ho0)) hb); have n1_ := aM (Kd.N_lower (Kd.N_mono (ok' := fun k_ => (P2_ k_ ∨ w.heap.size ≤ k_)) (Kd.S_N (Kd.S_bound ho0)) (fun k_ hk_ => (.inr (Nat.le_trans (below_size (by repeat (first | (with_reducible first | exact HB.out | apply wA | apply wN | apply wD) | exact HB.out))) hk_.2.1)))) (below_size (by repeat (first | (with_reducible first | exact HB.out | apply wA | apply wN | apply wD) | exact HB.out)))); have n2_ := aM (below_step (by repeat (first | (with_reducible first | exact HB.out | apply wA | apply wN | apply wD) | exact HB.out)) hb); clear HO_2; clear HB; have HO_2 := n0_; have HO232 := n1_; have HB := n2_; clear n0_ n1_ n2_; (try clear hb); (try clear hb2); (try clear hk); (try clear hi); (try clear ho0)) | ((with_reducible refine gate_dst (N := 7) rfl ?_); (try (refine gate_guard (by rfl) ?_; dsimp only)); refine box_event ?hg (N := 7) ?hd (cs := #[.slice none 0 0]) (t := 24) ?hr ?_; (case hd => rfl); (case hg => rfl); (case hr => first | (go_simp; done) | (go_simp; rfl)); intro gb234 hg w14 hbox hb; have n0_ := aM (Kd.V_below (Kd.V_elderB (by (with_reducible repeat (first | apply Kd.V_alloc | apply Kd.V_drewN | apply Kd.V_drew)); exact HO_2.out) gb234 (Nat.le_of_eq hg.symm)) hb); have n1_ := aM (Kd.N_below (Kd.N_elderB (by (with_reducible repeat (first | apply Kd.N_alloc | apply Kd.N_drewN | apply Kd.N_drew)); exact HO232.out) gb234 (Nat.le_of_eq hg.symm)) hb); have n2_ := aM (below_step (by repeat (first | (with_reducible first | exact HB.out | apply wA | apply wN | apply wD) | exact HB.out)) hb); have n3_ := aM (hbox); have n4_ := aM ((by rw [hg]; exact (below_size (by repeat (first | (with_reducible first | exact HB.out | apply wA | apply wN | apply wD) | exact HB.out))) : w.heap.size ≤ gb234)); have n5_ := aM ((by rw [hg]; exact (below_size (by repeat (first | (with_reducible first | exact HB.out | apply wA | apply wN | apply wD) | exact HB.out))) : w.heap.size ≤ gb234)); clear HO_2; clear HO232; clear HB; have HO_2 := n0_; have HO232 := n1_; have HB := n2_; have BK234 := n3_; have GW234 := n4_; have GE234 := n5_; clear n0_ n1_ n2_ n3_ n4_ n5_; clear hb hbox hg; obtain ⟨Ao15, co15, eo15⟩ := Kd.N_slice HO232.out; subst eo15; have hcz16_0 : w14.cell? ⟨gb234, 0, none⟩ = some (.slice none 0 0) := (blk_cell BK234.out 0).trans rfl; have hfz16_0 := blk_frozen BK234.out 0) | ((with_reducible refine gate_callee (f := 14) rfl ?_); refine goesL_ (some 33) rfl rfl Try.func14 (by kernel_rfl) rfl #[.agg #[.slice Ao15 t230.length co15], .int .i64 0, .slice A0 l0.length c0] rfl (by (try simp only [List.map_toArray, List.map_cons, List.map_nil]); first | done | rfl | (simp only [List.length_drop, List.length_take]; rfl)) ?_; (with_reducible refine (disk_Append.calls kj5 _ _ t230 0 _ _ l0 t235 t238 _ ?side1 ?side2 ?side3 ?side4 A11.out).mono ?_); (case side1 => refine (Kd.N_reads' (e := 48) (base := w.heap.size) (ok := fun k_ => ((P2_ k_ ∨ w.heap.size ≤ k_) ∧ k_ ≠ gb234)) (n := t230.length) (c := co15) ?_).2.2; exact (by (with_reducible repeat (first | apply Kd.N_alloc | apply Kd.N_drewN | apply Kd.N_drew)); exact (Kd.N_mono (Kd.N_far (p := ⟨gb234, 0, none⟩) (Kd.N_mono HO232.out (fun k_ hk => (⟨hk, hk.2⟩ : _ ∧ k_ ≠ gb234))) (fun _ hk => hk.2) (.slice Ao15 t230.length co15)) (fun _ h_ => h_.1)))); (case side2 => exact (Kd.N_reads' HO232.out).2.1); (case side3 => exact Kd.C_below HR0.out (by repeat (first | (with_reducible first | exact HB.out | apply wA | apply wN | apply wD | refine below_set ?_ GE234.out) | exact HB.out))); (case side4 => exact HC0.out); rintro e w17 ⟨v236, rfl, ho0, hb⟩; refine ⟨_, rfl, ?_⟩; have n0_ := aM (Kd.V_elder' (by (with_reducible repeat (first | apply Kd.V_alloc | apply Kd.V_drewN | apply Kd.V_drew)); exact (Kd.V_mono (Kd.V_far (p := ⟨gb234, 0, none⟩) (Kd.V_mono HO_2.out (fun k_ hk => (⟨hk, hk.2⟩ : _ ∧ k_ ≠ gb234))) (fun _ hk => hk.2) (.slice Ao15 t230.length co15)) (fun _ h_ => h_.1))) (by first | exact Kd.N_base ho0 | exact Kd.N_base (Kd.S_N ho0)) hb); have n1_ := aM (Kd.N_elder' (by (with_reducible repeat (first | apply Kd.N_alloc | apply Kd.N_drewN | apply Kd.N_drew)); exact (Kd.N_mono (Kd.N_far (p := ⟨gb234, 0, none⟩) (Kd.N_mono HO232.out (fun k_ hk => (⟨hk, hk.2⟩ : _ ∧ k_ ≠ gb234))) (fun _ hk => hk.2) (.slice Ao15 t230.length co15)) (fun _ h_ => h_.1))) (by first | exact Kd.N_base ho0 | exact Kd.N_base (Kd.S_N ho0)) hb); have n2_ := aM (Kd.N_lower (Kd.N_mono (ok' := fun k_ => (P2_ k_ ∨ w.heap.size ≤ k_) ∧ some k_ ≠ (.slice Ao15 t230.length co15 : Value).ownBlock ∧ k_ ≠ gb234) (Kd.S_N (Kd.S_bound ho0)) (fun k_ hk_ => ⟨(.inr (Nat.le_trans (below_size (by repeat (first | (with_reducible first | exact HB.out | apply wA | apply wN | apply wD | refine below_set ?_ GE234.out) | exact HB.out))) hk_.2.1)), (Kd.fresh' (Kd.N_lt (by (with_reducible repeat (first | apply Kd.N_alloc | apply Kd.N_drewN | apply Kd.N_drew)); exact (Kd.N_mono (Kd.N_far (p := ⟨gb234, 0, none⟩) (Kd.N_mono HO232.out (fun k_ hk => (⟨hk, hk.2⟩ : _ ∧ k_ ≠ gb234))) (fun _ hk => hk.2) (.slice Ao15 t230.length co15)) (fun _ h_ => h_.1)))) k_ hk_.2.1), (Kd.freshB (g := gb234) (o := .cells #[.slice Ao15 t230.length co15] 24 (0, 0)) (by (with_reducible repeat (first | refine bN ?_ _ | refine bD ?_ | refine bA ?_ _)); refine blk_put (cs := #[.slice none 0 0]) ?_ 0 _ rfl; (with_reducible repeat (first | refine bN ?_ _ | refine bD ?_ | refine bA ?_ _)); exact BK234.out) k_ hk_.2.1)⟩)) (below_size (by repeat (first | (with_reducible first | exact HB.out | apply wA | apply wN | apply wD | refine below_set ?_ GE234.out) | exact HB.out)))); have n3_ := aM (blk_below (g := gb234) (o := .cells #[.slice Ao15 t230.length co15] 24 (0, 0)) (by (with_reducible repeat (first | refine bN ?_ _ | refine bD ?_ | refine bA ?_ _)); refine blk_put (cs := #[.slice none 0 0]) ?_ 0 _ rfl; (with_reducible repeat (first | refine bN ?_ _ | refine bD ?_ | refine bA ?_ _)); exact BK234.out) hb); have n4_ := aM (below_step (by repeat (first | (with_reducible first | exact HB.out | apply wA | apply wN | apply wD | refine below_set ?_ GE234.out) | exact HB.out)) hb); clear HO_2; clear HO232; clear BK234; clear HB; have HO_2 := n0_; have HO232 := n1_; have HO237 := n2_; have BK234 := n3_; have HB := n4_; clear n0_ n1_ n2_ n3_ n4_; (try clear hb); (try clear hb2); (try clear hk); (try clear hi); (try clear ho0); obtain ⟨Ao18, co18, eo18⟩ := Kd.N_slice HO237.out; subst eo18; have hcz19_0 : w17.cell? ⟨gb234, 0, none⟩ = some (.slice Ao15 t230.length co15) := (blk_cell BK234.out 0).trans rfl; have hfz19_0 := blk_frozen BK234.out 0) | ((with_reducible refine gate_store (t := 24) (p := 7) rfl ?_); refine store_event (t := 24) (p := 7) (v := ?vo_w20) (w1 := (w17.setCell ⟨gb234, 0, none⟩ (.slice Ao18 t235.length co18))) ?hg ?ho ?hn ?hr ?_; (case ho => rfl); (case hg => rfl); (case hn => rfl); (case hr => first | (go_simp; done) | (go_simp; rfl)); intro w20 hw; have n0_ : Aside0 (Kd.V (Kd.int .i64) 3 w20 w.heap.size (fun k_ => (P2_ k_ ∨ w.heap.size ≤ k_) ∧ some k_ ≠ (.slice Ao15 t230.length co15 : Value).ownBlock ∧ some k_ ≠ (.slice Ao18 t235.length co18 : Value).ownBlock ∧ k_ ≠ gb234) (.slice A2 l2.length c2) l2) := ⟨(by rw [hw]; exact (by (with_reducible repeat (first | apply Kd.V_alloc | apply Kd.V_drewN | apply Kd.V_drew)); exact Kd.V_mono (Kd.V_far (p := ⟨gb234, 0, none⟩) (Kd.V_mono HO_2.out (fun k_ hk => (⟨hk, hk.1.2⟩ : _ ∧ k_ ≠ gb234))) (fun _ hk => hk.2) (.slice Ao18 t235.length co18)) (fun _ hk => ⟨hk.1.1.1.1, ⟨hk.1.1.1.2, ⟨hk.1.2, hk.1.1.2⟩⟩⟩)))⟩; have n1_ : Aside0 (Kd.N k48 48 w20 w.heap.size (fun k_ => (P2_ k_ ∨ w.heap.size ≤ k_) ∧ some k_ ≠ (.slice Ao18 t235.length co18 : Value).ownBlock ∧ k_ ≠ gb234) (.slice Ao15 t230.length co15) t230) := ⟨(by rw [hw]; exact (by (with_reducible repeat (first | apply Kd.N_alloc | apply Kd.N_drewN | apply Kd.N_drew)); exact Kd.N_mono (Kd.N_far (p := ⟨gb234, 0, none⟩) (Kd.N_mono HO232.out (fun k_ hk => (⟨hk, hk.1.2⟩ : _ ∧ k_ ≠ gb234))) (fun _ hk => hk.2) (.slice Ao18 t235.length co18)) (fun _ hk => ⟨hk.1.1.1, ⟨hk.1.2, hk.1.1.2⟩⟩)))⟩; have n2_ : Aside0 (Kd.N k48 48 w20 w.heap.size (fun k_ => (P2_ k_ ∨ w.heap.size ≤ k_) ∧ some k_ ≠ (.slice Ao15 t230.length co15 : Value).ownBlock ∧ k_ ≠ gb234) (.slice Ao18 t235.length co18) t235) := ⟨(by rw [hw]; exact (by (with_reducible repeat (first | apply Kd.N_alloc | apply Kd.N_drewN | apply Kd.N_drew)); exact Kd.N_mono (Kd.N_far (p := ⟨gb234, 0, none⟩) (Kd.N_mono HO237.out (fun k_ hk => (⟨hk, hk.2.2⟩ : _ ∧ k_ ≠ gb234))) (fun _ hk => hk.2) (.slice Ao18 t235.length co18)) (fun _ hk => ⟨hk.1.1, ⟨hk.1.2.1, hk.1.2.2⟩⟩)))⟩; have n3_ : Aside0 (w20.heap[gb234]? = some (.cells #[.slice Ao18 t235.length co18] 24 (0, 0))) := ⟨(by rw [hw]; exact (by (with_reducible repeat (first | refine bN ?_ _ | refine bD ?_ | refine bA ?_ _)); refine blk_put (cs := #[.slice Ao15 t230.length co15]) ?_ 0 _ rfl; (with_reducible repeat (first | refine bN ?_ _ | refine bD ?_ | refine bA ?_ _)); exact BK234.out))⟩; have n4_ : Aside0 (Below w.heap.size w w20) := ⟨(by rw [hw]; exact (by repeat (first | (with_reducible first | exact HB.out | apply wA | apply wN | apply wD | refine below_set ?_ GE234.out) | exact HB.out)))⟩; clear hw; clear HO_2; clear HO232; clear HO237; clear BK234; clear HB; have HO_2 := n0_; have HO232 := n1_; have HO237 := n2_; have BK234 := n3_; have HB := n4_; clear n0_ n1_ n2_ n3_ n4_))
     (try simp only [Act.put, List.setIfInBounds_toArray, List.set_cons_zero, List.set_cons_succ])
     have H := HC12.out
     clear HC12
     obtain ⟨y239, hy239⟩ : ∃ y_ : List (S39), y_ = (([(⟨a1, l2⟩ : S39)] : List (S39))) := ⟨_, rfl⟩
     replace H : ((disk_Crash.f kj5 t235 y239).bind fun t242 => ((disk_Read.f t242 0).bind fun bt245 => (if t238 = 0 then (if bt245.2 = 0 then (rollbacknetlaw10_DiskTears.j1 kj5 l0 l2 bt245.1 ((bt245.1.length : Int) != (mn (mx a1 0) (l0.length : Int)))) else (rollbacknetlaw10_DiskTears.j1 kj5 l0 l2 bt245.1 true)) else (rollbacknetlaw10_DiskTears.j1 kj5 l0 l2 bt245.1 true)))) = some r := by first | (rw [hy239]; with_reducible exact H) | (have H2_ := (Option.bind_some _ _).symm.trans H; rw [hy239]; with_reducible exact H2_) | (have H2_ := (Option.bind_some _ _).symm.trans H; with_reducible exact H2_) | with_reducible exact H | (rw [hy239]; exact H) | exact H
     have Ny239 := aM hy239
     clear hy239
     replace H := Option.bind_eq_some_iff.mp H
     obtain ⟨t242, A210, H⟩ := H
     replace H : ((disk_Read.f t242 0).bind fun bt245 => (if t238 = 0 then (if bt245.2 = 0 then (rollbacknetlaw10_DiskTears.j1 kj5 l0 l2 bt245.1 ((bt245.1.length : Int) != (mn (mx a1 0) (l0.length : Int)))) else (rollbacknetlaw10_DiskTears.j1 kj5 l0 l2 bt245.1 true)) else (rollbacknetlaw10_DiskTears.j1 kj5 l0 l2 bt245.1 true))) = some r := H
     have A21 := aM A210
     clear A210
     replace H := Option.bind_eq_some_iff.mp H
     obtain ⟨⟨t245, t248⟩, A220, H⟩ := H
     replace H : (if t238 = 0 then (if t248 = 0 then (rollbacknetlaw10_DiskTears.j1 kj5 l0 l2 t245 ((t245.length : Int) != (mn (mx a1 0) (l0.length : Int)))) else (rollbacknetlaw10_DiskTears.j1 kj5 l0 l2 t245 true)) else (rollbacknetlaw10_DiskTears.j1 kj5 l0 l2 t245 true)) = some r := H
     have A22 := aM A220
     clear A220
     have HC23 := aM H
     clear H
     have hcz24_0 : w20.cell? ⟨gb234, 0, none⟩ = some (.slice Ao18 t235.length co18) := (blk_cell BK234.out 0).trans rfl
     have hfz24_0 := blk_frozen BK234.out 0
     go_upto_region 8 with (first | ((with_reducible refine gate_dst (N := 41) rfl ?_); (try (refine gate_guard (by rfl) ?_; dsimp only)); refine Kd.N_lit k39 _ 39 ?hg (N' := 41) ?hd (xs := ([(⟨a1, l2⟩ : S39)] : List (S39))) (inner := [.int .i64 a1, .slice A2 l2.length c2]) (ok := (fun k_ => (P2_ k_ ∨ w.heap.size ≤ k_) ∧ some k_ ≠ (.slice Ao15 t230.length co15 : Value).ownBlock ∧ some k_ ≠ (.slice Ao18 t235.length co18 : Value).ownBlock ∧ k_ ≠ gb234)) (okp := (fun k_ => (P2_ k_ ∨ w.heap.size ≤ k_) ∧ some k_ ≠ (.slice Ao15 t230.length co15 : Value).ownBlock ∧ some k_ ≠ (.slice Ao18 t235.length co18 : Value).ownBlock ∧ k_ ≠ gb234)) ?hr ?hp (fun _ hk => hk) ((show ∀ k_, w20.heap.size ≤ k_ → (fun k_ => (P2_ k_ ∨ w.heap.size ≤ k_) ∧ some k_ ≠ (.slice Ao15 t230.length co15 : Value).ownBlock ∧ some k_ ≠ (.slice Ao18 t235.length co18 : Value).ownBlock ∧ k_ ≠ gb234) k_ from fun k_ hk => ⟨(.inr (Nat.le_trans (below_size (by repeat (first | (with_reducible first | exact HB.out | apply wA | apply wN | apply wD | refine below_set ?_ GE234.out) | exact HB.out))) hk)), Kd.fresh' (Kd.N_lt (by (with_reducible repeat (first | apply Kd.N_alloc | apply Kd.N_drewN | apply Kd.N_drew)); exact HO232.out)) k_ hk, Kd.fresh' (Kd.N_lt (by (with_reducible repeat (first | apply Kd.N_alloc | apply Kd.N_drewN | apply Kd.N_drew)); exact HO237.out)) k_ hk, Kd.freshB (g := gb234) (o := .cells #[.slice Ao18 t235.length co18] 24 (0, 0)) (by (with_reducible repeat (first | refine bN ?_ _ | refine bD ?_ | refine bA ?_ _)); exact BK234.out) k_ hk⟩) _ (Nat.le_refl _)) (Below.refl _ _) (Nat.le_refl _) (by simp) ?_; (case hd => rfl); (case hg => rfl); (case hr => first | (go_simp; done) | (go_simp; rfl)); (case hp => exact (Reps.c2 (show Kd.FK k39 _ _ (⟨a1, l2⟩ : S39) [.int .i64 a1, .slice A2 l2.length c2] from (k39_mkF _ _ (⟨a1, l2⟩ : S39) (Kd.V_reads' (Kd.V_mono (ok' := (fun k_ => (P2_ k_ ∨ w.heap.size ≤ k_) ∧ some k_ ≠ (.slice Ao15 t230.length co15 : Value).ownBlock ∧ some k_ ≠ (.slice Ao18 t235.length co18 : Value).ownBlock ∧ k_ ≠ gb234)) (HO_2.out) (fun k_ hk => ⟨hk.1, ⟨hk.2.1, ⟨hk.2.2.1, hk.2.2.2⟩⟩⟩))).2.1 (Kd.V_F (Kd.V_mono (ok' := (fun k_ => (P2_ k_ ∨ w.heap.size ≤ k_) ∧ some k_ ≠ (.slice Ao15 t230.length co15 : Value).ownBlock ∧ some k_ ≠ (.slice Ao18 t235.length co18 : Value).ownBlock ∧ k_ ≠ gb234)) (HO_2.out) (fun k_ hk => ⟨hk.1, ⟨hk.2.1, ⟨hk.2.2.1, hk.2.2.2⟩⟩⟩))))) (Reps.none _ _))); intro v240 w25 ho26 hb hg_ hnew_; clear hg_ hnew_; (first | rw [← Ny239.out] at ho26 | (simp only [Int.reduceToNat] at ho26; rw [← Ny239.out] at ho26)); have n0_ := aM (Kd.V_elder' (by (with_reducible repeat (first | apply Kd.V_alloc | apply Kd.V_drewN | apply Kd.V_drew)); exact HO_2.out) (by first | exact Kd.N_base ho26 | exact Kd.N_base (Kd.S_N ho26)) hb); have n1_ := aM (Kd.N_elder' (by (with_reducible repeat (first | apply Kd.N_alloc | apply Kd.N_drewN | apply Kd.N_drew)); exact HO232.out) (by first | exact Kd.N_base ho26 | exact Kd.N_base (Kd.S_N ho26)) hb); have n2_ := aM (Kd.N_elder' (by (with_reducible repeat (first | apply Kd.N_alloc | apply Kd.N_drewN | apply Kd.N_drew)); exact HO237.out) (by first | exact Kd.N_base ho26 | exact Kd.N_base (Kd.S_N ho26)) hb); have n3_ := aM (Kd.N_lower ho26 (below_size (by repeat (first | (with_reducible first | exact HB.out | apply wA | apply wN | apply wD | refine below_set ?_ GE234.out) | exact HB.out)))); have n4_ := aM (blk_below (g := gb234) (o := .cells #[.slice Ao18 t235.length co18] 24 (0, 0)) (by (with_reducible repeat (first | refine bN ?_ _ | refine bD ?_ | refine bA ?_ _)); exact BK234.out) hb); have n5_ := aM (below_step (by repeat (first | (with_reducible first | exact HB.out | apply wA | apply wN | apply wD | refine below_set ?_ GE234.out) | exact HB.out)) hb); clear HO_2; clear HO232; clear HO237; clear BK234; clear HB; have HO_2 := n0_; have HO232 := n1_; have HO237 := n2_; have HO241 := n3_; have BK234 := n4_; have HB := n5_; clear n0_ n1_ n2_ n3_ n4_ n5_; clear hb ho26; obtain ⟨Ao27, co27, eo27⟩ := Kd.N_slice HO241.out; subst eo27) | ((with_reducible refine gate_callee (f := 11) rfl ?_); refine goesL_ (some 42) rfl rfl Try.func11 (by kernel_rfl) rfl #[.agg #[.slice Ao18 t235.length co18], .slice Ao27 y239.length co27] rfl (by (try simp only [List.map_toArray, List.map_cons, List.map_nil]); first | done | rfl | (simp only [List.length_drop, List.length_take]; rfl)) ?_; (with_reducible refine (disk_Crash.calls kj5 _ _ t235 _ _ y239 t242 _ ?side1 ?side2 ?side3 ?side4 A21.out).mono ?_); (case side1 => repeat (first | exact (Kd.N_reads' HO237.out).2.2 | (with_reducible refine Kd.C_alloc ?_ _) | (with_reducible refine Kd.C_drewN ?_ _) | (with_reducible refine Kd.C_drew ?_))); (case side2 => exact (Kd.N_reads' HO237.out).2.1); (case side3 => repeat (first | exact (Kd.N_reads' HO241.out).2.2 | (with_reducible refine Kd.C_alloc ?_ _) | (with_reducible refine Kd.C_drewN ?_ _) | (with_reducible refine Kd.C_drew ?_))); (case side4 => exact (Kd.N_reads' HO241.out).2.1); rintro e w28 ⟨v243, rfl, ho0, hb⟩; refine ⟨_, rfl, ?_⟩; have n0_ := aM (Kd.V_elder' (by (with_reducible repeat (first | apply Kd.V_alloc | apply Kd.V_drewN | apply Kd.V_drew)); exact HO_2.out) (by first | exact Kd.N_base ho0 | exact Kd.N_base (Kd.S_N ho0)) hb); have n1_ := aM (Kd.N_elder' (by (with_reducible repeat (first | apply Kd.N_alloc | apply Kd.N_drewN | apply Kd.N_drew)); exact HO232.out) (by first | exact Kd.N_base ho0 | exact Kd.N_base (Kd.S_N ho0)) hb); have n2_ := aM (Kd.N_elder' (by (with_reducible repeat (first | apply Kd.N_alloc | apply Kd.N_drewN | apply Kd.N_drew)); exact HO237.out) (by first | exact Kd.N_base ho0 | exact Kd.N_base (Kd.S_N ho0)) hb); have n3_ := aM (Kd.N_elder' (by (with_reducible repeat (first | apply Kd.N_alloc | apply Kd.N_drewN | apply Kd.N_drew)); exact HO241.out) (by first | exact Kd.N_base ho0 | exact Kd.N_base (Kd.S_N ho0)) hb); have n4_ := aM (Kd.N_lower (Kd.N_mono (ok' := fun k_ => (P2_ k_ ∨ w.heap.size ≤ k_) ∧ some k_ ≠ (.slice Ao15 t230.length co15 : Value).ownBlock ∧ some k_ ≠ (.slice Ao18 t235.length co18 : Value).ownBlock ∧ some k_ ≠ (.slice Ao27 y239.length co27 : Value).ownBlock ∧ k_ ≠ gb234) (Kd.S_N (Kd.S_bound ho0)) (fun k_ hk_ => ⟨(.inr (Nat.le_trans (below_size (by repeat (first | (with_reducible first | exact HB.out | apply wA | apply wN | apply wD | refine below_set ?_ GE234.out) | exact HB.out))) hk_.2.1)), (Kd.fresh' (Kd.N_lt (by (with_reducible repeat (first | apply Kd.N_alloc | apply Kd.N_drewN | apply Kd.N_drew)); exact HO232.out)) k_ hk_.2.1), (Kd.fresh' (Kd.N_lt (by (with_reducible repeat (first | apply Kd.N_alloc | apply Kd.N_drewN | apply Kd.N_drew)); exact HO237.out)) k_ hk_.2.1), (Kd.fresh' (Kd.N_lt (by (with_reducible repeat (first | apply Kd.N_alloc | apply Kd.N_drewN | apply Kd.N_drew)); exact HO241.out)) k_ hk_.2.1), (Kd.freshB (g := gb234) (o := .cells #[.slice Ao18 t235.length co18] 24 (0, 0)) (by (with_reducible repeat (first | refine bN ?_ _ | refine bD ?_ | refine bA ?_ _)); exact BK234.out) k_ hk_.2.1)⟩)) (below_size (by repeat (first | (with_reducible first | exact HB.out | apply wA | apply wN | apply wD | refine below_set ?_ GE234.out) | exact HB.out)))); have n5_ := aM (blk_below (g := gb234) (o := .cells #[.slice Ao18 t235.length co18] 24 (0, 0)) (by (with_reducible repeat (first | refine bN ?_ _ | refine bD ?_ | refine bA ?_ _)); exact BK234.out) hb); have n6_ := aM (below_step (by repeat (first | (with_reducible first | exact HB.out | apply wA | apply wN | apply wD | refine below_set ?_ GE234.out) | exact HB.out)) hb); clear HO_2; clear HO232; clear HO237; clear HO241; clear BK234; clear HB; have HO_2 := n0_; have HO232 := n1_; have HO237 := n2_; have HO241 := n3_; have HO244 := n4_; have BK234 := n5_; have HB := n6_; clear n0_ n1_ n2_ n3_ n4_ n5_ n6_; (try clear hb); (try clear hb2); (try clear hk); (try clear hi); (try clear ho0); obtain ⟨Ao29, co29, eo29⟩ := Kd.N_slice HO244.out; subst eo29) | ((with_reducible refine gate_callee (f := 15) rfl ?_); refine goesL_ (some 43) rfl rfl Try.func15 (by kernel_rfl) rfl #[.agg #[.slice Ao29 t242.length co29], .int .i64 0] rfl (by (try simp only [List.map_toArray, List.map_cons, List.map_nil]); first | done | rfl | (simp only [List.length_drop, List.length_take]; rfl)) ?_; (with_reducible refine (disk_Read.calls (fun k_ => ((P2_ k_ ∨ w.heap.size ≤ k_) ∧ (some k_ ≠ (.slice Ao15 t230.length co15 : Value).ownBlock ∧ (some k_ ≠ (.slice Ao18 t235.length co18 : Value).ownBlock ∧ (some k_ ≠ (.slice Ao27 y239.length co27 : Value).ownBlock ∧ k_ ≠ gb234))))) _ _ t242 0 t245 t248 _ ?side1 A22.out).mono ?_); (case side1 => exact Kd.N_V (HO244.out)); rintro e w30 ⟨v246, rfl, ho0, hb⟩; refine ⟨_, rfl, ?_⟩; have n0_ := aM (Kd.V_elder' (by (with_reducible repeat (first | apply Kd.V_alloc | apply Kd.V_drewN | apply Kd.V_drew)); exact HO_2.out) (Kd.R_base ho0) hb); have n1_ := aM (Kd.N_elder' (by (with_reducible repeat (first | apply Kd.N_alloc | apply Kd.N_drewN | apply Kd.N_drew)); exact HO232.out) (Kd.R_base ho0) hb); have n2_ := aM (Kd.N_elder' (by (with_reducible repeat (first | apply Kd.N_alloc | apply Kd.N_drewN | apply Kd.N_drew)); exact HO237.out) (Kd.R_base ho0) hb); have n3_ := aM (Kd.N_elder' (by (with_reducible repeat (first | apply Kd.N_alloc | apply Kd.N_drewN | apply Kd.N_drew)); exact HO241.out) (Kd.R_base ho0) hb); have n4_ := aM (Kd.N_elder' (by (with_reducible repeat (first | apply Kd.N_alloc | apply Kd.N_drewN | apply Kd.N_drew)); exact HO244.out) (Kd.R_base ho0) hb); have n5_ := aM (Kd.R_lower (Kd.R_newM (M := fun k_ => (w.heap.size ≤ k_)) (Kd.R_mono (ok' := fun k_ => True) ho0 (fun _ hk_ => trivial)) (below_size (by repeat (first | (with_reducible first | exact HB.out | apply wA | apply wN | apply wD | refine below_set ?_ GE234.out) | exact HB.out))) (fun k_ h_ => h_)) (below_size (by repeat (first | (with_reducible first | exact HB.out | apply wA | apply wN | apply wD | refine below_set ?_ GE234.out) | exact HB.out)))); have n6_ := aM (blk_below (g := gb234) (o := .cells #[.slice Ao18 t235.length co18] 24 (0, 0)) (by (with_reducible repeat (first | refine bN ?_ _ | refine bD ?_ | refine bA ?_ _)); exact BK234.out) hb); have n7_ := aM (below_step (by repeat (first | (with_reducible first | exact HB.out | apply wA | apply wN | apply wD | refine below_set ?_ GE234.out) | exact HB.out)) hb); clear HO_2; clear HO232; clear HO237; clear HO241; clear HO244; clear BK234; clear HB; have HO_2 := n0_; have HO232 := n1_; have HO237 := n2_; have HO241 := n3_; have HO244 := n4_; have HO247 := n5_; have BK234 := n6_; have HB := n7_; clear n0_ n1_ n2_ n3_ n4_ n5_ n6_ n7_; (try clear hb); (try clear hb2); (try clear hk); (try clear hi); (try clear ho0)))
     (try simp only [Act.put, List.setIfInBounds_toArray, List.set_cons_zero, List.set_cons_succ])
     go_cut [61] (fun v61 wc => ∃ (kq : Nat) (x61_22 : Bool), v61 = .bool x61_22 ∧ Aside0 (rollbacknetlaw10_DiskTears.j1 kq l0 l2 t245 x61_22 = some r) ∧ Aside0 (kq ≤ kj5) ∧ Aside0 (Kd.V (Kd.int .i64) 3 wc w.heap.size (fun k_ => (P2_ k_ ∨ w.heap.size ≤ k_) ∧ some k_ ≠ (v246 : Value).ownBlock ∧ some k_ ≠ ((.slice Ao18 t235.length co18) : Value).ownBlock ∧ k_ ≠ gb234) (.slice A2 l2.length c2) l2) ∧ Aside0 (Kd.R (Kd.int .u8) 5 wc w.heap.size (fun k_ => (w.heap.size ≤ k_)) v246 t245) ∧ Aside0 (Kd.N k48 48 wc w.heap.size (fun k_ => (P2_ k_ ∨ w.heap.size ≤ k_) ∧ some k_ ≠ (v246 : Value).ownBlock ∧ k_ ≠ gb234) (.slice Ao18 t235.length co18) t235) ∧ Aside0 (wc.heap[gb234]? = some (.cells #[(.slice Ao18 t235.length co18)] 24 (0, 0))) ∧ Aside0 (Below w.heap.size w wc))
     case first =>
      have H := HC23.out
      clear HC23
      by_cases c31 : t238 = 0
      ·rw [if_pos c31] at H
       have c31b0 : (t238 == 0) = true := beq_iff_eq.mpr c31
       have c31b1 : (t238 != 0) = false := bne_eq_false_iff_eq.mpr c31
       clear c31
       (first | rw [c31b0] | (simp only [i64_w, i32_w]; rw [c31b0]) | skip)
       by_cases c32 : t248 = 0
       ·rw [if_pos c32] at H
        have c32b0 : (t248 == 0) = true := beq_iff_eq.mpr c32
        have c32b1 : (t248 != 0) = false := bne_eq_false_iff_eq.mpr c32
        clear c32
        obtain ⟨ji33, hji33⟩ : ∃ j_ : Int, (mx a1 0) = j_ := ⟨_, rfl⟩
        replace H : (rollbacknetlaw10_DiskTears.j1 kj5 l0 l2 t245 ((t245.length : Int) != (mn (ji33) (l0.length : Int)))) = some r := by first | (rw [hji33] at H; exact H) | (simp only [hji33] at H ⊢; exact H)
        have hji33_ : (if a1 < 0 then 0 else a1) = ji33 := hji33
        obtain ⟨ji34, hji34⟩ : ∃ j_ : Int, (mn (ji33) (l0.length : Int)) = j_ := ⟨_, rfl⟩
        replace H : (rollbacknetlaw10_DiskTears.j1 kj5 l0 l2 t245 ((t245.length : Int) != (ji34))) = some r := by first | (rw [hji34] at H; exact H) | (simp only [hji34] at H ⊢; exact H)
        have hji34_ : (if (l0.length : Int) < (ji33) then (l0.length : Int) else (ji33)) = ji34 := hji34
        have H' := aM H
        clear H
        obtain ⟨Ao35, co35, eo35⟩ := Kd.R_slice HO247.out
        subst eo35
        go_wp2
        go_meet
        case rel => exact ⟨_, (((t245.length : Int) != (ji34))), (by first | rfl | (simp; done) | (simp only [← hji34] <;> (first | rfl | simp)) | (simp [*]; done)), H', ⟨by have := HJ5.out; first | omega | exact Nat.le_refl _⟩, ⟨by (with_reducible repeat (first | apply Kd.V_alloc | apply Kd.V_drewN | apply Kd.V_drew)); exact Kd.V_mono HO_2.out (fun _ hk => ⟨hk.1.1.1.1, ⟨hk.2, ⟨hk.1.1.1.2.2.1, hk.1.1.1.2.2.2⟩⟩⟩)⟩, ⟨by (with_reducible repeat (first | apply Kd.R_alloc | apply Kd.R_drewN | apply Kd.R_drew)); exact Kd.R_mono HO247.out (fun _ hk => hk.1)⟩, ⟨by (with_reducible repeat (first | apply Kd.N_alloc | apply Kd.N_drewN | apply Kd.N_drew)); exact Kd.N_mono HO237.out (fun _ hk => ⟨hk.1.1.1.1, ⟨hk.2, hk.1.1.1.2.2⟩⟩)⟩, ⟨by (with_reducible repeat (first | refine bN ?_ _ | refine bD ?_ | refine bA ?_ _)); exact BK234.out⟩, ⟨by repeat (first | (with_reducible first | exact HB.out | apply wA | apply wN | apply wD | refine below_set ?_ GE234.out) | exact HB.out)⟩⟩
       ·rw [if_neg c32] at H
        have c32b0 : (t248 == 0) = false := beq_eq_false_iff_ne.mpr c32
        have c32b1 : (t248 != 0) = true := bne_iff_ne.mpr c32
        have H' := aM H
        clear H
        go_wp2
        go_meet
        case rel => exact ⟨_, (true), (by first | rfl | (simp; done) | (simp [*]; done)), H', ⟨by have := HJ5.out; first | omega | exact Nat.le_refl _⟩, ⟨by (with_reducible repeat (first | apply Kd.V_alloc | apply Kd.V_drewN | apply Kd.V_drew)); exact Kd.V_mono HO_2.out (fun _ hk => ⟨hk.1.1.1.1, ⟨hk.2, ⟨hk.1.1.1.2.2.1, hk.1.1.1.2.2.2⟩⟩⟩)⟩, ⟨by (with_reducible repeat (first | apply Kd.R_alloc | apply Kd.R_drewN | apply Kd.R_drew)); exact Kd.R_mono HO247.out (fun _ hk => hk.1)⟩, ⟨by (with_reducible repeat (first | apply Kd.N_alloc | apply Kd.N_drewN | apply Kd.N_drew)); exact Kd.N_mono HO237.out (fun _ hk => ⟨hk.1.1.1.1, ⟨hk.2, hk.1.1.1.2.2⟩⟩)⟩, ⟨by (with_reducible repeat (first | refine bN ?_ _ | refine bD ?_ | refine bA ?_ _)); exact BK234.out⟩, ⟨by repeat (first | (with_reducible first | exact HB.out | apply wA | apply wN | apply wD | refine below_set ?_ GE234.out) | exact HB.out)⟩⟩
      ·rw [if_neg c31] at H
       have c31b0 : (t238 == 0) = false := beq_eq_false_iff_ne.mpr c31
       have c31b1 : (t238 != 0) = true := bne_iff_ne.mpr c31
       (first | rw [c31b0] | (simp only [i64_w, i32_w]; rw [c31b0]) | skip)
       have H' := aM H
       clear H
       go_wp2
       go_meet
       case rel => exact ⟨_, (true), (by first | rfl | (simp; done) | (simp [*]; done)), H', ⟨by have := HJ5.out; first | omega | exact Nat.le_refl _⟩, ⟨by (with_reducible repeat (first | apply Kd.V_alloc | apply Kd.V_drewN | apply Kd.V_drew)); exact Kd.V_mono HO_2.out (fun _ hk => ⟨hk.1.1.1.1, ⟨hk.2, ⟨hk.1.1.1.2.2.1, hk.1.1.1.2.2.2⟩⟩⟩)⟩, ⟨by (with_reducible repeat (first | apply Kd.R_alloc | apply Kd.R_drewN | apply Kd.R_drew)); exact Kd.R_mono HO247.out (fun _ hk => hk.1)⟩, ⟨by (with_reducible repeat (first | apply Kd.N_alloc | apply Kd.N_drewN | apply Kd.N_drew)); exact Kd.N_mono HO237.out (fun _ hk => ⟨hk.1.1.1.1, ⟨hk.2, hk.1.1.1.2.2⟩⟩)⟩, ⟨by (with_reducible repeat (first | refine bN ?_ _ | refine bD ?_ | refine bA ?_ _)); exact BK234.out⟩, ⟨by repeat (first | (with_reducible first | exact HB.out | apply wA | apply wN | apply wD | refine below_set ?_ GE234.out) | exact HB.out)⟩⟩
     case rest =>
      clear HC23
      try clear c1
      try clear c2
      try clear p2
      try clear c3
      try clear c4
      try clear c5
      try clear c8
      try clear c8b0
      try clear c8b1
      try clear c9
      try clear c11
      try clear c13
      try clear c14
      try clear c15
      try clear c31
      try clear c31b0
      try clear c31b1
      try clear c32
      try clear c32b0
      try clear c32b1
      try clear hcz16_0
      try clear hcz19_0
      try clear hcz24_0
      try clear hfz16_0
      try clear hfz19_0
      try clear hfz24_0
      try clear p2
      obtain ⟨kq, x61_22, rfl, HA, HJ22, HO_2, HO_10, HO_235000, BK234, HB⟩ := hcut
      cases kq with
      | zero => exact absurd HA.out (by simp [rollbacknetlaw10_DiskTears.j1])
      | succ kj22 =>
       have H := HA.out
       clear HA
       simp only [rollbacknetlaw10_DiskTears.j1] at H
       by_cases c36 : x61_22 = true
       ·subst c36
        have H1 : (some false) = some r := by rw [if_pos rfl] at H; exact H
        clear H
        have H := H1
        clear H1
        obtain rfl := Option.some.inj H
        go_wp2
        go_ret
        exact ⟨by first | rfl | (simp [errW_none, errW_some] <;> rfl) | (simp [*, errW_none, errW_some] <;> rfl), by repeat (first | (with_reducible first | exact HB.out | apply wA | apply wN | apply wD | refine below_set ?_ GE234.out) | exact HB.out)⟩
       ·replace c36 := Bool.eq_false_iff.mpr c36
        subst c36
        have H1 : (rollbacknetlaw10_DiskTears.l0 kj22 l0 l2 t245 (t245.length : Int) 0) = some r := by rw [if_neg (show ¬ (false = true) by decide)] at H; exact H
        clear H
        have H := H1
        clear H1
        have H' := aM H
        clear H
        obtain ⟨Ao37, co37, eo37⟩ := Kd.R_slice HO_10.out
        subst eo37
        go_wp2
        go_loopg [64] kj22 (fun kq v64 w' => ∃ (x64_3 : Int), v64 = .int .i64 x64_3 ∧ Aside0 (rollbacknetlaw10_DiskTears.l0 kq l0 l2 t245 (t245.length : Int) x64_3 = some r) ∧ Aside0 (kq ≤ kj22) ∧ Aside0 (Kd.V (Kd.int .i64) 3 w' w.heap.size (fun k_ => (P2_ k_ ∨ w.heap.size ≤ k_) ∧ some k_ ≠ ((.slice Ao37 t245.length co37) : Value).ownBlock ∧ some k_ ≠ ((.slice Ao18 t235.length co18) : Value).ownBlock ∧ k_ ≠ gb234) (.slice A2 l2.length c2) l2) ∧ Aside0 (Kd.R (Kd.int .u8) 5 w' w.heap.size (fun k_ => (w.heap.size ≤ k_)) (.slice Ao37 t245.length co37) t245) ∧ Aside0 (Kd.N k48 48 w' w.heap.size (fun k_ => (P2_ k_ ∨ w.heap.size ≤ k_) ∧ some k_ ≠ ((.slice Ao37 t245.length co37) : Value).ownBlock ∧ k_ ≠ gb234) (.slice Ao18 t235.length co18) t235) ∧ Aside0 (w'.heap[gb234]? = some (.cells #[(.slice Ao18 t235.length co18)] 24 (0, 0))) ∧ Aside0 (Below w.heap.size w w'))
        case atStart => exact ⟨(0), (by first | rfl | (simp; done) | (simp [*]; done)), H', ⟨Nat.le_refl _⟩, ⟨by (with_reducible repeat (first | apply Kd.V_alloc | apply Kd.V_drewN | apply Kd.V_drew)); exact HO_2.out⟩, ⟨by (with_reducible repeat (first | apply Kd.R_alloc | apply Kd.R_drewN | apply Kd.R_drew)); exact HO_10.out⟩, ⟨by (with_reducible repeat (first | apply Kd.N_alloc | apply Kd.N_drewN | apply Kd.N_drew)); exact HO_235000.out⟩, ⟨by (with_reducible repeat (first | refine bN ?_ _ | refine bD ?_ | refine bA ?_ _)); exact BK234.out⟩, ⟨by repeat (first | (with_reducible first | exact HB.out | apply wA | apply wN | apply wD | refine below_set ?_ GE234.out) | exact HB.out)⟩⟩
        case round =>
         clear H'
         try clear c1
         try clear c2
         try clear p2
         try clear c3
         try clear c4
         try clear c5
         try clear c8
         try clear c8b0
         try clear c8b1
         try clear c9
         try clear c11
         try clear c13
         try clear c14
         try clear c15
         try clear c31
         try clear c31b0
         try clear c31b1
         try clear c32
         try clear c32b0
         try clear c32b1
         try clear c36
         try clear hcz16_0
         try clear hcz19_0
         try clear hcz24_0
         try clear hfz16_0
         try clear hfz19_0
         try clear hfz24_0
         try clear p2
         obtain ⟨x64_3, rfl, HA, HK3, HO_2, HO_10, HO_235000, BK234, HB⟩ := hrel
         cases gk with
         | zero => exact absurd HA.out (by simp [rollbacknetlaw10_DiskTears.l0])
         | succ k3 =>
          have H := HA.out
          clear HA
          simp only [rollbacknetlaw10_DiskTears.l0] at H
          by_cases c38 : x64_3 < (t245.length : Int)
          ·rw [if_pos c38] at H
           have c38b0 : decide (x64_3 < (t245.length : Int)) = true := decide_eq_true c38
           clear c38
           by_cases c39 : 0 ≤ x64_3
           ·rw [if_pos c39] at H
            have c39b0 : decide (0 ≤ x64_3) = true := decide_eq_true c39
            clear c39
            by_cases c40 : x64_3 < (l0.length : Int)
            ·rw [if_pos c40] at H
             have c40b0 : decide (x64_3 < (l0.length : Int)) = true := decide_eq_true c40
             clear c40
             have H' := aM H
             clear H
             have p249 : 0 ≤ (x64_3 : Int) := of_decide_eq_true (by first | (with_reducible assumption) | assumption)
             have q249 : x64_3 < (l0.length : Int) := of_decide_eq_true (by first | (with_reducible assumption) | assumption)
             obtain ⟨ad249, e249, hx249_0⟩ := Kd.at_int HR0.out x64_3 p249 q249
             cases e249
             replace hx249_0 := (HB.out.cell (World.block_lt_of_cell? w _ hx249_0)).trans hx249_0
             replace p249 := eq_true p249
             replace q249 := eq_true q249
             go_wp2
             go_loopg [13, 73] k3 (fun kq v13 v73 w' => ∃ (x13_4 : Int) (x73_4 : Int), v13 = .int .u8 x13_4 ∧ v73 = .int .i64 x73_4 ∧ Aside0 (rollbacknetlaw10_DiskTears.l1 kq l0 l2 t245 x64_3 x13_4 (t245.length : Int) x64_3 l2 (l2.length : Int) x73_4 = some r) ∧ Aside0 (kq ≤ k3) ∧ Aside0 (Kd.V (Kd.int .i64) 3 w' w.heap.size (fun k_ => (P2_ k_ ∨ w.heap.size ≤ k_) ∧ some k_ ≠ ((.slice Ao37 t245.length co37) : Value).ownBlock ∧ some k_ ≠ ((.slice Ao18 t235.length co18) : Value).ownBlock ∧ k_ ≠ gb234) (.slice A2 l2.length c2) l2) ∧ Aside0 (Kd.R (Kd.int .u8) 5 w' w.heap.size (fun k_ => (w.heap.size ≤ k_)) (.slice Ao37 t245.length co37) t245) ∧ Aside0 (Kd.V (Kd.int .i64) 3 w' w.heap.size (fun k_ => (P2_ k_ ∨ w.heap.size ≤ k_) ∧ some k_ ≠ ((.slice Ao37 t245.length co37) : Value).ownBlock ∧ some k_ ≠ ((.slice Ao18 t235.length co18) : Value).ownBlock ∧ k_ ≠ gb234) (.slice A2 l2.length c2) l2) ∧ Aside0 (Kd.N k48 48 w' w.heap.size (fun k_ => (P2_ k_ ∨ w.heap.size ≤ k_) ∧ some k_ ≠ ((.slice Ao37 t245.length co37) : Value).ownBlock ∧ k_ ≠ gb234) (.slice Ao18 t235.length co18) t235) ∧ Aside0 (w'.heap[gb234]? = some (.cells #[(.slice Ao18 t235.length co18)] 24 (0, 0))) ∧ Aside0 (Below w.heap.size w w'))
             case atStart => exact ⟨(rd l0 x64_3), (0), (by first | rfl | (simp; done) | (simp [*]; done)), (by first | rfl | (simp; done) | (simp [*]; done)), H', ⟨Nat.le_refl _⟩, ⟨by (with_reducible repeat (first | apply Kd.V_alloc | apply Kd.V_drewN | apply Kd.V_drew)); exact HO_2.out⟩, ⟨by (with_reducible repeat (first | apply Kd.R_alloc | apply Kd.R_drewN | apply Kd.R_drew)); exact HO_10.out⟩, ⟨by (with_reducible repeat (first | apply Kd.V_alloc | apply Kd.V_drewN | apply Kd.V_drew)); exact HO_2.out⟩, ⟨by (with_reducible repeat (first | apply Kd.N_alloc | apply Kd.N_drewN | apply Kd.N_drew)); exact HO_235000.out⟩, ⟨by (with_reducible repeat (first | refine bN ?_ _ | refine bD ?_ | refine bA ?_ _)); exact BK234.out⟩, ⟨by repeat (first | (with_reducible first | exact HB.out | apply wA | apply wN | apply wD | refine below_set ?_ GE234.out) | exact HB.out)⟩⟩
             case round =>
              clear H'
              try clear c1
              try clear c2
              try clear p2
              try clear q2
              try clear hx2
              try clear c3
              try clear c4
              try clear c5
              try clear c8
              try clear c8b0
              try clear c8b1
              try clear c9
              try clear c11
              try clear c13
              try clear c14
              try clear c15
              try clear p24
              try clear q24
              try clear hx24
              try clear c31
              try clear c31b0
              try clear c31b1
              try clear c32
              try clear c32b0
              try clear c32b1
              try clear c36
              try clear c38
              try clear c38b0
              try clear c39
              try clear c39b0
              try clear c40
              try clear c40b0
              try clear hcz16_0
              try clear hcz19_0
              try clear hcz24_0
              try clear hfz16_0
              try clear hfz19_0
              try clear hfz24_0
              try clear hx249_0
              try clear p2
              try clear p249
              try clear q249
              obtain ⟨x13_4, x73_4, rfl, rfl, HA, HK4, HO_2, HO_10, HO_71, HO_235000, BK234, HB⟩ := hrel
              cases gk with
              | zero => exact absurd HA.out (by simp [rollbacknetlaw10_DiskTears.l1])
              | succ k4 =>
               have H := HA.out
               clear HA
               simp only [rollbacknetlaw10_DiskTears.l1] at H
               by_cases c41 : x73_4 < (l2.length : Int)
               ·rw [if_pos c41] at H
                have c41b0 : decide (x73_4 < (l2.length : Int)) = true := decide_eq_true c41
                clear c41
                by_cases c42 : 0 ≤ x73_4
                ·rw [if_pos c42] at H
                 have c42b0 : decide (0 ≤ x73_4) = true := decide_eq_true c42
                 clear c42
                 by_cases c43 : x73_4 < (l2.length : Int)
                 ·rw [if_pos c43] at H
                  have c43b0 : decide (x73_4 < (l2.length : Int)) = true := decide_eq_true c43
                  clear c43
                  by_cases c44 : (rd l2 x73_4) = (wrap64 (Int.tdiv x64_3 16))
                  ·rw [if_pos c44] at H
                   have c44b0 : ((rd l2 x73_4) == (wrap64 (Int.tdiv x64_3 16))) = true := beq_iff_eq.mpr c44
                   have c44b1 : ((rd l2 x73_4) != (wrap64 (Int.tdiv x64_3 16))) = false := bne_eq_false_iff_eq.mpr c44
                   clear c44
                   have H' := aM H
                   clear H
                   have p250 : 0 ≤ (x73_4 : Int) := of_decide_eq_true (by first | (with_reducible assumption) | assumption)
                   have q250 : x73_4 < (l2.length : Int) := of_decide_eq_true (by first | (with_reducible assumption) | assumption)
                   obtain ⟨ad250, e250, hx250_0⟩ := Kd.at_int (Kd.V_reads' HO_71.out).2.2 x73_4 p250 q250
                   cases e250
                   replace p250 := eq_true p250
                   replace q250 := eq_true q250
                   go_wp2
                   go_roundg k4
                   case measure => have := HJ5.out; have := HJ22.out; have := HK3.out; have := HK4.out; omega
                   case rel => exact ⟨(0), (wrap64 (x73_4 + 1)), (by first | rfl | (simp; done) | (simp [*]; done)), (by first | rfl | (simp; done) | (simp [*]; done)), H', ⟨by have := HJ5.out; have := HJ22.out; have := HK3.out; have := HK4.out; omega⟩, ⟨by (with_reducible repeat (first | apply Kd.V_alloc | apply Kd.V_drewN | apply Kd.V_drew)); exact HO_2.out⟩, ⟨by (with_reducible repeat (first | apply Kd.R_alloc | apply Kd.R_drewN | apply Kd.R_drew)); exact HO_10.out⟩, ⟨by (with_reducible repeat (first | apply Kd.V_alloc | apply Kd.V_drewN | apply Kd.V_drew)); exact HO_71.out⟩, ⟨by (with_reducible repeat (first | apply Kd.N_alloc | apply Kd.N_drewN | apply Kd.N_drew)); exact HO_235000.out⟩, ⟨by (with_reducible repeat (first | refine bN ?_ _ | refine bD ?_ | refine bA ?_ _)); exact BK234.out⟩, ⟨by repeat (first | (with_reducible first | exact HB.out | apply wA | apply wN | apply wD | refine below_set ?_ GE234.out) | exact HB.out)⟩⟩
                  ·rw [if_neg c44] at H
                   have c44b0 : ((rd l2 x73_4) == (wrap64 (Int.tdiv x64_3 16))) = false := beq_eq_false_iff_ne.mpr c44
                   have c44b1 : ((rd l2 x73_4) != (wrap64 (Int.tdiv x64_3 16))) = true := bne_iff_ne.mpr c44
                   have H' := aM H
                   clear H
                   have p250 : 0 ≤ (x73_4 : Int) := of_decide_eq_true (by first | (with_reducible assumption) | assumption)
                   have q250 : x73_4 < (l2.length : Int) := of_decide_eq_true (by first | (with_reducible assumption) | assumption)
                   obtain ⟨ad250, e250, hx250_0⟩ := Kd.at_int (Kd.V_reads' HO_71.out).2.2 x73_4 p250 q250
                   cases e250
                   replace p250 := eq_true p250
                   replace q250 := eq_true q250
                   go_wp2
                   go_roundg k4
                   case measure => have := HJ5.out; have := HJ22.out; have := HK3.out; have := HK4.out; omega
                   case rel => exact ⟨(x13_4), (wrap64 (x73_4 + 1)), (by first | rfl | (simp; done) | (simp [*]; done)), (by first | rfl | (simp; done) | (simp [*]; done)), H', ⟨by have := HJ5.out; have := HJ22.out; have := HK3.out; have := HK4.out; omega⟩, ⟨by (with_reducible repeat (first | apply Kd.V_alloc | apply Kd.V_drewN | apply Kd.V_drew)); exact HO_2.out⟩, ⟨by (with_reducible repeat (first | apply Kd.R_alloc | apply Kd.R_drewN | apply Kd.R_drew)); exact HO_10.out⟩, ⟨by (with_reducible repeat (first | apply Kd.V_alloc | apply Kd.V_drewN | apply Kd.V_drew)); exact HO_71.out⟩, ⟨by (with_reducible repeat (first | apply Kd.N_alloc | apply Kd.N_drewN | apply Kd.N_drew)); exact HO_235000.out⟩, ⟨by (with_reducible repeat (first | refine bN ?_ _ | refine bD ?_ | refine bA ?_ _)); exact BK234.out⟩, ⟨by repeat (first | (with_reducible first | exact HB.out | apply wA | apply wN | apply wD | refine below_set ?_ GE234.out) | exact HB.out)⟩⟩
                 ·rw [if_neg c43] at H
                  exact absurd H (by simp)
                ·rw [if_neg c42] at H
                 exact absurd H (by simp)
               ·rw [if_neg c41] at H
                have c41b0 : decide (x73_4 < (l2.length : Int)) = false := decide_eq_false c41
                clear c41
                by_cases c45 : 0 ≤ x64_3
                ·rw [if_pos c45] at H
                 have c45b0 : decide (0 ≤ x64_3) = true := decide_eq_true c45
                 clear c45
                 by_cases c46 : x64_3 < (t245.length : Int)
                 ·rw [if_pos c46] at H
                  have c46b0 : decide (x64_3 < (t245.length : Int)) = true := decide_eq_true c46
                  clear c46
                  by_cases c47 : (rd t245 x64_3) = x13_4
                  ·rw [if_pos c47] at H
                   have c47b0 : ((rd t245 x64_3) == x13_4) = true := beq_iff_eq.mpr c47
                   have c47b1 : ((rd t245 x64_3) != x13_4) = false := bne_eq_false_iff_eq.mpr c47
                   clear c47
                   have H' := aM H
                   clear H
                   have p251 : 0 ≤ (x64_3 : Int) := of_decide_eq_true (by first | (with_reducible assumption) | assumption)
                   have q251 : x64_3 < (t245.length : Int) := of_decide_eq_true (by first | (with_reducible assumption) | assumption)
                   obtain ⟨ad251, e251, hx251_0⟩ := Kd.at_int (Kd.R_reads' HO_10.out).2.2 x64_3 p251 q251
                   cases e251
                   replace p251 := eq_true p251
                   replace q251 := eq_true q251
                   go_wp2
                   go_roundg k4
                   case measure => have := HJ5.out; have := HJ22.out; have := HK3.out; have := HK4.out; omega
                   case rel => exact ⟨(wrap64 (x64_3 + 1)), (by first | rfl | (simp; done) | (simp [*]; done)), H', ⟨by have := HJ5.out; have := HJ22.out; have := HK3.out; have := HK4.out; omega⟩, ⟨by (with_reducible repeat (first | apply Kd.V_alloc | apply Kd.V_drewN | apply Kd.V_drew)); exact HO_2.out⟩, ⟨by (with_reducible repeat (first | apply Kd.R_alloc | apply Kd.R_drewN | apply Kd.R_drew)); exact HO_10.out⟩, ⟨by (with_reducible repeat (first | apply Kd.N_alloc | apply Kd.N_drewN | apply Kd.N_drew)); exact HO_235000.out⟩, ⟨by (with_reducible repeat (first | refine bN ?_ _ | refine bD ?_ | refine bA ?_ _)); exact BK234.out⟩, ⟨by repeat (first | (with_reducible first | exact HB.out | apply wA | apply wN | apply wD | refine below_set ?_ GE234.out) | exact HB.out)⟩⟩
                  ·rw [if_neg c47] at H
                   have c47b0 : ((rd t245 x64_3) == x13_4) = false := beq_eq_false_iff_ne.mpr c47
                   have c47b1 : ((rd t245 x64_3) != x13_4) = true := bne_iff_ne.mpr c47
                   obtain rfl := Option.some.inj H
                   have p251 : 0 ≤ (x64_3 : Int) := of_decide_eq_true (by first | (with_reducible assumption) | assumption)
                   have q251 : x64_3 < (t245.length : Int) := of_decide_eq_true (by first | (with_reducible assumption) | assumption)
                   obtain ⟨ad251, e251, hx251_0⟩ := Kd.at_int (Kd.R_reads' HO_10.out).2.2 x64_3 p251 q251
                   cases e251
                   replace p251 := eq_true p251
                   replace q251 := eq_true q251
                   go_wp2
                   go_ret
                   exact ⟨by first | rfl | (simp [errW_none, errW_some] <;> rfl) | (simp [*, errW_none, errW_some] <;> rfl), by repeat (first | (with_reducible first | exact HB.out | apply wA | apply wN | apply wD | refine below_set ?_ GE234.out) | exact HB.out)⟩
                 ·rw [if_neg c46] at H
                  exact absurd H (by simp)
                ·rw [if_neg c45] at H
                 exact absurd H (by simp)
            ·rw [if_neg c40] at H
             exact absurd H (by simp)
           ·rw [if_neg c39] at H
            exact absurd H (by simp)
          ·rw [if_neg c38] at H
           have c38b0 : decide (x64_3 < (t245.length : Int)) = false := decide_eq_false c38
           clear c38
           obtain rfl := Option.some.inj H
           go_wp2
           go_ret
           exact ⟨by first | rfl | (simp [errW_none, errW_some] <;> rfl) | (simp [*, errW_none, errW_some] <;> rfl), by repeat (first | (with_reducible first | exact HB.out | apply wA | apply wN | apply wD | refine below_set ?_ GE234.out) | exact HB.out)⟩
 ·replace c5 := Bool.eq_false_iff.mpr c5
  subst c5
  have H1 : (some false) = some r := by rw [if_neg (show ¬ (false = true) by decide)] at H; exact H
  clear H
  have H := H1
  clear H1
  obtain rfl := Option.some.inj H
  go_enter Try.func4, Try.ntmps4
  go_wp2_with (first | ((with_reducible refine gate_callee (f := 9) rfl ?_); refine goesL_ (some 16) rfl rfl Try.func9 (by kernel_rfl) rfl #[] rfl (by (try simp only [List.map_toArray, List.map_cons, List.map_nil]); first | done | rfl | (simp only [List.length_drop, List.length_take]; rfl)) ?_; (with_reducible refine (rollbacknetlaw10_awake.calls k  false _ A4.out).mono ?_); rintro e w48 ⟨rfl, hb⟩; refine ⟨_, rfl, ?_⟩; have n0_ := aM (Kd.V_below (by (with_reducible repeat (first | apply Kd.V_alloc | apply Kd.V_drewN | apply Kd.V_drew)); exact HO2.out) hb); have n1_ := aM (below_step (by repeat (first | (with_reducible first | exact HB.out | apply wA | apply wN | apply wD) | exact HB.out)) hb); clear HO2; clear HB; have HO2 := n0_; have HB := n1_; clear n0_ n1_; (try clear hb); (try clear hb2); (try clear hk); (try clear hi)))
  go_ret
  exact ⟨by first | rfl | (simp [errW_none, errW_some] <;> rfl) | (simp [*, errW_none, errW_some] <;> rfl), by repeat (first | (with_reducible first | exact HB.out | apply wA | apply wN | apply wD) | exact HB.out)⟩

end Go.Proofs.Ytnfbjdnflifcoaa.PDk
