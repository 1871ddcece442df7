-- Laid by wip/tools/xprint.py, a program of this session over the kit's print: functions as Lean functions, each with its contract.
import Derived.Test.YtmlphabhldahlaaPFkx0
import Derived.Test.YtmlphabhldahlaaPFkx5
import Derived.Test.YtmlphabhldahlaaPFkx8
import Derived.Test.YtmlphabhldahlaaPFkx11
import Derived.Test.YtmlphabhldahlaaPFkx13
import Derived.Test.YtmlphabhldahlaaPFkx15
import Derived.Test.YtmlphabhldahlaaPFkx19
namespace Go.Proofs.Ytmlphabhldahlaa.PFk
open Go.RowKit Go.Proofs.YtmlphabhldahlaaW.PrintWords Go.Proofs.YtmlphabhldahlaaW.PrintLast Go.Proofs.YtmlphabhldahlaaW.PrintMore
attribute [local go_sem] max2_int min2_int max_two min_two max_three min_three max_four min_four   -- for this text's walks alone
set_option linter.unusedVariables false
set_option linter.unusedSimpArgs false

/-! ### rollbacknetlaw11_FrameCuts: function 8 -/
def rollbacknetlaw11_FrameCuts.l0 : Nat → List (List Int) → List Int → Int → Int → Int → Int → Int → Option (Bool)
 | 0, _, _, _, _, _, _, _ => none
 | k + 1, x5, x6, x7, x8, x9, x28, x29 => if x29 < x28 then (if 0 ≤ x29 then (if x29 < (x5.length : Int) then (if (wrap64 ((wrap64 (x9 + 8)) + ((rd_L2 x5 x29).length : Int))) > x7 then (if 0 ≤ x7 then (if x7 ≤ (x6.length : Int) then ((frame_Scan.f k (x6.take (x7 : Int).toNat)).bind fun bt326 => (if 0 ≤ (wrap64 (8 + (Int.tmod x7 40))) then (if (wrap64 (8 + (Int.tmod x7 40)) : Int).toNat ≤ 281474976710656 then ((frame_Next.f k (List.replicate (wrap64 (8 + (Int.tmod x7 40)) : Int).toNat 0) 0).bind fun bt333 => (if (bt326.1.length : Int) = x8 then (if bt326.2 = x9 then (some (bt333.2.2 == 10)) else (some false)) else (some false))) else (none)) else (none))) else (none)) else (none)) else (rollbacknetlaw11_FrameCuts.l0 k x5 x6 x7 (wrap64 (x8 + 1)) (wrap64 (x9 + (wrap64 (8 + ((rd_L2 x5 x29).length : Int))))) x28 (wrap64 (x29 + 1)))) else (none)) else (none)) else (if 0 ≤ x7 then (if x7 ≤ (x6.length : Int) then ((frame_Scan.f k (x6.take (x7 : Int).toNat)).bind fun bt343 => (if 0 ≤ (wrap64 (8 + (Int.tmod x7 40))) then (if (wrap64 (8 + (Int.tmod x7 40)) : Int).toNat ≤ 281474976710656 then ((frame_Next.f k (List.replicate (wrap64 (8 + (Int.tmod x7 40)) : Int).toNat 0) 0).bind fun bt350 => (if (bt343.1.length : Int) = x8 then (if bt343.2 = x9 then (some (bt350.2.2 == 10)) else (some false)) else (some false))) else (none)) else (none))) else (none)) else (none))
def rollbacknetlaw11_FrameCuts.f (k : Nat) (l0 : List Int) (a1 : Int) : Option (Bool) := (rollbacknetlaw11_awake.f k).bind fun t313 => (if t313 = true then ((rollbacknetlaw11_bodies.f k l0).bind fun t314 => ((rollbacknetlaw11_seal.f k t314).bind fun t317 => ((rollbacknetmake_Mod.f a1 (wrap64 ((t317.length : Int) + 1))).bind fun t320 => (rollbacknetlaw11_FrameCuts.l0 k t314 t317 t320 0 0 (t314.length : Int) 0)))) else (some false))
theorem rollbacknetlaw11_FrameCuts.mono_l : ∀ k, (∀ y0 y1 y2 y3 y4 y5 y6, LeO (rollbacknetlaw11_FrameCuts.l0 k y0 y1 y2 y3 y4 y5 y6) (rollbacknetlaw11_FrameCuts.l0 (k + 1) y0 y1 y2 y3 y4 y5 y6))
 | 0 => fun _ _ _ _ _ _ _ r h => by simp [rollbacknetlaw11_FrameCuts.l0] at h
 | k + 1 => by
  have ih0 := rollbacknetlaw11_FrameCuts.mono_l k
  ·intro y0 y1 y2 y3 y4 y5 y6
   unfold rollbacknetlaw11_FrameCuts.l0
   repeat' first
   | (with_reducible exact ih0 _ _ _ _ _ _ _)
   | (with_reducible exact frame_Next.mono _ _ _)
   | (with_reducible exact frame_Scan.mono _ _)
   | (with_reducible exact rollbacknetlaw11_awake.mono _)
   | (with_reducible exact rollbacknetlaw11_bodies.mono _ _)
   | (with_reducible exact rollbacknetlaw11_seal.mono _ _)
   | (with_reducible exact LeO.refl _)
   | (with_reducible exact LeO.none _)
   | (with_reducible refine LeO.ite ?_ ?_)
   | (with_reducible refine LeO.bind ?_ (fun _ => ?_))
   | exact ih0 _ _ _ _ _ _ _
   | exact frame_Next.mono _ _ _
   | exact frame_Scan.mono _ _
   | exact rollbacknetlaw11_awake.mono _
   | exact rollbacknetlaw11_bodies.mono _ _
   | exact rollbacknetlaw11_seal.mono _ _
   | exact LeO.none _
   | refine LeO.ite ?_ ?_
   | refine LeO.bind ?_ (fun _ => ?_)
theorem rollbacknetlaw11_FrameCuts.mono : ∀ a0 a1 k, LeO (rollbacknetlaw11_FrameCuts.f k a0 a1) (rollbacknetlaw11_FrameCuts.f (k + 1) a0 a1) := by
 intro a0 a1 k
 have ih0 := rollbacknetlaw11_FrameCuts.mono_l k
 unfold rollbacknetlaw11_FrameCuts.f
 repeat' first
   | (with_reducible exact ih0 _ _ _ _ _ _ _)
   | (with_reducible exact frame_Next.mono _ _ _)
   | (with_reducible exact frame_Scan.mono _ _)
   | (with_reducible exact rollbacknetlaw11_awake.mono _)
   | (with_reducible exact rollbacknetlaw11_bodies.mono _ _)
   | (with_reducible exact rollbacknetlaw11_seal.mono _ _)
   | (with_reducible exact LeO.refl _)
   | (with_reducible exact LeO.none _)
   | (with_reducible refine LeO.ite ?_ ?_)
   | (with_reducible refine LeO.bind ?_ (fun _ => ?_))
   | exact ih0 _ _ _ _ _ _ _
   | exact frame_Next.mono _ _ _
   | exact frame_Scan.mono _ _
   | exact rollbacknetlaw11_awake.mono _
   | exact rollbacknetlaw11_bodies.mono _ _
   | exact rollbacknetlaw11_seal.mono _ _
   | exact LeO.none _
   | refine LeO.ite ?_ ?_
   | refine LeO.bind ?_ (fun _ => ?_)
set_option maxHeartbeats 8000000 in
set_option maxRecDepth 100000 in
theorem rollbacknetlaw11_FrameCuts.calls (k : Nat) (A0 : Option Addr) (c0 : Nat) (l0 : List Int) (a1 : Int) (r : Bool) (w : World) (hr0 : Kd.C (Kd.int .u8) w A0 l0.length l0) (hc0 : l0.length ≤ c0) (h : rollbacknetlaw11_FrameCuts.f k l0 a1 = some r) :
  Calls Try.prog 8 #[.slice A0 l0.length c0, .int .i64 a1] w fun e w' => e = .returned (.bool r) ∧ Below w.heap.size w w' := by
 have HR0 := aM hr0
 have HC0 := aM hc0
 clear hr0 hc0
 have HB := aM (Below.refl w.heap.size w)
 have H : ((rollbacknetlaw11_awake.f k).bind fun t313 => (if t313 = true then ((rollbacknetlaw11_bodies.f k l0).bind fun t314 => ((rollbacknetlaw11_seal.f k t314).bind fun t317 => ((rollbacknetmake_Mod.f a1 (wrap64 ((t317.length : Int) + 1))).bind fun t320 => (rollbacknetlaw11_FrameCuts.l0 k t314 t317 t320 0 0 (t314.length : Int) 0)))) else (some false))) = some r := h
 clear h
 replace H := Option.bind_eq_some_iff.mp H
 obtain ⟨t313, A30, H⟩ := H
 replace H : (if t313 = true then ((rollbacknetlaw11_bodies.f k l0).bind fun t314 => ((rollbacknetlaw11_seal.f k t314).bind fun t317 => ((rollbacknetmake_Mod.f a1 (wrap64 ((t317.length : Int) + 1))).bind fun t320 => (rollbacknetlaw11_FrameCuts.l0 k t314 t317 t320 0 0 (t314.length : Int) 0)))) else (some false)) = some r := H
 have A3 := aM A30
 clear A30
 by_cases c4 : t313 = true
 ·subst c4
  have H1 : ((rollbacknetlaw11_bodies.f k l0).bind fun t314 => ((rollbacknetlaw11_seal.f k t314).bind fun t317 => ((rollbacknetmake_Mod.f a1 (wrap64 ((t317.length : Int) + 1))).bind fun t320 => (rollbacknetlaw11_FrameCuts.l0 k t314 t317 t320 0 0 (t314.length : Int) 0)))) = some r := by rw [if_pos rfl] at H; exact H
  clear H
  have H := H1
  clear H1
  replace H := Option.bind_eq_some_iff.mp H
  obtain ⟨t314, A50, H⟩ := H
  replace H : ((rollbacknetlaw11_seal.f k t314).bind fun t317 => ((rollbacknetmake_Mod.f a1 (wrap64 ((t317.length : Int) + 1))).bind fun t320 => (rollbacknetlaw11_FrameCuts.l0 k t314 t317 t320 0 0 (t314.length : Int) 0))) = some r := H
  have A5 := aM A50
  clear A50
  replace H := Option.bind_eq_some_iff.mp H
  obtain ⟨t317, A60, H⟩ := H
  replace H : ((rollbacknetmake_Mod.f a1 (wrap64 ((t317.length : Int) + 1))).bind fun t320 => (rollbacknetlaw11_FrameCuts.l0 k t314 t317 t320 0 0 (t314.length : Int) 0)) = some r := H
  have A6 := aM A60
  clear A60
  replace H := Option.bind_eq_some_iff.mp H
  obtain ⟨t320, A70, H⟩ := H
  replace H : (rollbacknetlaw11_FrameCuts.l0 k t314 t317 t320 0 0 (t314.length : Int) 0) = some r := H
  have A7 := aM A70
  clear A70
  have H' := aM H
  clear H
  go_enter Try.func8, Try.ntmps8
  go_wp2_with (first | ((with_reducible refine gate_callee (f := 9) rfl ?_); refine goesL_ (some 16) rfl rfl Try.func9 (by kernel_rfl) rfl #[] rfl (by (try simp only [List.map_toArray, List.map_cons, List.map_nil]); first | done | rfl | (simp only [List.length_drop, List.length_take]; rfl)) ?_; (with_reducible refine (rollbacknetlaw11_awake.calls k  true _ A3.out).mono ?_); rintro e w8 ⟨rfl, hb⟩; refine ⟨_, rfl, ?_⟩; have n0_ := aM (below_step (by repeat (first | (with_reducible first | exact HB.out | apply wA | apply wN | apply wD) | exact HB.out)) hb); clear HB; have HB := n0_; clear n0_; (try clear hb); (try clear hb2); (try clear hk); (try clear hi); (try clear hge_)) | ((with_reducible refine gate_callee (f := 14) rfl ?_); refine goesL_ (some 19) rfl rfl Try.func14 (by kernel_rfl) rfl #[.slice A0 l0.length c0] rfl (by (try simp only [List.map_toArray, List.map_cons, List.map_nil]); first | done | rfl | (simp only [List.length_drop, List.length_take]; rfl)) ?_; (with_reducible refine (rollbacknetlaw11_bodies.calls k _ _ l0 t314 _ ?side1 ?side2 A5.out).mono ?_); (case side1 => repeat (first | exact (Kd.C_below HR0.out HB.out) | (with_reducible refine Kd.C_alloc ?_ _) | (with_reducible refine Kd.C_drewN ?_ _) | (with_reducible refine Kd.C_drew ?_))); (case side2 => exact HC0.out); rintro e w9 ⟨v315, rfl, ho0, hb⟩; refine ⟨_, rfl, ?_⟩; have n0_ := aM (Kd.S_lower ho0 (below_size (by repeat (first | (with_reducible first | exact HB.out | apply wA | apply wN | apply wD) | exact HB.out)))); have n1_ := aM (below_step (by repeat (first | (with_reducible first | exact HB.out | apply wA | apply wN | apply wD) | exact HB.out)) hb); clear HB; have HO316 := n0_; have HB := n1_; clear n0_ n1_; (try clear hb); (try clear hb2); (try clear hk); (try clear hi); (try clear hge_); (try clear ho0); obtain ⟨Ao10, co10, eo10⟩ := Kd.S_slice HO316.out; subst eo10) | ((with_reducible refine gate_callee (f := 13) rfl ?_); refine goesL_ (some 21) rfl rfl Try.func13 (by kernel_rfl) rfl #[.slice Ao10 t314.length co10] rfl (by (try simp only [List.map_toArray, List.map_cons, List.map_nil]); first | done | rfl | (simp only [List.length_drop, List.length_take]; rfl)) ?_; (with_reducible refine (rollbacknetlaw11_seal.calls k _ _ t314 t317 _ ?side1 ?side2 A6.out).mono ?_); (case side1 => repeat (first | exact (Kd.S_reads' HO316.out).2.2 | (with_reducible refine Kd.C_alloc ?_ _) | (with_reducible refine Kd.C_drewN ?_ _) | (with_reducible refine Kd.C_drew ?_))); (case side2 => exact (Kd.S_reads' HO316.out).2.1); rintro e w11 ⟨v318, rfl, ho0, hb⟩; refine ⟨_, rfl, ?_⟩; have n0_ := aM (Kd.S_elder' (by (with_reducible repeat (first | apply Kd.S_alloc | apply Kd.S_drewN | apply Kd.S_drew)); exact HO316.out) (Kd.R_base ho0) hb); have n1_ := aM (Kd.R_lower ho0 (below_size (by repeat (first | (with_reducible first | exact HB.out | apply wA | apply wN | apply wD) | exact HB.out)))); have n2_ := aM (below_step (by repeat (first | (with_reducible first | exact HB.out | apply wA | apply wN | apply wD) | exact HB.out)) hb); clear HO316; clear HB; have HO316 := n0_; have HO319 := n1_; have HB := n2_; clear n0_ n1_ n2_; (try clear hb); (try clear hb2); (try clear hk); (try clear hi); (try clear hge_); (try clear ho0); obtain ⟨Ao12, co12, eo12⟩ := Kd.R_slice HO319.out; subst eo12) | ((with_reducible refine gate_callee (f := 16) rfl ?_); refine goesL_ (some 26) rfl rfl Try.func16 (by kernel_rfl) rfl #[.int .i64 a1, .int .i64 (wrap64 ((t317.length : Int) + 1))] rfl (by (try simp only [List.map_toArray, List.map_cons, List.map_nil]); first | done | rfl | (simp only [List.length_drop, List.length_take]; rfl)) ?_; (with_reducible refine (rollbacknetmake_Mod.calls a1 (wrap64 ((t317.length : Int) + 1)) t320 _ A7.out).mono ?_); rintro e w' ⟨rfl, ⟨nd, rfl⟩⟩; refine ⟨_, rfl, ?_⟩))
  go_loopg [8, 9, 29] k (fun kq v8 v9 v29 w' => ∃ (x8_1 : Int) (x9_1 : Int) (x29_1 : Int), v8 = .int .i64 x8_1 ∧ v9 = .int .i64 x9_1 ∧ v29 = .int .i64 x29_1 ∧ Aside0 (rollbacknetlaw11_FrameCuts.l0 kq t314 t317 t320 x8_1 x9_1 (t314.length : Int) x29_1 = some r) ∧ Aside0 (kq ≤ k) ∧ Aside0 (Kd.S (Kd.slice 5 (Kd.int .u8)) 22 w' w.heap.size (fun k_ => some k_ ≠ ((.slice Ao12 t317.length co12) : Value).ownBlock) (.slice Ao10 t314.length co10) t314) ∧ Aside0 (Kd.R (Kd.int .u8) 5 w' w.heap.size (fun _ => True) (.slice Ao12 t317.length co12) t317) ∧ Aside0 (Below w.heap.size w w'))
  case atStart => exact ⟨(0), (0), (0), (by first | rfl | (simp; done) | (simp [*]; done)), (by first | rfl | (simp; done) | (simp [*]; done)), (by first | rfl | (simp; done) | (simp [*]; done)), H', ⟨Nat.le_refl _⟩, ⟨by (with_reducible repeat (first | apply Kd.S_alloc | apply Kd.S_drewN | apply Kd.S_drew)); exact Kd.S_mono HO316.out (fun _ hk => hk.2)⟩, ⟨by (with_reducible repeat (first | apply Kd.R_alloc | apply Kd.R_drewN | apply Kd.R_drew)); exact HO319.out⟩, ⟨by repeat (first | (with_reducible first | exact HB.out | apply wA | apply wN | apply wD) | exact HB.out)⟩⟩
  case round =>
   clear H'
   try clear c1
   try clear p2
   try clear c4
   try clear p6
   try clear c8
   try clear c9
   obtain ⟨x8_1, x9_1, x29_1, rfl, rfl, rfl, HA, HK1, HO_5, HO_6, HB⟩ := hrel
   cases gk with
   | zero => exact absurd HA.out (by simp [rollbacknetlaw11_FrameCuts.l0])
   | succ k1 =>
    have H := HA.out
    clear HA
    simp only [rollbacknetlaw11_FrameCuts.l0] at H
    by_cases c13 : x29_1 < (t314.length : Int)
    ·rw [if_pos c13] at H
     have c13b0 : decide (x29_1 < (t314.length : Int)) = true := decide_eq_true c13
     clear c13
     by_cases c14 : 0 ≤ x29_1
     ·rw [if_pos c14] at H
      have c14b0 : decide (0 ≤ x29_1) = true := decide_eq_true c14
      clear c14
      by_cases c15 : x29_1 < (t314.length : Int)
      ·rw [if_pos c15] at H
       have c15b0 : decide (x29_1 < (t314.length : Int)) = true := decide_eq_true c15
       clear c15
       by_cases c16 : (wrap64 ((wrap64 (x9_1 + 8)) + ((rd_L2 t314 x29_1).length : Int))) > t320
       ·rw [if_pos c16] at H
        have c16b0 : decide (t320 < (wrap64 ((wrap64 (x9_1 + 8)) + ((rd_L2 t314 x29_1).length : Int)))) = true := decide_eq_true c16
        clear c16
        by_cases c17 : 0 ≤ t320
        ·rw [if_pos c17] at H
         have c17b0 := eq_true c17
         have c17b1 : decide (0 ≤ t320) = true := decide_eq_true c17
         clear c17
         by_cases c18 : t320 ≤ (t317.length : Int)
         ·rw [if_pos c18] at H
          have c18b0 := eq_true c18
          have c18b1 : decide (t320 ≤ (t317.length : Int)) = true := decide_eq_true c18
          clear c18
          obtain ⟨y322, hy322⟩ : ∃ y_ : List Int, y_ = (t317.take (t320 : Int).toNat) := ⟨_, rfl⟩
          replace H : ((frame_Scan.f k1 y322).bind fun bt326 => (if 0 ≤ (wrap64 (8 + (Int.tmod t320 40))) then (if (wrap64 (8 + (Int.tmod t320 40)) : Int).toNat ≤ 281474976710656 then ((frame_Next.f k1 (List.replicate (wrap64 (8 + (Int.tmod t320 40)) : Int).toNat 0) 0).bind fun bt333 => (if (bt326.1.length : Int) = x8_1 then (if bt326.2 = x9_1 then (some (bt333.2.2 == 10)) else (some false)) else (some false))) else (none)) else (none))) = some r := by first | (rw [hy322]; with_reducible exact H) | (have H2_ := (Option.bind_some _ _).symm.trans H; rw [hy322]; with_reducible exact H2_) | (have H2_ := (Option.bind_some _ _).symm.trans H; with_reducible exact H2_) | with_reducible exact H | (rw [hy322]; exact H) | exact H
          have Ny322 := aM hy322
          clear hy322
          replace H := Option.bind_eq_some_iff.mp H
          obtain ⟨⟨t326, t327⟩, A190, H⟩ := H
          replace H : (if 0 ≤ (wrap64 (8 + (Int.tmod t320 40))) then (if (wrap64 (8 + (Int.tmod t320 40)) : Int).toNat ≤ 281474976710656 then ((frame_Next.f k1 (List.replicate (wrap64 (8 + (Int.tmod t320 40)) : Int).toNat 0) 0).bind fun bt333 => (if (t326.length : Int) = x8_1 then (if t327 = x9_1 then (some (bt333.2.2 == 10)) else (some false)) else (some false))) else (none)) else (none)) = some r := H
          have A19 := aM A190
          clear A190
          obtain ⟨ji20, hji20⟩ : ∃ j_ : Int, (wrap64 (8 + (Int.tmod t320 40))) = j_ := ⟨_, rfl⟩
          replace H : (if 0 ≤ (ji20) then (if (ji20 : Int).toNat ≤ 281474976710656 then ((frame_Next.f k1 (List.replicate (ji20 : Int).toNat 0) 0).bind fun bt333 => (if (t326.length : Int) = x8_1 then (if t327 = x9_1 then (some (bt333.2.2 == 10)) else (some false)) else (some false))) else (none)) else (none)) = some r := by first | (rw [hji20] at H; exact H) | (simp only [hji20] at H ⊢; exact H)
          (try rw [hji20] at A19)
          have hji20w : (IntKind.i64.wrap (8 + (Int.tmod t320 40))) = ji20 := (i64_w _).trans hji20
          by_cases c21 : 0 ≤ (ji20)
          ·rw [if_pos c21] at H
           have c21b0 := eq_true c21
           have c21b1 : decide (0 ≤ (ji20)) = true := decide_eq_true c21
           clear c21
           by_cases c22 : (ji20 : Int).toNat ≤ 281474976710656
           ·rw [if_pos c22] at H
            have c22b0 := eq_true c22
            have c22b1 : decide ((ji20 : Int).toNat ≤ 281474976710656) = true := decide_eq_true c22
            clear c22
            obtain ⟨y330, hy330⟩ : ∃ y_ : List Int, y_ = (List.replicate (ji20 : Int).toNat 0) := ⟨_, rfl⟩
            replace H : ((frame_Next.f k1 y330 0).bind fun bt333 => (if (t326.length : Int) = x8_1 then (if t327 = x9_1 then (some (bt333.2.2 == 10)) else (some false)) else (some false))) = some r := by first | (rw [hy330]; with_reducible exact H) | (have H2_ := (Option.bind_some _ _).symm.trans H; rw [hy330]; with_reducible exact H2_) | (have H2_ := (Option.bind_some _ _).symm.trans H; with_reducible exact H2_) | with_reducible exact H | (rw [hy330]; exact H) | exact H
            have Ny330 := aM hy330
            clear hy330
            replace H := Option.bind_eq_some_iff.mp H
            obtain ⟨⟨t333, t334, t335⟩, A230, H⟩ := H
            replace H : (if (t326.length : Int) = x8_1 then (if t327 = x9_1 then (some (t335 == 10)) else (some false)) else (some false)) = some r := H
            have A23 := aM A230
            clear A230
            by_cases c24 : (t326.length : Int) = x8_1
            ·rw [if_pos c24] at H
             have c24b0 : ((t326.length : Int) == x8_1) = true := beq_iff_eq.mpr c24
             have c24b1 : ((t326.length : Int) != x8_1) = false := bne_eq_false_iff_eq.mpr c24
             clear c24
             by_cases c25 : t327 = x9_1
             ·rw [if_pos c25] at H
              have c25b0 : (t327 == x9_1) = true := beq_iff_eq.mpr c25
              have c25b1 : (t327 != x9_1) = false := bne_eq_false_iff_eq.mpr c25
              clear c25
              obtain rfl := Option.some.inj H
              have p321 : 0 ≤ (x29_1 : Int) := of_decide_eq_true (by first | (with_reducible assumption) | assumption)
              have q321 : x29_1 < (t314.length : Int) := of_decide_eq_true (by first | (with_reducible assumption) | assumption)
              obtain ⟨ad321, A321_0, c321_0, e321, hx321_0, hl321_0, hi321_0⟩ := at_L2 (Kd.S_reads' HO_5.out).2.2 x29_1 p321 q321
              cases e321
              obtain ⟨ce321, hce321, hMe321, hcc321⟩ := Kd.S_get HO_5.out [] x29_1 p321 (by first | exact q321 | exact of_decide_eq_true (by first | (with_reducible assumption) | assumption) | (have e_ := (Kd.S_reads' HO_5.out).1; omega))
              obtain ⟨ve321_0, rfl, ge321_0⟩ := hMe321
              have hv321_0 := hcc321 0 _ rfl
              rw [Nat.add_zero, show ((Kd.slice 5 (Kd.int .u8))).sz = 1 from rfl, Nat.mul_one] at hv321_0
              replace hv321_0 := Option.some.inj (hv321_0.symm.trans hx321_0)
              rw [hv321_0] at ge321_0
              have HL321_0 := aM (show Kd.R (Kd.int .u8) 5 _ _ _ _ (rd_L2 t314 x29_1) from ge321_0)
              clear hv321_0 ge321_0
              clear hcc321 hce321
              have HR321_0 := aM hi321_0
              have HC321_0 := aM hl321_0
              clear hi321_0 hl321_0
              replace p321 := eq_true p321
              replace q321 := eq_true q321
              have q26 : (t320 : Int) ≤ ((t317.length : Int) : Int) := of_decide_eq_true (by first | (with_reducible assumption) | assumption)
              obtain ⟨i026, hi026, _, hsz26, _⟩ := info_parts info5
              have hroom26 : t317.length ≤ co12 := (Kd.R_reads' HO_6.out).2.1
              have hC26 : Kd.C (Kd.int .u8) _ Ao12 t317.length t317 := (Kd.R_reads' HO_6.out).2.2
              have hcut26 := cut_to (P := Try.prog) 22 5 .i64 Try.underlying22 hi026 Ao12 t317.length co12 t320 (of_decide_eq_true (by first | (with_reducible assumption) | assumption)) q26 hroom26
              have hr26 := Kd.C_take (m := (t320 : Int).toNat) hC26 (by omega)
              have hy26 : y322.length = (t320 : Int).toNat := (by rw [Ny322.out, List.length_take]; omega)
              rw [← Ny322.out] at hr26
              rw [← hy26] at hcut26
              have HR325 := aM hr26
              have HC325 := aM (show y322.length ≤ co12 from by omega)
              clear hr26 hC26 hroom26 hi026 hsz26
              have KY26 := aM hy26
              clear hy26
              have KL26 := aM (show (t320 : Int).toNat ≤ t317.length from by omega)
              replace q26 := eq_true q26
              go_wp2_with (first | ((with_reducible refine gate_callee (f := 18) rfl ?_); refine goesL_ (some 57) rfl rfl Try.func18 (by kernel_rfl) rfl #[.slice Ao12 y322.length co12] rfl (by (try simp only [List.map_toArray, List.map_cons, List.map_nil]); first | done | rfl | (simp only [List.length_drop, List.length_take]; rfl)) ?_; (with_reducible refine (frame_Scan.calls k1 _ _ y322 t326 t327 _ ?side1 ?side2 A19.out).mono ?_); (case side1 => repeat (first | exact (by repeat (first | (with_reducible exact HR325.out) | (with_reducible refine Kd.C_alloc ?_ _) | (with_reducible refine Kd.C_drewN ?_ _) | (with_reducible refine Kd.C_drew ?_) | exact HR325.out)) | (with_reducible refine Kd.C_alloc ?_ _) | (with_reducible refine Kd.C_drewN ?_ _) | (with_reducible refine Kd.C_drew ?_))); (case side2 => exact HC325.out); rintro e w27 ⟨v328, rfl, ho0, hb⟩; refine ⟨_, rfl, ?_⟩; have n0_ := aM (Kd.S_elder' (by (with_reducible repeat (first | apply Kd.S_alloc | apply Kd.S_drewN | apply Kd.S_drew)); exact HO_5.out) (Kd.S_base ho0) hb); have n1_ := aM (Kd.R_below (by (with_reducible repeat (first | apply Kd.R_alloc | apply Kd.R_drewN | apply Kd.R_drew)); exact HO_6.out) hb); have n2_ := aM (Kd.R_below (by (with_reducible repeat (first | apply Kd.R_alloc | apply Kd.R_drewN | apply Kd.R_drew)); exact HL321_0.out) hb); have n3_ := aM (Kd.S_lower (Kd.S_new' (Kd.S_new' (Kd.S_new' ho0 (Kd.S_lt (by (with_reducible repeat (first | apply Kd.S_alloc | apply Kd.S_drewN | apply Kd.S_drew)); exact HO_5.out))) (Kd.R_lt (by (with_reducible repeat (first | apply Kd.R_alloc | apply Kd.R_drewN | apply Kd.R_drew)); exact HO_6.out))) (Kd.R_lt (by (with_reducible repeat (first | apply Kd.R_alloc | apply Kd.R_drewN | apply Kd.R_drew)); exact HL321_0.out))) (below_size (by repeat (first | (with_reducible first | exact HB.out | apply wA | apply wN | apply wD) | exact HB.out)))); have n4_ := aM (Kd.C_below (by repeat (first | (with_reducible exact HR321_0.out) | (with_reducible refine Kd.C_alloc ?_ _) | (with_reducible refine Kd.C_drewN ?_ _) | (with_reducible refine Kd.C_drew ?_) | exact HR321_0.out)) hb); have n5_ := aM (Kd.C_below (by repeat (first | (with_reducible exact HR325.out) | (with_reducible refine Kd.C_alloc ?_ _) | (with_reducible refine Kd.C_drewN ?_ _) | (with_reducible refine Kd.C_drew ?_) | exact HR325.out)) hb); have n6_ := aM (below_step (by repeat (first | (with_reducible first | exact HB.out | apply wA | apply wN | apply wD) | exact HB.out)) hb); clear HO_5; clear HO_6; clear HL321_0; clear HR321_0; clear HR325; clear HB; have HO_5 := n0_; have HO_6 := n1_; have HL321_0 := n2_; have HO329 := n3_; have HR321_0 := n4_; have HR325 := n5_; have HB := n6_; clear n0_ n1_ n2_ n3_ n4_ n5_ n6_; (try clear hb); (try clear hb2); (try clear hk); (try clear hi); (try clear hge_); (try clear ho0)) | ((with_reducible refine gate_dst (N := 64) rfl ?_); refine Kd.R_make (Kd.int .u8) _ 5 rfl (N := 64) rfl 22 _ _ rfl ji20 rfl rfl Try.underlying22 (.int .u8 0) 1 info5 rfl (by decide) (by omega) 0 (ok := fun _ => True) (okp := fun _ => True) rfl (fun _ hk => hk) trivial (of_decide_eq_true (by first | (with_reducible assumption) | assumption)) (Nat.le_trans (Nat.mul_le_mul_right _ (of_decide_eq_true (by first | (with_reducible assumption) | assumption) : ji20.toNat ≤ 281474976710656)) (by omega)) (Below.refl _ _) (Nat.le_refl _) ?_; intro v331 w28 ho29 hb hg_ hnew_; clear hg_ hnew_; (first | rw [← Ny330.out] at ho29 | (simp only [Int.reduceToNat] at ho29; rw [← Ny330.out] at ho29)); have n0_ := aM (Kd.S_elder' (by (with_reducible repeat (first | apply Kd.S_alloc | apply Kd.S_drewN | apply Kd.S_drew)); exact HO_5.out) (Kd.R_base ho29) hb); have n1_ := aM (Kd.R_elder' (by (with_reducible repeat (first | apply Kd.R_alloc | apply Kd.R_drewN | apply Kd.R_drew)); exact HO_6.out) (Kd.R_base ho29) hb); have n2_ := aM (Kd.R_elder' (by (with_reducible repeat (first | apply Kd.R_alloc | apply Kd.R_drewN | apply Kd.R_drew)); exact HL321_0.out) (Kd.R_base ho29) hb); have n3_ := aM (Kd.S_elder' (by (with_reducible repeat (first | apply Kd.S_alloc | apply Kd.S_drewN | apply Kd.S_drew)); exact HO329.out) (Kd.R_base ho29) hb); have n4_ := aM (Kd.R_lower (Kd.R_new' (Kd.R_new' ho29 (Kd.R_lt (by (with_reducible repeat (first | apply Kd.R_alloc | apply Kd.R_drewN | apply Kd.R_drew)); exact HO_6.out))) (Kd.R_lt (by (with_reducible repeat (first | apply Kd.R_alloc | apply Kd.R_drewN | apply Kd.R_drew)); exact HL321_0.out))) (below_size (by repeat (first | (with_reducible first | exact HB.out | apply wA | apply wN | apply wD) | exact HB.out)))); have n5_ := aM (Kd.C_below (by repeat (first | (with_reducible exact HR321_0.out) | (with_reducible refine Kd.C_alloc ?_ _) | (with_reducible refine Kd.C_drewN ?_ _) | (with_reducible refine Kd.C_drew ?_) | exact HR321_0.out)) hb); have n6_ := aM (Kd.C_below (by repeat (first | (with_reducible exact HR325.out) | (with_reducible refine Kd.C_alloc ?_ _) | (with_reducible refine Kd.C_drewN ?_ _) | (with_reducible refine Kd.C_drew ?_) | exact HR325.out)) hb); have n7_ := aM (below_step (by repeat (first | (with_reducible first | exact HB.out | apply wA | apply wN | apply wD) | exact HB.out)) hb); clear HO_5; clear HO_6; clear HL321_0; clear HO329; clear HR321_0; clear HR325; clear HB; have HO_5 := n0_; have HO_6 := n1_; have HL321_0 := n2_; have HO329 := n3_; have HO332 := n4_; have HR321_0 := n5_; have HR325 := n6_; have HB := n7_; clear n0_ n1_ n2_ n3_ n4_ n5_ n6_ n7_; clear hb ho29; obtain ⟨Ao30, co30, eo30⟩ := Kd.R_slice HO332.out; subst eo30) | ((with_reducible refine gate_callee (f := 17) rfl ?_); refine goesL_ (some 65) rfl rfl Try.func17 (by kernel_rfl) rfl #[.slice Ao30 y330.length co30, .int .i64 0] rfl (by (try simp only [List.map_toArray, List.map_cons, List.map_nil]); first | done | rfl | (simp only [List.length_drop, List.length_take]; rfl)) ?_; (with_reducible refine (frame_Next.calls k1 _ _ y330 0 t333 t334 t335 _ ?side1 ?side2 A23.out).mono ?_); (case side1 => repeat (first | exact (Kd.R_reads' HO332.out).2.2 | (with_reducible refine Kd.C_alloc ?_ _) | (with_reducible refine Kd.C_drewN ?_ _) | (with_reducible refine Kd.C_drew ?_))); (case side2 => exact (Kd.R_reads' HO332.out).2.1); rintro e w31 ⟨v336, rfl, ho0, hb⟩; refine ⟨_, rfl, ?_⟩; have n0_ := aM (Kd.S_elder' (by (with_reducible repeat (first | apply Kd.S_alloc | apply Kd.S_drewN | apply Kd.S_drew)); exact HO_5.out) (Kd.R_base ho0) hb); have n1_ := aM (Kd.R_elder' (by (with_reducible repeat (first | apply Kd.R_alloc | apply Kd.R_drewN | apply Kd.R_drew)); exact HO_6.out) (Kd.R_base ho0) hb); have n2_ := aM (Kd.R_elder' (by (with_reducible repeat (first | apply Kd.R_alloc | apply Kd.R_drewN | apply Kd.R_drew)); exact HL321_0.out) (Kd.R_base ho0) hb); have n3_ := aM (Kd.S_elder' (by (with_reducible repeat (first | apply Kd.S_alloc | apply Kd.S_drewN | apply Kd.S_drew)); exact HO329.out) (Kd.R_base ho0) hb); have n4_ := aM (Kd.R_elder' (by (with_reducible repeat (first | apply Kd.R_alloc | apply Kd.R_drewN | apply Kd.R_drew)); exact HO332.out) (Kd.R_base ho0) hb); have n5_ := aM (Kd.R_lower (Kd.R_new' (Kd.R_new' (Kd.R_new' ho0 (Kd.R_lt (by (with_reducible repeat (first | apply Kd.R_alloc | apply Kd.R_drewN | apply Kd.R_drew)); exact HO_6.out))) (Kd.R_lt (by (with_reducible repeat (first | apply Kd.R_alloc | apply Kd.R_drewN | apply Kd.R_drew)); exact HL321_0.out))) (Kd.R_lt (by (with_reducible repeat (first | apply Kd.R_alloc | apply Kd.R_drewN | apply Kd.R_drew)); exact HO332.out))) (below_size (by repeat (first | (with_reducible first | exact HB.out | apply wA | apply wN | apply wD) | exact HB.out)))); have n6_ := aM (Kd.C_below (by repeat (first | (with_reducible exact HR321_0.out) | (with_reducible refine Kd.C_alloc ?_ _) | (with_reducible refine Kd.C_drewN ?_ _) | (with_reducible refine Kd.C_drew ?_) | exact HR321_0.out)) hb); have n7_ := aM (Kd.C_below (by repeat (first | (with_reducible exact HR325.out) | (with_reducible refine Kd.C_alloc ?_ _) | (with_reducible refine Kd.C_drewN ?_ _) | (with_reducible refine Kd.C_drew ?_) | exact HR325.out)) hb); have n8_ := aM (below_step (by repeat (first | (with_reducible first | exact HB.out | apply wA | apply wN | apply wD) | exact HB.out)) hb); clear HO_5; clear HO_6; clear HL321_0; clear HO329; clear HO332; clear HR321_0; clear HR325; clear HB; have HO_5 := n0_; have HO_6 := n1_; have HL321_0 := n2_; have HO329 := n3_; have HO332 := n4_; have HO337 := n5_; have HR321_0 := n6_; have HR325 := n7_; have HB := n8_; clear n0_ n1_ n2_ n3_ n4_ n5_ n6_ n7_ n8_; (try clear hb); (try clear hb2); (try clear hk); (try clear hi); (try clear hge_); (try clear ho0); obtain ⟨Ao32, co32, eo32⟩ := Kd.S_slice HO329.out; subst eo32))
              go_ret
              exact ⟨by first | rfl | (simp [errW_none, errW_some] <;> rfl) | (simp only [← hji20]; first | rfl | (simp [errW_none, errW_some] <;> rfl)) | (simp [*, errW_none, errW_some] <;> rfl), by repeat (first | (with_reducible first | exact HB.out | apply wA | apply wN | apply wD) | exact HB.out)⟩
             ·rw [if_neg c25] at H
              have c25b0 : (t327 == x9_1) = false := beq_eq_false_iff_ne.mpr c25
              have c25b1 : (t327 != x9_1) = true := bne_iff_ne.mpr c25
              obtain rfl := Option.some.inj H
              have p321 : 0 ≤ (x29_1 : Int) := of_decide_eq_true (by first | (with_reducible assumption) | assumption)
              have q321 : x29_1 < (t314.length : Int) := of_decide_eq_true (by first | (with_reducible assumption) | assumption)
              obtain ⟨ad321, A321_0, c321_0, e321, hx321_0, hl321_0, hi321_0⟩ := at_L2 (Kd.S_reads' HO_5.out).2.2 x29_1 p321 q321
              cases e321
              obtain ⟨ce321, hce321, hMe321, hcc321⟩ := Kd.S_get HO_5.out [] x29_1 p321 (by first | exact q321 | exact of_decide_eq_true (by first | (with_reducible assumption) | assumption) | (have e_ := (Kd.S_reads' HO_5.out).1; omega))
              obtain ⟨ve321_0, rfl, ge321_0⟩ := hMe321
              have hv321_0 := hcc321 0 _ rfl
              rw [Nat.add_zero, show ((Kd.slice 5 (Kd.int .u8))).sz = 1 from rfl, Nat.mul_one] at hv321_0
              replace hv321_0 := Option.some.inj (hv321_0.symm.trans hx321_0)
              rw [hv321_0] at ge321_0
              have HL321_0 := aM (show Kd.R (Kd.int .u8) 5 _ _ _ _ (rd_L2 t314 x29_1) from ge321_0)
              clear hv321_0 ge321_0
              clear hcc321 hce321
              have HR321_0 := aM hi321_0
              have HC321_0 := aM hl321_0
              clear hi321_0 hl321_0
              replace p321 := eq_true p321
              replace q321 := eq_true q321
              have q33 : (t320 : Int) ≤ ((t317.length : Int) : Int) := of_decide_eq_true (by first | (with_reducible assumption) | assumption)
              obtain ⟨i033, hi033, _, hsz33, _⟩ := info_parts info5
              have hroom33 : t317.length ≤ co12 := (Kd.R_reads' HO_6.out).2.1
              have hC33 : Kd.C (Kd.int .u8) _ Ao12 t317.length t317 := (Kd.R_reads' HO_6.out).2.2
              have hcut33 := cut_to (P := Try.prog) 22 5 .i64 Try.underlying22 hi033 Ao12 t317.length co12 t320 (of_decide_eq_true (by first | (with_reducible assumption) | assumption)) q33 hroom33
              have hr33 := Kd.C_take (m := (t320 : Int).toNat) hC33 (by omega)
              have hy33 : y322.length = (t320 : Int).toNat := (by rw [Ny322.out, List.length_take]; omega)
              rw [← Ny322.out] at hr33
              rw [← hy33] at hcut33
              have HR325 := aM hr33
              have HC325 := aM (show y322.length ≤ co12 from by omega)
              clear hr33 hC33 hroom33 hi033 hsz33
              have KY33 := aM hy33
              clear hy33
              have KL33 := aM (show (t320 : Int).toNat ≤ t317.length from by omega)
              replace q33 := eq_true q33
              go_wp2_with (first | ((with_reducible refine gate_callee (f := 18) rfl ?_); refine goesL_ (some 57) rfl rfl Try.func18 (by kernel_rfl) rfl #[.slice Ao12 y322.length co12] rfl (by (try simp only [List.map_toArray, List.map_cons, List.map_nil]); first | done | rfl | (simp only [List.length_drop, List.length_take]; rfl)) ?_; (with_reducible refine (frame_Scan.calls k1 _ _ y322 t326 t327 _ ?side1 ?side2 A19.out).mono ?_); (case side1 => repeat (first | exact (by repeat (first | (with_reducible exact HR325.out) | (with_reducible refine Kd.C_alloc ?_ _) | (with_reducible refine Kd.C_drewN ?_ _) | (with_reducible refine Kd.C_drew ?_) | exact HR325.out)) | (with_reducible refine Kd.C_alloc ?_ _) | (with_reducible refine Kd.C_drewN ?_ _) | (with_reducible refine Kd.C_drew ?_))); (case side2 => exact HC325.out); rintro e w34 ⟨v328, rfl, ho0, hb⟩; refine ⟨_, rfl, ?_⟩; have n0_ := aM (Kd.S_elder' (by (with_reducible repeat (first | apply Kd.S_alloc | apply Kd.S_drewN | apply Kd.S_drew)); exact HO_5.out) (Kd.S_base ho0) hb); have n1_ := aM (Kd.R_below (by (with_reducible repeat (first | apply Kd.R_alloc | apply Kd.R_drewN | apply Kd.R_drew)); exact HO_6.out) hb); have n2_ := aM (Kd.R_below (by (with_reducible repeat (first | apply Kd.R_alloc | apply Kd.R_drewN | apply Kd.R_drew)); exact HL321_0.out) hb); have n3_ := aM (Kd.S_lower (Kd.S_new' (Kd.S_new' (Kd.S_new' ho0 (Kd.S_lt (by (with_reducible repeat (first | apply Kd.S_alloc | apply Kd.S_drewN | apply Kd.S_drew)); exact HO_5.out))) (Kd.R_lt (by (with_reducible repeat (first | apply Kd.R_alloc | apply Kd.R_drewN | apply Kd.R_drew)); exact HO_6.out))) (Kd.R_lt (by (with_reducible repeat (first | apply Kd.R_alloc | apply Kd.R_drewN | apply Kd.R_drew)); exact HL321_0.out))) (below_size (by repeat (first | (with_reducible first | exact HB.out | apply wA | apply wN | apply wD) | exact HB.out)))); have n4_ := aM (Kd.C_below (by repeat (first | (with_reducible exact HR321_0.out) | (with_reducible refine Kd.C_alloc ?_ _) | (with_reducible refine Kd.C_drewN ?_ _) | (with_reducible refine Kd.C_drew ?_) | exact HR321_0.out)) hb); have n5_ := aM (Kd.C_below (by repeat (first | (with_reducible exact HR325.out) | (with_reducible refine Kd.C_alloc ?_ _) | (with_reducible refine Kd.C_drewN ?_ _) | (with_reducible refine Kd.C_drew ?_) | exact HR325.out)) hb); have n6_ := aM (below_step (by repeat (first | (with_reducible first | exact HB.out | apply wA | apply wN | apply wD) | exact HB.out)) hb); clear HO_5; clear HO_6; clear HL321_0; clear HR321_0; clear HR325; clear HB; have HO_5 := n0_; have HO_6 := n1_; have HL321_0 := n2_; have HO329 := n3_; have HR321_0 := n4_; have HR325 := n5_; have HB := n6_; clear n0_ n1_ n2_ n3_ n4_ n5_ n6_; (try clear hb); (try clear hb2); (try clear hk); (try clear hi); (try clear hge_); (try clear ho0)) | ((with_reducible refine gate_dst (N := 64) rfl ?_); refine Kd.R_make (Kd.int .u8) _ 5 rfl (N := 64) rfl 22 _ _ rfl ji20 rfl rfl Try.underlying22 (.int .u8 0) 1 info5 rfl (by decide) (by omega) 0 (ok := fun _ => True) (okp := fun _ => True) rfl (fun _ hk => hk) trivial (of_decide_eq_true (by first | (with_reducible assumption) | assumption)) (Nat.le_trans (Nat.mul_le_mul_right _ (of_decide_eq_true (by first | (with_reducible assumption) | assumption) : ji20.toNat ≤ 281474976710656)) (by omega)) (Below.refl _ _) (Nat.le_refl _) ?_; intro v331 w35 ho36 hb hg_ hnew_; clear hg_ hnew_; (first | rw [← Ny330.out] at ho36 | (simp only [Int.reduceToNat] at ho36; rw [← Ny330.out] at ho36)); have n0_ := aM (Kd.S_elder' (by (with_reducible repeat (first | apply Kd.S_alloc | apply Kd.S_drewN | apply Kd.S_drew)); exact HO_5.out) (Kd.R_base ho36) hb); have n1_ := aM (Kd.R_elder' (by (with_reducible repeat (first | apply Kd.R_alloc | apply Kd.R_drewN | apply Kd.R_drew)); exact HO_6.out) (Kd.R_base ho36) hb); have n2_ := aM (Kd.R_elder' (by (with_reducible repeat (first | apply Kd.R_alloc | apply Kd.R_drewN | apply Kd.R_drew)); exact HL321_0.out) (Kd.R_base ho36) hb); have n3_ := aM (Kd.S_elder' (by (with_reducible repeat (first | apply Kd.S_alloc | apply Kd.S_drewN | apply Kd.S_drew)); exact HO329.out) (Kd.R_base ho36) hb); have n4_ := aM (Kd.R_lower (Kd.R_new' (Kd.R_new' ho36 (Kd.R_lt (by (with_reducible repeat (first | apply Kd.R_alloc | apply Kd.R_drewN | apply Kd.R_drew)); exact HO_6.out))) (Kd.R_lt (by (with_reducible repeat (first | apply Kd.R_alloc | apply Kd.R_drewN | apply Kd.R_drew)); exact HL321_0.out))) (below_size (by repeat (first | (with_reducible first | exact HB.out | apply wA | apply wN | apply wD) | exact HB.out)))); have n5_ := aM (Kd.C_below (by repeat (first | (with_reducible exact HR321_0.out) | (with_reducible refine Kd.C_alloc ?_ _) | (with_reducible refine Kd.C_drewN ?_ _) | (with_reducible refine Kd.C_drew ?_) | exact HR321_0.out)) hb); have n6_ := aM (Kd.C_below (by repeat (first | (with_reducible exact HR325.out) | (with_reducible refine Kd.C_alloc ?_ _) | (with_reducible refine Kd.C_drewN ?_ _) | (with_reducible refine Kd.C_drew ?_) | exact HR325.out)) hb); have n7_ := aM (below_step (by repeat (first | (with_reducible first | exact HB.out | apply wA | apply wN | apply wD) | exact HB.out)) hb); clear HO_5; clear HO_6; clear HL321_0; clear HO329; clear HR321_0; clear HR325; clear HB; have HO_5 := n0_; have HO_6 := n1_; have HL321_0 := n2_; have HO329 := n3_; have HO332 := n4_; have HR321_0 := n5_; have HR325 := n6_; have HB := n7_; clear n0_ n1_ n2_ n3_ n4_ n5_ n6_ n7_; clear hb ho36; obtain ⟨Ao37, co37, eo37⟩ := Kd.R_slice HO332.out; subst eo37) | ((with_reducible refine gate_callee (f := 17) rfl ?_); refine goesL_ (some 65) rfl rfl Try.func17 (by kernel_rfl) rfl #[.slice Ao37 y330.length co37, .int .i64 0] rfl (by (try simp only [List.map_toArray, List.map_cons, List.map_nil]); first | done | rfl | (simp only [List.length_drop, List.length_take]; rfl)) ?_; (with_reducible refine (frame_Next.calls k1 _ _ y330 0 t333 t334 t335 _ ?side1 ?side2 A23.out).mono ?_); (case side1 => repeat (first | exact (Kd.R_reads' HO332.out).2.2 | (with_reducible refine Kd.C_alloc ?_ _) | (with_reducible refine Kd.C_drewN ?_ _) | (with_reducible refine Kd.C_drew ?_))); (case side2 => exact (Kd.R_reads' HO332.out).2.1); rintro e w38 ⟨v336, rfl, ho0, hb⟩; refine ⟨_, rfl, ?_⟩; have n0_ := aM (Kd.S_elder' (by (with_reducible repeat (first | apply Kd.S_alloc | apply Kd.S_drewN | apply Kd.S_drew)); exact HO_5.out) (Kd.R_base ho0) hb); have n1_ := aM (Kd.R_elder' (by (with_reducible repeat (first | apply Kd.R_alloc | apply Kd.R_drewN | apply Kd.R_drew)); exact HO_6.out) (Kd.R_base ho0) hb); have n2_ := aM (Kd.R_elder' (by (with_reducible repeat (first | apply Kd.R_alloc | apply Kd.R_drewN | apply Kd.R_drew)); exact HL321_0.out) (Kd.R_base ho0) hb); have n3_ := aM (Kd.S_elder' (by (with_reducible repeat (first | apply Kd.S_alloc | apply Kd.S_drewN | apply Kd.S_drew)); exact HO329.out) (Kd.R_base ho0) hb); have n4_ := aM (Kd.R_elder' (by (with_reducible repeat (first | apply Kd.R_alloc | apply Kd.R_drewN | apply Kd.R_drew)); exact HO332.out) (Kd.R_base ho0) hb); have n5_ := aM (Kd.R_lower (Kd.R_new' (Kd.R_new' (Kd.R_new' ho0 (Kd.R_lt (by (with_reducible repeat (first | apply Kd.R_alloc | apply Kd.R_drewN | apply Kd.R_drew)); exact HO_6.out))) (Kd.R_lt (by (with_reducible repeat (first | apply Kd.R_alloc | apply Kd.R_drewN | apply Kd.R_drew)); exact HL321_0.out))) (Kd.R_lt (by (with_reducible repeat (first | apply Kd.R_alloc | apply Kd.R_drewN | apply Kd.R_drew)); exact HO332.out))) (below_size (by repeat (first | (with_reducible first | exact HB.out | apply wA | apply wN | apply wD) | exact HB.out)))); have n6_ := aM (Kd.C_below (by repeat (first | (with_reducible exact HR321_0.out) | (with_reducible refine Kd.C_alloc ?_ _) | (with_reducible refine Kd.C_drewN ?_ _) | (with_reducible refine Kd.C_drew ?_) | exact HR321_0.out)) hb); have n7_ := aM (Kd.C_below (by repeat (first | (with_reducible exact HR325.out) | (with_reducible refine Kd.C_alloc ?_ _) | (with_reducible refine Kd.C_drewN ?_ _) | (with_reducible refine Kd.C_drew ?_) | exact HR325.out)) hb); have n8_ := aM (below_step (by repeat (first | (with_reducible first | exact HB.out | apply wA | apply wN | apply wD) | exact HB.out)) hb); clear HO_5; clear HO_6; clear HL321_0; clear HO329; clear HO332; clear HR321_0; clear HR325; clear HB; have HO_5 := n0_; have HO_6 := n1_; have HL321_0 := n2_; have HO329 := n3_; have HO332 := n4_; have HO337 := n5_; have HR321_0 := n6_; have HR325 := n7_; have HB := n8_; clear n0_ n1_ n2_ n3_ n4_ n5_ n6_ n7_ n8_; (try clear hb); (try clear hb2); (try clear hk); (try clear hi); (try clear hge_); (try clear ho0); obtain ⟨Ao39, co39, eo39⟩ := Kd.S_slice HO329.out; subst eo39))
              go_ret
              exact ⟨by first | rfl | (simp [errW_none, errW_some] <;> rfl) | (simp only [← hji20]; first | rfl | (simp [errW_none, errW_some] <;> rfl)) | (simp [*, errW_none, errW_some] <;> rfl), by repeat (first | (with_reducible first | exact HB.out | apply wA | apply wN | apply wD) | exact HB.out)⟩
            ·rw [if_neg c24] at H
             have c24b0 : ((t326.length : Int) == x8_1) = false := beq_eq_false_iff_ne.mpr c24
             have c24b1 : ((t326.length : Int) != x8_1) = true := bne_iff_ne.mpr c24
             obtain rfl := Option.some.inj H
             have p321 : 0 ≤ (x29_1 : Int) := of_decide_eq_true (by first | (with_reducible assumption) | assumption)
             have q321 : x29_1 < (t314.length : Int) := of_decide_eq_true (by first | (with_reducible assumption) | assumption)
             obtain ⟨ad321, A321_0, c321_0, e321, hx321_0, hl321_0, hi321_0⟩ := at_L2 (Kd.S_reads' HO_5.out).2.2 x29_1 p321 q321
             cases e321
             obtain ⟨ce321, hce321, hMe321, hcc321⟩ := Kd.S_get HO_5.out [] x29_1 p321 (by first | exact q321 | exact of_decide_eq_true (by first | (with_reducible assumption) | assumption) | (have e_ := (Kd.S_reads' HO_5.out).1; omega))
             obtain ⟨ve321_0, rfl, ge321_0⟩ := hMe321
             have hv321_0 := hcc321 0 _ rfl
             rw [Nat.add_zero, show ((Kd.slice 5 (Kd.int .u8))).sz = 1 from rfl, Nat.mul_one] at hv321_0
             replace hv321_0 := Option.some.inj (hv321_0.symm.trans hx321_0)
             rw [hv321_0] at ge321_0
             have HL321_0 := aM (show Kd.R (Kd.int .u8) 5 _ _ _ _ (rd_L2 t314 x29_1) from ge321_0)
             clear hv321_0 ge321_0
             clear hcc321 hce321
             have HR321_0 := aM hi321_0
             have HC321_0 := aM hl321_0
             clear hi321_0 hl321_0
             replace p321 := eq_true p321
             replace q321 := eq_true q321
             have q40 : (t320 : Int) ≤ ((t317.length : Int) : Int) := of_decide_eq_true (by first | (with_reducible assumption) | assumption)
             obtain ⟨i040, hi040, _, hsz40, _⟩ := info_parts info5
             have hroom40 : t317.length ≤ co12 := (Kd.R_reads' HO_6.out).2.1
             have hC40 : Kd.C (Kd.int .u8) _ Ao12 t317.length t317 := (Kd.R_reads' HO_6.out).2.2
             have hcut40 := cut_to (P := Try.prog) 22 5 .i64 Try.underlying22 hi040 Ao12 t317.length co12 t320 (of_decide_eq_true (by first | (with_reducible assumption) | assumption)) q40 hroom40
             have hr40 := Kd.C_take (m := (t320 : Int).toNat) hC40 (by omega)
             have hy40 : y322.length = (t320 : Int).toNat := (by rw [Ny322.out, List.length_take]; omega)
             rw [← Ny322.out] at hr40
             rw [← hy40] at hcut40
             have HR325 := aM hr40
             have HC325 := aM (show y322.length ≤ co12 from by omega)
             clear hr40 hC40 hroom40 hi040 hsz40
             have KY40 := aM hy40
             clear hy40
             have KL40 := aM (show (t320 : Int).toNat ≤ t317.length from by omega)
             replace q40 := eq_true q40
             go_wp2_with (first | ((with_reducible refine gate_callee (f := 18) rfl ?_); refine goesL_ (some 57) rfl rfl Try.func18 (by kernel_rfl) rfl #[.slice Ao12 y322.length co12] rfl (by (try simp only [List.map_toArray, List.map_cons, List.map_nil]); first | done | rfl | (simp only [List.length_drop, List.length_take]; rfl)) ?_; (with_reducible refine (frame_Scan.calls k1 _ _ y322 t326 t327 _ ?side1 ?side2 A19.out).mono ?_); (case side1 => repeat (first | exact (by repeat (first | (with_reducible exact HR325.out) | (with_reducible refine Kd.C_alloc ?_ _) | (with_reducible refine Kd.C_drewN ?_ _) | (with_reducible refine Kd.C_drew ?_) | exact HR325.out)) | (with_reducible refine Kd.C_alloc ?_ _) | (with_reducible refine Kd.C_drewN ?_ _) | (with_reducible refine Kd.C_drew ?_))); (case side2 => exact HC325.out); rintro e w41 ⟨v328, rfl, ho0, hb⟩; refine ⟨_, rfl, ?_⟩; have n0_ := aM (Kd.S_elder' (by (with_reducible repeat (first | apply Kd.S_alloc | apply Kd.S_drewN | apply Kd.S_drew)); exact HO_5.out) (Kd.S_base ho0) hb); have n1_ := aM (Kd.R_below (by (with_reducible repeat (first | apply Kd.R_alloc | apply Kd.R_drewN | apply Kd.R_drew)); exact HO_6.out) hb); have n2_ := aM (Kd.R_below (by (with_reducible repeat (first | apply Kd.R_alloc | apply Kd.R_drewN | apply Kd.R_drew)); exact HL321_0.out) hb); have n3_ := aM (Kd.S_lower (Kd.S_new' (Kd.S_new' (Kd.S_new' ho0 (Kd.S_lt (by (with_reducible repeat (first | apply Kd.S_alloc | apply Kd.S_drewN | apply Kd.S_drew)); exact HO_5.out))) (Kd.R_lt (by (with_reducible repeat (first | apply Kd.R_alloc | apply Kd.R_drewN | apply Kd.R_drew)); exact HO_6.out))) (Kd.R_lt (by (with_reducible repeat (first | apply Kd.R_alloc | apply Kd.R_drewN | apply Kd.R_drew)); exact HL321_0.out))) (below_size (by repeat (first | (with_reducible first | exact HB.out | apply wA | apply wN | apply wD) | exact HB.out)))); have n4_ := aM (Kd.C_below (by repeat (first | (with_reducible exact HR321_0.out) | (with_reducible refine Kd.C_alloc ?_ _) | (with_reducible refine Kd.C_drewN ?_ _) | (with_reducible refine Kd.C_drew ?_) | exact HR321_0.out)) hb); have n5_ := aM (Kd.C_below (by repeat (first | (with_reducible exact HR325.out) | (with_reducible refine Kd.C_alloc ?_ _) | (with_reducible refine Kd.C_drewN ?_ _) | (with_reducible refine Kd.C_drew ?_) | exact HR325.out)) hb); have n6_ := aM (below_step (by repeat (first | (with_reducible first | exact HB.out | apply wA | apply wN | apply wD) | exact HB.out)) hb); clear HO_5; clear HO_6; clear HL321_0; clear HR321_0; clear HR325; clear HB; have HO_5 := n0_; have HO_6 := n1_; have HL321_0 := n2_; have HO329 := n3_; have HR321_0 := n4_; have HR325 := n5_; have HB := n6_; clear n0_ n1_ n2_ n3_ n4_ n5_ n6_; (try clear hb); (try clear hb2); (try clear hk); (try clear hi); (try clear hge_); (try clear ho0)) | ((with_reducible refine gate_dst (N := 64) rfl ?_); refine Kd.R_make (Kd.int .u8) _ 5 rfl (N := 64) rfl 22 _ _ rfl ji20 rfl rfl Try.underlying22 (.int .u8 0) 1 info5 rfl (by decide) (by omega) 0 (ok := fun _ => True) (okp := fun _ => True) rfl (fun _ hk => hk) trivial (of_decide_eq_true (by first | (with_reducible assumption) | assumption)) (Nat.le_trans (Nat.mul_le_mul_right _ (of_decide_eq_true (by first | (with_reducible assumption) | assumption) : ji20.toNat ≤ 281474976710656)) (by omega)) (Below.refl _ _) (Nat.le_refl _) ?_; intro v331 w42 ho43 hb hg_ hnew_; clear hg_ hnew_; (first | rw [← Ny330.out] at ho43 | (simp only [Int.reduceToNat] at ho43; rw [← Ny330.out] at ho43)); have n0_ := aM (Kd.S_elder' (by (with_reducible repeat (first | apply Kd.S_alloc | apply Kd.S_drewN | apply Kd.S_drew)); exact HO_5.out) (Kd.R_base ho43) hb); have n1_ := aM (Kd.R_elder' (by (with_reducible repeat (first | apply Kd.R_alloc | apply Kd.R_drewN | apply Kd.R_drew)); exact HO_6.out) (Kd.R_base ho43) hb); have n2_ := aM (Kd.R_elder' (by (with_reducible repeat (first | apply Kd.R_alloc | apply Kd.R_drewN | apply Kd.R_drew)); exact HL321_0.out) (Kd.R_base ho43) hb); have n3_ := aM (Kd.S_elder' (by (with_reducible repeat (first | apply Kd.S_alloc | apply Kd.S_drewN | apply Kd.S_drew)); exact HO329.out) (Kd.R_base ho43) hb); have n4_ := aM (Kd.R_lower (Kd.R_new' (Kd.R_new' ho43 (Kd.R_lt (by (with_reducible repeat (first | apply Kd.R_alloc | apply Kd.R_drewN | apply Kd.R_drew)); exact HO_6.out))) (Kd.R_lt (by (with_reducible repeat (first | apply Kd.R_alloc | apply Kd.R_drewN | apply Kd.R_drew)); exact HL321_0.out))) (below_size (by repeat (first | (with_reducible first | exact HB.out | apply wA | apply wN | apply wD) | exact HB.out)))); have n5_ := aM (Kd.C_below (by repeat (first | (with_reducible exact HR321_0.out) | (with_reducible refine Kd.C_alloc ?_ _) | (with_reducible refine Kd.C_drewN ?_ _) | (with_reducible refine Kd.C_drew ?_) | exact HR321_0.out)) hb); have n6_ := aM (Kd.C_below (by repeat (first | (with_reducible exact HR325.out) | (with_reducible refine Kd.C_alloc ?_ _) | (with_reducible refine Kd.C_drewN ?_ _) | (with_reducible refine Kd.C_drew ?_) | exact HR325.out)) hb); have n7_ := aM (below_step (by repeat (first | (with_reducible first | exact HB.out | apply wA | apply wN | apply wD) | exact HB.out)) hb); clear HO_5; clear HO_6; clear HL321_0; clear HO329; clear HR321_0; clear HR325; clear HB; have HO_5 := n0_; have HO_6 := n1_; have HL321_0 := n2_; have HO329 := n3_; have HO332 := n4_; have HR321_0 := n5_; have HR325 := n6_; have HB := n7_; clear n0_ n1_ n2_ n3_ n4_ n5_ n6_ n7_; clear hb ho43; obtain ⟨Ao44, co44, eo44⟩ := Kd.R_slice HO332.out; subst eo44) | ((with_reducible refine gate_callee (f := 17) rfl ?_); refine goesL_ (some 65) rfl rfl Try.func17 (by kernel_rfl) rfl #[.slice Ao44 y330.length co44, .int .i64 0] rfl (by (try simp only [List.map_toArray, List.map_cons, List.map_nil]); first | done | rfl | (simp only [List.length_drop, List.length_take]; rfl)) ?_; (with_reducible refine (frame_Next.calls k1 _ _ y330 0 t333 t334 t335 _ ?side1 ?side2 A23.out).mono ?_); (case side1 => repeat (first | exact (Kd.R_reads' HO332.out).2.2 | (with_reducible refine Kd.C_alloc ?_ _) | (with_reducible refine Kd.C_drewN ?_ _) | (with_reducible refine Kd.C_drew ?_))); (case side2 => exact (Kd.R_reads' HO332.out).2.1); rintro e w45 ⟨v336, rfl, ho0, hb⟩; refine ⟨_, rfl, ?_⟩; have n0_ := aM (Kd.S_elder' (by (with_reducible repeat (first | apply Kd.S_alloc | apply Kd.S_drewN | apply Kd.S_drew)); exact HO_5.out) (Kd.R_base ho0) hb); have n1_ := aM (Kd.R_elder' (by (with_reducible repeat (first | apply Kd.R_alloc | apply Kd.R_drewN | apply Kd.R_drew)); exact HO_6.out) (Kd.R_base ho0) hb); have n2_ := aM (Kd.R_elder' (by (with_reducible repeat (first | apply Kd.R_alloc | apply Kd.R_drewN | apply Kd.R_drew)); exact HL321_0.out) (Kd.R_base ho0) hb); have n3_ := aM (Kd.S_elder' (by (with_reducible repeat (first | apply Kd.S_alloc | apply Kd.S_drewN | apply Kd.S_drew)); exact HO329.out) (Kd.R_base ho0) hb); have n4_ := aM (Kd.R_elder' (by (with_reducible repeat (first | apply Kd.R_alloc | apply Kd.R_drewN | apply Kd.R_drew)); exact HO332.out) (Kd.R_base ho0) hb); have n5_ := aM (Kd.R_lower (Kd.R_new' (Kd.R_new' (Kd.R_new' ho0 (Kd.R_lt (by (with_reducible repeat (first | apply Kd.R_alloc | apply Kd.R_drewN | apply Kd.R_drew)); exact HO_6.out))) (Kd.R_lt (by (with_reducible repeat (first | apply Kd.R_alloc | apply Kd.R_drewN | apply Kd.R_drew)); exact HL321_0.out))) (Kd.R_lt (by (with_reducible repeat (first | apply Kd.R_alloc | apply Kd.R_drewN | apply Kd.R_drew)); exact HO332.out))) (below_size (by repeat (first | (with_reducible first | exact HB.out | apply wA | apply wN | apply wD) | exact HB.out)))); have n6_ := aM (Kd.C_below (by repeat (first | (with_reducible exact HR321_0.out) | (with_reducible refine Kd.C_alloc ?_ _) | (with_reducible refine Kd.C_drewN ?_ _) | (with_reducible refine Kd.C_drew ?_) | exact HR321_0.out)) hb); have n7_ := aM (Kd.C_below (by repeat (first | (with_reducible exact HR325.out) | (with_reducible refine Kd.C_alloc ?_ _) | (with_reducible refine Kd.C_drewN ?_ _) | (with_reducible refine Kd.C_drew ?_) | exact HR325.out)) hb); have n8_ := aM (below_step (by repeat (first | (with_reducible first | exact HB.out | apply wA | apply wN | apply wD) | exact HB.out)) hb); clear HO_5; clear HO_6; clear HL321_0; clear HO329; clear HO332; clear HR321_0; clear HR325; clear HB; have HO_5 := n0_; have HO_6 := n1_; have HL321_0 := n2_; have HO329 := n3_; have HO332 := n4_; have HO337 := n5_; have HR321_0 := n6_; have HR325 := n7_; have HB := n8_; clear n0_ n1_ n2_ n3_ n4_ n5_ n6_ n7_ n8_; (try clear hb); (try clear hb2); (try clear hk); (try clear hi); (try clear hge_); (try clear ho0); obtain ⟨Ao46, co46, eo46⟩ := Kd.S_slice HO329.out; subst eo46))
             go_ret
             exact ⟨by first | rfl | (simp [errW_none, errW_some] <;> rfl) | (simp only [← hji20]; first | rfl | (simp [errW_none, errW_some] <;> rfl)) | (simp [*, errW_none, errW_some] <;> rfl), by repeat (first | (with_reducible first | exact HB.out | apply wA | apply wN | apply wD) | exact HB.out)⟩
           ·rw [if_neg c22] at H
            exact absurd H (by simp)
          ·rw [if_neg c21] at H
           exact absurd H (by simp)
         ·rw [if_neg c18] at H
          exact absurd H (by simp)
        ·rw [if_neg c17] at H
         exact absurd H (by simp)
       ·rw [if_neg c16] at H
        have c16b0 : decide (t320 < (wrap64 ((wrap64 (x9_1 + 8)) + ((rd_L2 t314 x29_1).length : Int)))) = false := decide_eq_false c16
        clear c16
        have H' := aM H
        clear H
        have p321 : 0 ≤ (x29_1 : Int) := of_decide_eq_true (by first | (with_reducible assumption) | assumption)
        have q321 : x29_1 < (t314.length : Int) := of_decide_eq_true (by first | (with_reducible assumption) | assumption)
        obtain ⟨ad321, A321_0, c321_0, e321, hx321_0, hl321_0, hi321_0⟩ := at_L2 (Kd.S_reads' HO_5.out).2.2 x29_1 p321 q321
        cases e321
        obtain ⟨ce321, hce321, hMe321, hcc321⟩ := Kd.S_get HO_5.out [] x29_1 p321 (by first | exact q321 | exact of_decide_eq_true (by first | (with_reducible assumption) | assumption) | (have e_ := (Kd.S_reads' HO_5.out).1; omega))
        obtain ⟨ve321_0, rfl, ge321_0⟩ := hMe321
        have hv321_0 := hcc321 0 _ rfl
        rw [Nat.add_zero, show ((Kd.slice 5 (Kd.int .u8))).sz = 1 from rfl, Nat.mul_one] at hv321_0
        replace hv321_0 := Option.some.inj (hv321_0.symm.trans hx321_0)
        rw [hv321_0] at ge321_0
        have HL321_0 := aM (show Kd.R (Kd.int .u8) 5 _ _ _ _ (rd_L2 t314 x29_1) from ge321_0)
        clear hv321_0 ge321_0
        clear hcc321 hce321
        have HR321_0 := aM hi321_0
        have HC321_0 := aM hl321_0
        clear hi321_0 hl321_0
        replace p321 := eq_true p321
        replace q321 := eq_true q321
        have p338 : 0 ≤ (x29_1 : Int) := of_decide_eq_true (by first | (with_reducible assumption) | assumption)
        have q338 : x29_1 < (t314.length : Int) := of_decide_eq_true (by first | (with_reducible assumption) | assumption)
        obtain ⟨ad338, A338_0, c338_0, e338, hx338_0, hl338_0, hi338_0⟩ := at_L2 (Kd.S_reads' HO_5.out).2.2 x29_1 p338 q338
        obtain rfl : ad321 = ad338 := (by injection e338)
        obtain ⟨ce338, hce338, hMe338, hcc338⟩ := Kd.S_get HO_5.out [] x29_1 p338 (by first | exact q338 | exact of_decide_eq_true (by first | (with_reducible assumption) | assumption) | (have e_ := (Kd.S_reads' HO_5.out).1; omega))
        obtain ⟨ve338_0, rfl, ge338_0⟩ := hMe338
        have hv338_0 := hcc338 0 _ rfl
        rw [Nat.add_zero, show ((Kd.slice 5 (Kd.int .u8))).sz = 1 from rfl, Nat.mul_one] at hv338_0
        replace hv338_0 := Option.some.inj (hv338_0.symm.trans hx338_0)
        rw [hv338_0] at ge338_0
        have HL338_0 := aM (show Kd.R (Kd.int .u8) 5 _ _ _ _ (rd_L2 t314 x29_1) from ge338_0)
        clear hv338_0 ge338_0
        clear hcc338 hce338
        have HR338_0 := aM hi338_0
        have HC338_0 := aM hl338_0
        clear hi338_0 hl338_0
        replace p338 := eq_true p338
        replace q338 := eq_true q338
        have ea_ := Option.some.inj (hx321_0.symm.trans hx338_0)
        injection ea_ with ea_ en_ ec_
        subst ea_
        subst ec_
        clear en_
        go_wp2
        go_roundg k1
        case measure => have := HK1.out; omega
        case rel => exact ⟨(wrap64 (x8_1 + 1)), (wrap64 (x9_1 + (wrap64 (8 + ((rd_L2 t314 x29_1).length : Int))))), (wrap64 (x29_1 + 1)), (by first | rfl | (simp; done) | (simp [*]; done)), (by first | rfl | (simp; done) | (simp [*]; done)), (by first | rfl | (simp; done) | (simp [*]; done)), H', ⟨by have := HK1.out; omega⟩, ⟨by (with_reducible repeat (first | apply Kd.S_alloc | apply Kd.S_drewN | apply Kd.S_drew)); exact HO_5.out⟩, ⟨by (with_reducible repeat (first | apply Kd.R_alloc | apply Kd.R_drewN | apply Kd.R_drew)); exact HO_6.out⟩, ⟨by repeat (first | (with_reducible first | exact HB.out | apply wA | apply wN | apply wD) | exact HB.out)⟩⟩
      ·rw [if_neg c15] at H
       exact absurd H (by simp)
     ·rw [if_neg c14] at H
      exact absurd H (by simp)
    ·rw [if_neg c13] at H
     have c13b0 : decide (x29_1 < (t314.length : Int)) = false := decide_eq_false c13
     clear c13
     by_cases c47 : 0 ≤ t320
     ·rw [if_pos c47] at H
      have c47b0 := eq_true c47
      have c47b1 : decide (0 ≤ t320) = true := decide_eq_true c47
      clear c47
      by_cases c48 : t320 ≤ (t317.length : Int)
      ·rw [if_pos c48] at H
       have c48b0 := eq_true c48
       have c48b1 : decide (t320 ≤ (t317.length : Int)) = true := decide_eq_true c48
       clear c48
       obtain ⟨y339, hy339⟩ : ∃ y_ : List Int, y_ = (t317.take (t320 : Int).toNat) := ⟨_, rfl⟩
       replace H : ((frame_Scan.f k1 y339).bind fun bt343 => (if 0 ≤ (wrap64 (8 + (Int.tmod t320 40))) then (if (wrap64 (8 + (Int.tmod t320 40)) : Int).toNat ≤ 281474976710656 then ((frame_Next.f k1 (List.replicate (wrap64 (8 + (Int.tmod t320 40)) : Int).toNat 0) 0).bind fun bt350 => (if (bt343.1.length : Int) = x8_1 then (if bt343.2 = x9_1 then (some (bt350.2.2 == 10)) else (some false)) else (some false))) else (none)) else (none))) = some r := by first | (rw [hy339]; with_reducible exact H) | (have H2_ := (Option.bind_some _ _).symm.trans H; rw [hy339]; with_reducible exact H2_) | (have H2_ := (Option.bind_some _ _).symm.trans H; with_reducible exact H2_) | with_reducible exact H | (rw [hy339]; exact H) | exact H
       have Ny339 := aM hy339
       clear hy339
       replace H := Option.bind_eq_some_iff.mp H
       obtain ⟨⟨t343, t344⟩, A490, H⟩ := H
       replace H : (if 0 ≤ (wrap64 (8 + (Int.tmod t320 40))) then (if (wrap64 (8 + (Int.tmod t320 40)) : Int).toNat ≤ 281474976710656 then ((frame_Next.f k1 (List.replicate (wrap64 (8 + (Int.tmod t320 40)) : Int).toNat 0) 0).bind fun bt350 => (if (t343.length : Int) = x8_1 then (if t344 = x9_1 then (some (bt350.2.2 == 10)) else (some false)) else (some false))) else (none)) else (none)) = some r := H
       have A49 := aM A490
       clear A490
       obtain ⟨ji50, hji50⟩ : ∃ j_ : Int, (wrap64 (8 + (Int.tmod t320 40))) = j_ := ⟨_, rfl⟩
       replace H : (if 0 ≤ (ji50) then (if (ji50 : Int).toNat ≤ 281474976710656 then ((frame_Next.f k1 (List.replicate (ji50 : Int).toNat 0) 0).bind fun bt350 => (if (t343.length : Int) = x8_1 then (if t344 = x9_1 then (some (bt350.2.2 == 10)) else (some false)) else (some false))) else (none)) else (none)) = some r := by first | (rw [hji50] at H; exact H) | (simp only [hji50] at H ⊢; exact H)
       (try rw [hji50] at A49)
       have hji50w : (IntKind.i64.wrap (8 + (Int.tmod t320 40))) = ji50 := (i64_w _).trans hji50
       by_cases c51 : 0 ≤ (ji50)
       ·rw [if_pos c51] at H
        have c51b0 := eq_true c51
        have c51b1 : decide (0 ≤ (ji50)) = true := decide_eq_true c51
        clear c51
        by_cases c52 : (ji50 : Int).toNat ≤ 281474976710656
        ·rw [if_pos c52] at H
         have c52b0 := eq_true c52
         have c52b1 : decide ((ji50 : Int).toNat ≤ 281474976710656) = true := decide_eq_true c52
         clear c52
         obtain ⟨y347, hy347⟩ : ∃ y_ : List Int, y_ = (List.replicate (ji50 : Int).toNat 0) := ⟨_, rfl⟩
         replace H : ((frame_Next.f k1 y347 0).bind fun bt350 => (if (t343.length : Int) = x8_1 then (if t344 = x9_1 then (some (bt350.2.2 == 10)) else (some false)) else (some false))) = some r := by first | (rw [hy347]; with_reducible exact H) | (have H2_ := (Option.bind_some _ _).symm.trans H; rw [hy347]; with_reducible exact H2_) | (have H2_ := (Option.bind_some _ _).symm.trans H; with_reducible exact H2_) | with_reducible exact H | (rw [hy347]; exact H) | exact H
         have Ny347 := aM hy347
         clear hy347
         replace H := Option.bind_eq_some_iff.mp H
         obtain ⟨⟨t350, t351, t352⟩, A530, H⟩ := H
         replace H : (if (t343.length : Int) = x8_1 then (if t344 = x9_1 then (some (t352 == 10)) else (some false)) else (some false)) = some r := H
         have A53 := aM A530
         clear A530
         by_cases c54 : (t343.length : Int) = x8_1
         ·rw [if_pos c54] at H
          have c54b0 : ((t343.length : Int) == x8_1) = true := beq_iff_eq.mpr c54
          have c54b1 : ((t343.length : Int) != x8_1) = false := bne_eq_false_iff_eq.mpr c54
          clear c54
          by_cases c55 : t344 = x9_1
          ·rw [if_pos c55] at H
           have c55b0 : (t344 == x9_1) = true := beq_iff_eq.mpr c55
           have c55b1 : (t344 != x9_1) = false := bne_eq_false_iff_eq.mpr c55
           clear c55
           obtain rfl := Option.some.inj H
           have q56 : (t320 : Int) ≤ ((t317.length : Int) : Int) := of_decide_eq_true (by first | (with_reducible assumption) | assumption)
           obtain ⟨i056, hi056, _, hsz56, _⟩ := info_parts info5
           have hroom56 : t317.length ≤ co12 := (Kd.R_reads' HO_6.out).2.1
           have hC56 : Kd.C (Kd.int .u8) _ Ao12 t317.length t317 := (Kd.R_reads' HO_6.out).2.2
           have hcut56 := cut_to (P := Try.prog) 22 5 .i64 Try.underlying22 hi056 Ao12 t317.length co12 t320 (of_decide_eq_true (by first | (with_reducible assumption) | assumption)) q56 hroom56
           have hr56 := Kd.C_take (m := (t320 : Int).toNat) hC56 (by omega)
           have hy56 : y339.length = (t320 : Int).toNat := (by rw [Ny339.out, List.length_take]; omega)
           rw [← Ny339.out] at hr56
           rw [← hy56] at hcut56
           have HR342 := aM hr56
           have HC342 := aM (show y339.length ≤ co12 from by omega)
           clear hr56 hC56 hroom56 hi056 hsz56
           have KY56 := aM hy56
           clear hy56
           have KL56 := aM (show (t320 : Int).toNat ≤ t317.length from by omega)
           replace q56 := eq_true q56
           go_wp2_with (first | ((with_reducible refine gate_callee (f := 18) rfl ?_); refine goesL_ (some 57) rfl rfl Try.func18 (by kernel_rfl) rfl #[.slice Ao12 y339.length co12] rfl (by (try simp only [List.map_toArray, List.map_cons, List.map_nil]); first | done | rfl | (simp only [List.length_drop, List.length_take]; rfl)) ?_; (with_reducible refine (frame_Scan.calls k1 _ _ y339 t343 t344 _ ?side1 ?side2 A49.out).mono ?_); (case side1 => repeat (first | exact (by repeat (first | (with_reducible exact HR342.out) | (with_reducible refine Kd.C_alloc ?_ _) | (with_reducible refine Kd.C_drewN ?_ _) | (with_reducible refine Kd.C_drew ?_) | exact HR342.out)) | (with_reducible refine Kd.C_alloc ?_ _) | (with_reducible refine Kd.C_drewN ?_ _) | (with_reducible refine Kd.C_drew ?_))); (case side2 => exact HC342.out); rintro e w57 ⟨v345, rfl, ho0, hb⟩; refine ⟨_, rfl, ?_⟩; have n0_ := aM (Kd.S_elder' (by (with_reducible repeat (first | apply Kd.S_alloc | apply Kd.S_drewN | apply Kd.S_drew)); exact HO_5.out) (Kd.S_base ho0) hb); have n1_ := aM (Kd.R_below (by (with_reducible repeat (first | apply Kd.R_alloc | apply Kd.R_drewN | apply Kd.R_drew)); exact HO_6.out) hb); have n2_ := aM (Kd.S_lower (Kd.S_new' (Kd.S_new' ho0 (Kd.S_lt (by (with_reducible repeat (first | apply Kd.S_alloc | apply Kd.S_drewN | apply Kd.S_drew)); exact HO_5.out))) (Kd.R_lt (by (with_reducible repeat (first | apply Kd.R_alloc | apply Kd.R_drewN | apply Kd.R_drew)); exact HO_6.out))) (below_size (by repeat (first | (with_reducible first | exact HB.out | apply wA | apply wN | apply wD) | exact HB.out)))); have n3_ := aM (Kd.C_below (by repeat (first | (with_reducible exact HR342.out) | (with_reducible refine Kd.C_alloc ?_ _) | (with_reducible refine Kd.C_drewN ?_ _) | (with_reducible refine Kd.C_drew ?_) | exact HR342.out)) hb); have n4_ := aM (below_step (by repeat (first | (with_reducible first | exact HB.out | apply wA | apply wN | apply wD) | exact HB.out)) hb); clear HO_5; clear HO_6; clear HR342; clear HB; have HO_5 := n0_; have HO_6 := n1_; have HO346 := n2_; have HR342 := n3_; have HB := n4_; clear n0_ n1_ n2_ n3_ n4_; (try clear hb); (try clear hb2); (try clear hk); (try clear hi); (try clear hge_); (try clear ho0)) | ((with_reducible refine gate_dst (N := 64) rfl ?_); refine Kd.R_make (Kd.int .u8) _ 5 rfl (N := 64) rfl 22 _ _ rfl ji50 rfl rfl Try.underlying22 (.int .u8 0) 1 info5 rfl (by decide) (by omega) 0 (ok := fun _ => True) (okp := fun _ => True) rfl (fun _ hk => hk) trivial (of_decide_eq_true (by first | (with_reducible assumption) | assumption)) (Nat.le_trans (Nat.mul_le_mul_right _ (of_decide_eq_true (by first | (with_reducible assumption) | assumption) : ji50.toNat ≤ 281474976710656)) (by omega)) (Below.refl _ _) (Nat.le_refl _) ?_; intro v348 w58 ho59 hb hg_ hnew_; clear hg_ hnew_; (first | rw [← Ny347.out] at ho59 | (simp only [Int.reduceToNat] at ho59; rw [← Ny347.out] at ho59)); have n0_ := aM (Kd.S_elder' (by (with_reducible repeat (first | apply Kd.S_alloc | apply Kd.S_drewN | apply Kd.S_drew)); exact HO_5.out) (Kd.R_base ho59) hb); have n1_ := aM (Kd.R_elder' (by (with_reducible repeat (first | apply Kd.R_alloc | apply Kd.R_drewN | apply Kd.R_drew)); exact HO_6.out) (Kd.R_base ho59) hb); have n2_ := aM (Kd.S_elder' (by (with_reducible repeat (first | apply Kd.S_alloc | apply Kd.S_drewN | apply Kd.S_drew)); exact HO346.out) (Kd.R_base ho59) hb); have n3_ := aM (Kd.R_lower (Kd.R_new' ho59 (Kd.R_lt (by (with_reducible repeat (first | apply Kd.R_alloc | apply Kd.R_drewN | apply Kd.R_drew)); exact HO_6.out))) (below_size (by repeat (first | (with_reducible first | exact HB.out | apply wA | apply wN | apply wD) | exact HB.out)))); have n4_ := aM (Kd.C_below (by repeat (first | (with_reducible exact HR342.out) | (with_reducible refine Kd.C_alloc ?_ _) | (with_reducible refine Kd.C_drewN ?_ _) | (with_reducible refine Kd.C_drew ?_) | exact HR342.out)) hb); have n5_ := aM (below_step (by repeat (first | (with_reducible first | exact HB.out | apply wA | apply wN | apply wD) | exact HB.out)) hb); clear HO_5; clear HO_6; clear HO346; clear HR342; clear HB; have HO_5 := n0_; have HO_6 := n1_; have HO346 := n2_; have HO349 := n3_; have HR342 := n4_; have HB := n5_; clear n0_ n1_ n2_ n3_ n4_ n5_; clear hb ho59; obtain ⟨Ao60, co60, eo60⟩ := Kd.R_slice HO349.out; subst eo60) | ((with_reducible refine gate_callee (f := 17) rfl ?_); refine goesL_ (some 65) rfl rfl Try.func17 (by kernel_rfl) rfl #[.slice Ao60 y347.length co60, .int .i64 0] rfl (by (try simp only [List.map_toArray, List.map_cons, List.map_nil]); first | done | rfl | (simp only [List.length_drop, List.length_take]; rfl)) ?_; (with_reducible refine (frame_Next.calls k1 _ _ y347 0 t350 t351 t352 _ ?side1 ?side2 A53.out).mono ?_); (case side1 => repeat (first | exact (Kd.R_reads' HO349.out).2.2 | (with_reducible refine Kd.C_alloc ?_ _) | (with_reducible refine Kd.C_drewN ?_ _) | (with_reducible refine Kd.C_drew ?_))); (case side2 => exact (Kd.R_reads' HO349.out).2.1); rintro e w61 ⟨v353, rfl, ho0, hb⟩; refine ⟨_, rfl, ?_⟩; have n0_ := aM (Kd.S_elder' (by (with_reducible repeat (first | apply Kd.S_alloc | apply Kd.S_drewN | apply Kd.S_drew)); exact HO_5.out) (Kd.R_base ho0) hb); have n1_ := aM (Kd.R_elder' (by (with_reducible repeat (first | apply Kd.R_alloc | apply Kd.R_drewN | apply Kd.R_drew)); exact HO_6.out) (Kd.R_base ho0) hb); have n2_ := aM (Kd.S_elder' (by (with_reducible repeat (first | apply Kd.S_alloc | apply Kd.S_drewN | apply Kd.S_drew)); exact HO346.out) (Kd.R_base ho0) hb); have n3_ := aM (Kd.R_elder' (by (with_reducible repeat (first | apply Kd.R_alloc | apply Kd.R_drewN | apply Kd.R_drew)); exact HO349.out) (Kd.R_base ho0) hb); have n4_ := aM (Kd.R_lower (Kd.R_new' (Kd.R_new' ho0 (Kd.R_lt (by (with_reducible repeat (first | apply Kd.R_alloc | apply Kd.R_drewN | apply Kd.R_drew)); exact HO_6.out))) (Kd.R_lt (by (with_reducible repeat (first | apply Kd.R_alloc | apply Kd.R_drewN | apply Kd.R_drew)); exact HO349.out))) (below_size (by repeat (first | (with_reducible first | exact HB.out | apply wA | apply wN | apply wD) | exact HB.out)))); have n5_ := aM (Kd.C_below (by repeat (first | (with_reducible exact HR342.out) | (with_reducible refine Kd.C_alloc ?_ _) | (with_reducible refine Kd.C_drewN ?_ _) | (with_reducible refine Kd.C_drew ?_) | exact HR342.out)) hb); have n6_ := aM (below_step (by repeat (first | (with_reducible first | exact HB.out | apply wA | apply wN | apply wD) | exact HB.out)) hb); clear HO_5; clear HO_6; clear HO346; clear HO349; clear HR342; clear HB; have HO_5 := n0_; have HO_6 := n1_; have HO346 := n2_; have HO349 := n3_; have HO354 := n4_; have HR342 := n5_; have HB := n6_; clear n0_ n1_ n2_ n3_ n4_ n5_ n6_; (try clear hb); (try clear hb2); (try clear hk); (try clear hi); (try clear hge_); (try clear ho0); obtain ⟨Ao62, co62, eo62⟩ := Kd.S_slice HO346.out; subst eo62))
           go_ret
           exact ⟨by first | rfl | (simp [errW_none, errW_some] <;> rfl) | (simp only [← hji50]; first | rfl | (simp [errW_none, errW_some] <;> rfl)) | (simp [*, errW_none, errW_some] <;> rfl), by repeat (first | (with_reducible first | exact HB.out | apply wA | apply wN | apply wD) | exact HB.out)⟩
          ·rw [if_neg c55] at H
           have c55b0 : (t344 == x9_1) = false := beq_eq_false_iff_ne.mpr c55
           have c55b1 : (t344 != x9_1) = true := bne_iff_ne.mpr c55
           obtain rfl := Option.some.inj H
           have q63 : (t320 : Int) ≤ ((t317.length : Int) : Int) := of_decide_eq_true (by first | (with_reducible assumption) | assumption)
           obtain ⟨i063, hi063, _, hsz63, _⟩ := info_parts info5
           have hroom63 : t317.length ≤ co12 := (Kd.R_reads' HO_6.out).2.1
           have hC63 : Kd.C (Kd.int .u8) _ Ao12 t317.length t317 := (Kd.R_reads' HO_6.out).2.2
           have hcut63 := cut_to (P := Try.prog) 22 5 .i64 Try.underlying22 hi063 Ao12 t317.length co12 t320 (of_decide_eq_true (by first | (with_reducible assumption) | assumption)) q63 hroom63
           have hr63 := Kd.C_take (m := (t320 : Int).toNat) hC63 (by omega)
           have hy63 : y339.length = (t320 : Int).toNat := (by rw [Ny339.out, List.length_take]; omega)
           rw [← Ny339.out] at hr63
           rw [← hy63] at hcut63
           have HR342 := aM hr63
           have HC342 := aM (show y339.length ≤ co12 from by omega)
           clear hr63 hC63 hroom63 hi063 hsz63
           have KY63 := aM hy63
           clear hy63
           have KL63 := aM (show (t320 : Int).toNat ≤ t317.length from by omega)
           replace q63 := eq_true q63
           go_wp2_with (first | ((with_reducible refine gate_callee (f := 18) rfl ?_); refine goesL_ (some 57) rfl rfl Try.func18 (by kernel_rfl) rfl #[.slice Ao12 y339.length co12] rfl (by (try simp only [List.map_toArray, List.map_cons, List.map_nil]); first | done | rfl | (simp only [List.length_drop, List.length_take]; rfl)) ?_; (with_reducible refine (frame_Scan.calls k1 _ _ y339 t343 t344 _ ?side1 ?side2 A49.out).mono ?_); (case side1 => repeat (first | exact (by repeat (first | (with_reducible exact HR342.out) | (with_reducible refine Kd.C_alloc ?_ _) | (with_reducible refine Kd.C_drewN ?_ _) | (with_reducible refine Kd.C_drew ?_) | exact HR342.out)) | (with_reducible refine Kd.C_alloc ?_ _) | (with_reducible refine Kd.C_drewN ?_ _) | (with_reducible refine Kd.C_drew ?_))); (case side2 => exact HC342.out); rintro e w64 ⟨v345, rfl, ho0, hb⟩; refine ⟨_, rfl, ?_⟩; have n0_ := aM (Kd.S_elder' (by (with_reducible repeat (first | apply Kd.S_alloc | apply Kd.S_drewN | apply Kd.S_drew)); exact HO_5.out) (Kd.S_base ho0) hb); have n1_ := aM (Kd.R_below (by (with_reducible repeat (first | apply Kd.R_alloc | apply Kd.R_drewN | apply Kd.R_drew)); exact HO_6.out) hb); have n2_ := aM (Kd.S_lower (Kd.S_new' (Kd.S_new' ho0 (Kd.S_lt (by (with_reducible repeat (first | apply Kd.S_alloc | apply Kd.S_drewN | apply Kd.S_drew)); exact HO_5.out))) (Kd.R_lt (by (with_reducible repeat (first | apply Kd.R_alloc | apply Kd.R_drewN | apply Kd.R_drew)); exact HO_6.out))) (below_size (by repeat (first | (with_reducible first | exact HB.out | apply wA | apply wN | apply wD) | exact HB.out)))); have n3_ := aM (Kd.C_below (by repeat (first | (with_reducible exact HR342.out) | (with_reducible refine Kd.C_alloc ?_ _) | (with_reducible refine Kd.C_drewN ?_ _) | (with_reducible refine Kd.C_drew ?_) | exact HR342.out)) hb); have n4_ := aM (below_step (by repeat (first | (with_reducible first | exact HB.out | apply wA | apply wN | apply wD) | exact HB.out)) hb); clear HO_5; clear HO_6; clear HR342; clear HB; have HO_5 := n0_; have HO_6 := n1_; have HO346 := n2_; have HR342 := n3_; have HB := n4_; clear n0_ n1_ n2_ n3_ n4_; (try clear hb); (try clear hb2); (try clear hk); (try clear hi); (try clear hge_); (try clear ho0)) | ((with_reducible refine gate_dst (N := 64) rfl ?_); refine Kd.R_make (Kd.int .u8) _ 5 rfl (N := 64) rfl 22 _ _ rfl ji50 rfl rfl Try.underlying22 (.int .u8 0) 1 info5 rfl (by decide) (by omega) 0 (ok := fun _ => True) (okp := fun _ => True) rfl (fun _ hk => hk) trivial (of_decide_eq_true (by first | (with_reducible assumption) | assumption)) (Nat.le_trans (Nat.mul_le_mul_right _ (of_decide_eq_true (by first | (with_reducible assumption) | assumption) : ji50.toNat ≤ 281474976710656)) (by omega)) (Below.refl _ _) (Nat.le_refl _) ?_; intro v348 w65 ho66 hb hg_ hnew_; clear hg_ hnew_; (first | rw [← Ny347.out] at ho66 | (simp only [Int.reduceToNat] at ho66; rw [← Ny347.out] at ho66)); have n0_ := aM (Kd.S_elder' (by (with_reducible repeat (first | apply Kd.S_alloc | apply Kd.S_drewN | apply Kd.S_drew)); exact HO_5.out) (Kd.R_base ho66) hb); have n1_ := aM (Kd.R_elder' (by (with_reducible repeat (first | apply Kd.R_alloc | apply Kd.R_drewN | apply Kd.R_drew)); exact HO_6.out) (Kd.R_base ho66) hb); have n2_ := aM (Kd.S_elder' (by (with_reducible repeat (first | apply Kd.S_alloc | apply Kd.S_drewN | apply Kd.S_drew)); exact HO346.out) (Kd.R_base ho66) hb); have n3_ := aM (Kd.R_lower (Kd.R_new' ho66 (Kd.R_lt (by (with_reducible repeat (first | apply Kd.R_alloc | apply Kd.R_drewN | apply Kd.R_drew)); exact HO_6.out))) (below_size (by repeat (first | (with_reducible first | exact HB.out | apply wA | apply wN | apply wD) | exact HB.out)))); have n4_ := aM (Kd.C_below (by repeat (first | (with_reducible exact HR342.out) | (with_reducible refine Kd.C_alloc ?_ _) | (with_reducible refine Kd.C_drewN ?_ _) | (with_reducible refine Kd.C_drew ?_) | exact HR342.out)) hb); have n5_ := aM (below_step (by repeat (first | (with_reducible first | exact HB.out | apply wA | apply wN | apply wD) | exact HB.out)) hb); clear HO_5; clear HO_6; clear HO346; clear HR342; clear HB; have HO_5 := n0_; have HO_6 := n1_; have HO346 := n2_; have HO349 := n3_; have HR342 := n4_; have HB := n5_; clear n0_ n1_ n2_ n3_ n4_ n5_; clear hb ho66; obtain ⟨Ao67, co67, eo67⟩ := Kd.R_slice HO349.out; subst eo67) | ((with_reducible refine gate_callee (f := 17) rfl ?_); refine goesL_ (some 65) rfl rfl Try.func17 (by kernel_rfl) rfl #[.slice Ao67 y347.length co67, .int .i64 0] rfl (by (try simp only [List.map_toArray, List.map_cons, List.map_nil]); first | done | rfl | (simp only [List.length_drop, List.length_take]; rfl)) ?_; (with_reducible refine (frame_Next.calls k1 _ _ y347 0 t350 t351 t352 _ ?side1 ?side2 A53.out).mono ?_); (case side1 => repeat (first | exact (Kd.R_reads' HO349.out).2.2 | (with_reducible refine Kd.C_alloc ?_ _) | (with_reducible refine Kd.C_drewN ?_ _) | (with_reducible refine Kd.C_drew ?_))); (case side2 => exact (Kd.R_reads' HO349.out).2.1); rintro e w68 ⟨v353, rfl, ho0, hb⟩; refine ⟨_, rfl, ?_⟩; have n0_ := aM (Kd.S_elder' (by (with_reducible repeat (first | apply Kd.S_alloc | apply Kd.S_drewN | apply Kd.S_drew)); exact HO_5.out) (Kd.R_base ho0) hb); have n1_ := aM (Kd.R_elder' (by (with_reducible repeat (first | apply Kd.R_alloc | apply Kd.R_drewN | apply Kd.R_drew)); exact HO_6.out) (Kd.R_base ho0) hb); have n2_ := aM (Kd.S_elder' (by (with_reducible repeat (first | apply Kd.S_alloc | apply Kd.S_drewN | apply Kd.S_drew)); exact HO346.out) (Kd.R_base ho0) hb); have n3_ := aM (Kd.R_elder' (by (with_reducible repeat (first | apply Kd.R_alloc | apply Kd.R_drewN | apply Kd.R_drew)); exact HO349.out) (Kd.R_base ho0) hb); have n4_ := aM (Kd.R_lower (Kd.R_new' (Kd.R_new' ho0 (Kd.R_lt (by (with_reducible repeat (first | apply Kd.R_alloc | apply Kd.R_drewN | apply Kd.R_drew)); exact HO_6.out))) (Kd.R_lt (by (with_reducible repeat (first | apply Kd.R_alloc | apply Kd.R_drewN | apply Kd.R_drew)); exact HO349.out))) (below_size (by repeat (first | (with_reducible first | exact HB.out | apply wA | apply wN | apply wD) | exact HB.out)))); have n5_ := aM (Kd.C_below (by repeat (first | (with_reducible exact HR342.out) | (with_reducible refine Kd.C_alloc ?_ _) | (with_reducible refine Kd.C_drewN ?_ _) | (with_reducible refine Kd.C_drew ?_) | exact HR342.out)) hb); have n6_ := aM (below_step (by repeat (first | (with_reducible first | exact HB.out | apply wA | apply wN | apply wD) | exact HB.out)) hb); clear HO_5; clear HO_6; clear HO346; clear HO349; clear HR342; clear HB; have HO_5 := n0_; have HO_6 := n1_; have HO346 := n2_; have HO349 := n3_; have HO354 := n4_; have HR342 := n5_; have HB := n6_; clear n0_ n1_ n2_ n3_ n4_ n5_ n6_; (try clear hb); (try clear hb2); (try clear hk); (try clear hi); (try clear hge_); (try clear ho0); obtain ⟨Ao69, co69, eo69⟩ := Kd.S_slice HO346.out; subst eo69))
           go_ret
           exact ⟨by first | rfl | (simp [errW_none, errW_some] <;> rfl) | (simp only [← hji50]; first | rfl | (simp [errW_none, errW_some] <;> rfl)) | (simp [*, errW_none, errW_some] <;> rfl), by repeat (first | (with_reducible first | exact HB.out | apply wA | apply wN | apply wD) | exact HB.out)⟩
         ·rw [if_neg c54] at H
          have c54b0 : ((t343.length : Int) == x8_1) = false := beq_eq_false_iff_ne.mpr c54
          have c54b1 : ((t343.length : Int) != x8_1) = true := bne_iff_ne.mpr c54
          obtain rfl := Option.some.inj H
          have q70 : (t320 : Int) ≤ ((t317.length : Int) : Int) := of_decide_eq_true (by first | (with_reducible assumption) | assumption)
          obtain ⟨i070, hi070, _, hsz70, _⟩ := info_parts info5
          have hroom70 : t317.length ≤ co12 := (Kd.R_reads' HO_6.out).2.1
          have hC70 : Kd.C (Kd.int .u8) _ Ao12 t317.length t317 := (Kd.R_reads' HO_6.out).2.2
          have hcut70 := cut_to (P := Try.prog) 22 5 .i64 Try.underlying22 hi070 Ao12 t317.length co12 t320 (of_decide_eq_true (by first | (with_reducible assumption) | assumption)) q70 hroom70
          have hr70 := Kd.C_take (m := (t320 : Int).toNat) hC70 (by omega)
          have hy70 : y339.length = (t320 : Int).toNat := (by rw [Ny339.out, List.length_take]; omega)
          rw [← Ny339.out] at hr70
          rw [← hy70] at hcut70
          have HR342 := aM hr70
          have HC342 := aM (show y339.length ≤ co12 from by omega)
          clear hr70 hC70 hroom70 hi070 hsz70
          have KY70 := aM hy70
          clear hy70
          have KL70 := aM (show (t320 : Int).toNat ≤ t317.length from by omega)
          replace q70 := eq_true q70
          go_wp2_with (first | ((with_reducible refine gate_callee (f := 18) rfl ?_); refine goesL_ (some 57) rfl rfl Try.func18 (by kernel_rfl) rfl #[.slice Ao12 y339.length co12] rfl (by (try simp only [List.map_toArray, List.map_cons, List.map_nil]); first | done | rfl | (simp only [List.length_drop, List.length_take]; rfl)) ?_; (with_reducible refine (frame_Scan.calls k1 _ _ y339 t343 t344 _ ?side1 ?side2 A49.out).mono ?_); (case side1 => repeat (first | exact (by repeat (first | (with_reducible exact HR342.out) | (with_reducible refine Kd.C_alloc ?_ _) | (with_reducible refine Kd.C_drewN ?_ _) | (with_reducible refine Kd.C_drew ?_) | exact HR342.out)) | (with_reducible refine Kd.C_alloc ?_ _) | (with_reducible refine Kd.C_drewN ?_ _) | (with_reducible refine Kd.C_drew ?_))); (case side2 => exact HC342.out); rintro e w71 ⟨v345, rfl, ho0, hb⟩; refine ⟨_, rfl, ?_⟩; have n0_ := aM (Kd.S_elder' (by (with_reducible repeat (first | apply Kd.S_alloc | apply Kd.S_drewN | apply Kd.S_drew)); exact HO_5.out) (Kd.S_base ho0) hb); have n1_ := aM (Kd.R_below (by (with_reducible repeat (first | apply Kd.R_alloc | apply Kd.R_drewN | apply Kd.R_drew)); exact HO_6.out) hb); have n2_ := aM (Kd.S_lower (Kd.S_new' (Kd.S_new' ho0 (Kd.S_lt (by (with_reducible repeat (first | apply Kd.S_alloc | apply Kd.S_drewN | apply Kd.S_drew)); exact HO_5.out))) (Kd.R_lt (by (with_reducible repeat (first | apply Kd.R_alloc | apply Kd.R_drewN | apply Kd.R_drew)); exact HO_6.out))) (below_size (by repeat (first | (with_reducible first | exact HB.out | apply wA | apply wN | apply wD) | exact HB.out)))); have n3_ := aM (Kd.C_below (by repeat (first | (with_reducible exact HR342.out) | (with_reducible refine Kd.C_alloc ?_ _) | (with_reducible refine Kd.C_drewN ?_ _) | (with_reducible refine Kd.C_drew ?_) | exact HR342.out)) hb); have n4_ := aM (below_step (by repeat (first | (with_reducible first | exact HB.out | apply wA | apply wN | apply wD) | exact HB.out)) hb); clear HO_5; clear HO_6; clear HR342; clear HB; have HO_5 := n0_; have HO_6 := n1_; have HO346 := n2_; have HR342 := n3_; have HB := n4_; clear n0_ n1_ n2_ n3_ n4_; (try clear hb); (try clear hb2); (try clear hk); (try clear hi); (try clear hge_); (try clear ho0)) | ((with_reducible refine gate_dst (N := 64) rfl ?_); refine Kd.R_make (Kd.int .u8) _ 5 rfl (N := 64) rfl 22 _ _ rfl ji50 rfl rfl Try.underlying22 (.int .u8 0) 1 info5 rfl (by decide) (by omega) 0 (ok := fun _ => True) (okp := fun _ => True) rfl (fun _ hk => hk) trivial (of_decide_eq_true (by first | (with_reducible assumption) | assumption)) (Nat.le_trans (Nat.mul_le_mul_right _ (of_decide_eq_true (by first | (with_reducible assumption) | assumption) : ji50.toNat ≤ 281474976710656)) (by omega)) (Below.refl _ _) (Nat.le_refl _) ?_; intro v348 w72 ho73 hb hg_ hnew_; clear hg_ hnew_; (first | rw [← Ny347.out] at ho73 | (simp only [Int.reduceToNat] at ho73; rw [← Ny347.out] at ho73)); have n0_ := aM (Kd.S_elder' (by (with_reducible repeat (first | apply Kd.S_alloc | apply Kd.S_drewN | apply Kd.S_drew)); exact HO_5.out) (Kd.R_base ho73) hb); have n1_ := aM (Kd.R_elder' (by (with_reducible repeat (first | apply Kd.R_alloc | apply Kd.R_drewN | apply Kd.R_drew)); exact HO_6.out) (Kd.R_base ho73) hb); have n2_ := aM (Kd.S_elder' (by (with_reducible repeat (first | apply Kd.S_alloc | apply Kd.S_drewN | apply Kd.S_drew)); exact HO346.out) (Kd.R_base ho73) hb); have n3_ := aM (Kd.R_lower (Kd.R_new' ho73 (Kd.R_lt (by (with_reducible repeat (first | apply Kd.R_alloc | apply Kd.R_drewN | apply Kd.R_drew)); exact HO_6.out))) (below_size (by repeat (first | (with_reducible first | exact HB.out | apply wA | apply wN | apply wD) | exact HB.out)))); have n4_ := aM (Kd.C_below (by repeat (first | (with_reducible exact HR342.out) | (with_reducible refine Kd.C_alloc ?_ _) | (with_reducible refine Kd.C_drewN ?_ _) | (with_reducible refine Kd.C_drew ?_) | exact HR342.out)) hb); have n5_ := aM (below_step (by repeat (first | (with_reducible first | exact HB.out | apply wA | apply wN | apply wD) | exact HB.out)) hb); clear HO_5; clear HO_6; clear HO346; clear HR342; clear HB; have HO_5 := n0_; have HO_6 := n1_; have HO346 := n2_; have HO349 := n3_; have HR342 := n4_; have HB := n5_; clear n0_ n1_ n2_ n3_ n4_ n5_; clear hb ho73; obtain ⟨Ao74, co74, eo74⟩ := Kd.R_slice HO349.out; subst eo74) | ((with_reducible refine gate_callee (f := 17) rfl ?_); refine goesL_ (some 65) rfl rfl Try.func17 (by kernel_rfl) rfl #[.slice Ao74 y347.length co74, .int .i64 0] rfl (by (try simp only [List.map_toArray, List.map_cons, List.map_nil]); first | done | rfl | (simp only [List.length_drop, List.length_take]; rfl)) ?_; (with_reducible refine (frame_Next.calls k1 _ _ y347 0 t350 t351 t352 _ ?side1 ?side2 A53.out).mono ?_); (case side1 => repeat (first | exact (Kd.R_reads' HO349.out).2.2 | (with_reducible refine Kd.C_alloc ?_ _) | (with_reducible refine Kd.C_drewN ?_ _) | (with_reducible refine Kd.C_drew ?_))); (case side2 => exact (Kd.R_reads' HO349.out).2.1); rintro e w75 ⟨v353, rfl, ho0, hb⟩; refine ⟨_, rfl, ?_⟩; have n0_ := aM (Kd.S_elder' (by (with_reducible repeat (first | apply Kd.S_alloc | apply Kd.S_drewN | apply Kd.S_drew)); exact HO_5.out) (Kd.R_base ho0) hb); have n1_ := aM (Kd.R_elder' (by (with_reducible repeat (first | apply Kd.R_alloc | apply Kd.R_drewN | apply Kd.R_drew)); exact HO_6.out) (Kd.R_base ho0) hb); have n2_ := aM (Kd.S_elder' (by (with_reducible repeat (first | apply Kd.S_alloc | apply Kd.S_drewN | apply Kd.S_drew)); exact HO346.out) (Kd.R_base ho0) hb); have n3_ := aM (Kd.R_elder' (by (with_reducible repeat (first | apply Kd.R_alloc | apply Kd.R_drewN | apply Kd.R_drew)); exact HO349.out) (Kd.R_base ho0) hb); have n4_ := aM (Kd.R_lower (Kd.R_new' (Kd.R_new' ho0 (Kd.R_lt (by (with_reducible repeat (first | apply Kd.R_alloc | apply Kd.R_drewN | apply Kd.R_drew)); exact HO_6.out))) (Kd.R_lt (by (with_reducible repeat (first | apply Kd.R_alloc | apply Kd.R_drewN | apply Kd.R_drew)); exact HO349.out))) (below_size (by repeat (first | (with_reducible first | exact HB.out | apply wA | apply wN | apply wD) | exact HB.out)))); have n5_ := aM (Kd.C_below (by repeat (first | (with_reducible exact HR342.out) | (with_reducible refine Kd.C_alloc ?_ _) | (with_reducible refine Kd.C_drewN ?_ _) | (with_reducible refine Kd.C_drew ?_) | exact HR342.out)) hb); have n6_ := aM (below_step (by repeat (first | (with_reducible first | exact HB.out | apply wA | apply wN | apply wD) | exact HB.out)) hb); clear HO_5; clear HO_6; clear HO346; clear HO349; clear HR342; clear HB; have HO_5 := n0_; have HO_6 := n1_; have HO346 := n2_; have HO349 := n3_; have HO354 := n4_; have HR342 := n5_; have HB := n6_; clear n0_ n1_ n2_ n3_ n4_ n5_ n6_; (try clear hb); (try clear hb2); (try clear hk); (try clear hi); (try clear hge_); (try clear ho0); obtain ⟨Ao76, co76, eo76⟩ := Kd.S_slice HO346.out; subst eo76))
          go_ret
          exact ⟨by first | rfl | (simp [errW_none, errW_some] <;> rfl) | (simp only [← hji50]; first | rfl | (simp [errW_none, errW_some] <;> rfl)) | (simp [*, errW_none, errW_some] <;> rfl), by repeat (first | (with_reducible first | exact HB.out | apply wA | apply wN | apply wD) | exact HB.out)⟩
        ·rw [if_neg c52] at H
         exact absurd H (by simp)
       ·rw [if_neg c51] at H
        exact absurd H (by simp)
      ·rw [if_neg c48] at H
       exact absurd H (by simp)
     ·rw [if_neg c47] at H
      exact absurd H (by simp)
 ·replace c4 := Bool.eq_false_iff.mpr c4
  subst c4
  have H1 : (some false) = some r := by rw [if_neg (show ¬ (false = true) by decide)] at H; exact H
  clear H
  have H := H1
  clear H1
  obtain rfl := Option.some.inj H
  go_enter Try.func8, Try.ntmps8
  go_wp2_with (first | ((with_reducible refine gate_callee (f := 9) rfl ?_); refine goesL_ (some 16) rfl rfl Try.func9 (by kernel_rfl) rfl #[] rfl (by (try simp only [List.map_toArray, List.map_cons, List.map_nil]); first | done | rfl | (simp only [List.length_drop, List.length_take]; rfl)) ?_; (with_reducible refine (rollbacknetlaw11_awake.calls k  false _ A3.out).mono ?_); rintro e w77 ⟨rfl, hb⟩; refine ⟨_, rfl, ?_⟩; have n0_ := aM (below_step (by repeat (first | (with_reducible first | exact HB.out | apply wA | apply wN | apply wD) | exact HB.out)) hb); clear HB; have HB := n0_; clear n0_; (try clear hb); (try clear hb2); (try clear hk); (try clear hi); (try clear hge_)))
  go_ret
  exact ⟨by first | rfl | (simp [errW_none, errW_some] <;> rfl) | (simp [*, errW_none, errW_some] <;> rfl), by repeat (first | (with_reducible first | exact HB.out | apply wA | apply wN | apply wD) | exact HB.out)⟩

end Go.Proofs.Ytmlphabhldahlaa.PFk
