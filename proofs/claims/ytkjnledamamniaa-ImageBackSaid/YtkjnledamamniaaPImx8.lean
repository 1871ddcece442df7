-- Laid by wip/tools/xprint.py, a program of this session over the kit's print: functions as Lean functions, each with its contract.
import Derived.Test.YtkjnledamamniaaPImx0
import Derived.Test.YtkjnledamamniaaPImx6
import Derived.Test.YtkjnledamamniaaPImx7
namespace Go.Proofs.Ytkjnledamamniaa.PIm
open Go.RowKit Go.Proofs.YtkjnledamamniaaW.PrintWords Go.Proofs.YtkjnledamamniaaW.PrintLast Go.Proofs.YtkjnledamamniaaW.PrintMore
attribute [local go_sem] max2_int min2_int max_two min_two max_three min_three max_four min_four   -- for this text's walks alone
set_option linter.unusedVariables false
set_option linter.unusedSimpArgs false

/-! ### rollbacknetlaw07_change: function 12 -/
mutual
def rollbacknetlaw07_change.l0 : Nat → List Int → Int → List Int → Int → Option (List Int × Int)
 | 0, _, _, _, _ => none
 | k + 1, x5, x6, x1000, x1001 => if x6 > 0 then (rollbacknetlaw07_change.j1 k x5 x6 (decide ((x5.length : Int) > 0)) x1000 x1001) else (rollbacknetlaw07_change.j1 k x5 x6 false x1000 x1001)
def rollbacknetlaw07_change.j1 : Nat → List Int → Int → Bool → List Int → Int → Option (List Int × Int)
 | 0, _, _, _, _, _ => none
 | k + 1, x5, x6, x17, x1000, x1001 => if x17 = true then ((rollbacknetmake_Codes_Next.f x1000 x1001 (x5.length : Int)).bind fun bt171 => ((rollbacknetmake_Codes_Int.f x1000 bt171.2).bind fun bt173 => (if 0 ≤ bt171.1 then (if bt171.1 < (x5.length : Int) then (rollbacknetlaw07_change.l0 k (x5.set (bt171.1 : Int).toNat bt173.1) (wrap64 (x6 - 1)) x1000 bt173.2) else (none)) else (none)))) else (some (x5, x1001))
end
def rollbacknetlaw07_change.f (k : Nat) (s0_0 : List Int) (s0_1 : Int) (l1 : List Int) : Option (List Int × Int) := if ([] : List Int).length + l1.length < 17592186044416 then ((rollbacknetmake_Codes_Next.f s0_0 s0_1 4).bind fun bt169 => (rollbacknetlaw07_change.l0 k (([] : List Int) ++ l1) bt169.1 s0_0 bt169.2)) else (none)
theorem rollbacknetlaw07_change.mono_l : ∀ k, (∀ y0 y1 y2 y3, LeO (rollbacknetlaw07_change.l0 k y0 y1 y2 y3) (rollbacknetlaw07_change.l0 (k + 1) y0 y1 y2 y3)) ∧ (∀ y0 y1 y2 y3 y4, LeO (rollbacknetlaw07_change.j1 k y0 y1 y2 y3 y4) (rollbacknetlaw07_change.j1 (k + 1) y0 y1 y2 y3 y4))
 | 0 => ⟨fun _ _ _ _ r h => by simp [rollbacknetlaw07_change.l0] at h, fun _ _ _ _ _ r h => by simp [rollbacknetlaw07_change.j1] at h⟩
 | k + 1 => by
  obtain ⟨ih0, ih1⟩ := rollbacknetlaw07_change.mono_l k
  refine ⟨?_, ?_⟩
  ·intro y0 y1 y2 y3
   unfold rollbacknetlaw07_change.l0
   repeat' first
   | (with_reducible exact ih0 _ _ _ _)
   | (with_reducible exact ih1 _ _ _ _ _)
   | (with_reducible exact LeO.refl _)
   | (with_reducible exact LeO.none _)
   | (with_reducible refine LeO.ite ?_ ?_)
   | (with_reducible refine LeO.bind ?_ (fun _ => ?_))
   | exact ih0 _ _ _ _
   | exact ih1 _ _ _ _ _
   | exact LeO.none _
   | refine LeO.ite ?_ ?_
   | refine LeO.bind ?_ (fun _ => ?_)
  ·intro y0 y1 y2 y3 y4
   unfold rollbacknetlaw07_change.j1
   repeat' first
   | (with_reducible exact ih0 _ _ _ _)
   | (with_reducible exact ih1 _ _ _ _ _)
   | (with_reducible exact LeO.refl _)
   | (with_reducible exact LeO.none _)
   | (with_reducible refine LeO.ite ?_ ?_)
   | (with_reducible refine LeO.bind ?_ (fun _ => ?_))
   | exact ih0 _ _ _ _
   | exact ih1 _ _ _ _ _
   | exact LeO.none _
   | refine LeO.ite ?_ ?_
   | refine LeO.bind ?_ (fun _ => ?_)
theorem rollbacknetlaw07_change.mono : ∀ a0 a1 a2 k, LeO (rollbacknetlaw07_change.f k a0 a1 a2) (rollbacknetlaw07_change.f (k + 1) a0 a1 a2) := by
 intro a0 a1 a2 k
 obtain ⟨ih0, ih1⟩ := rollbacknetlaw07_change.mono_l k
 unfold rollbacknetlaw07_change.f
 repeat' first
   | (with_reducible exact ih0 _ _ _ _)
   | (with_reducible exact ih1 _ _ _ _ _)
   | (with_reducible exact LeO.refl _)
   | (with_reducible exact LeO.none _)
   | (with_reducible refine LeO.ite ?_ ?_)
   | (with_reducible refine LeO.bind ?_ (fun _ => ?_))
   | exact ih0 _ _ _ _
   | exact ih1 _ _ _ _ _
   | exact LeO.none _
   | refine LeO.ite ?_ ?_
   | refine LeO.bind ?_ (fun _ => ?_)
set_option maxHeartbeats 8000000 in
set_option maxRecDepth 100000 in
theorem rollbacknetlaw07_change.calls (k : Nat) (g : Nat) (s0_0 : List Int) (s0_1 : Int) (A1 : Option Addr) (c1 : Nat) (l1 : List Int) (r1 : List Int) (r2 : Int) (w0 w : World) (hI : IsS53 w0 w g s0_0 s0_1) (hB : Below w0.heap.size w0 w) (hr1 : Kd.C (Kd.int .i64) w A1 l1.length l1) (hc1 : l1.length ≤ c1) (hf1 : ∀ ad, A1 = some ad → 0 < l1.length → ad.block ≠ g) (h : rollbacknetlaw07_change.f k s0_0 s0_1 l1 = some (r1, r2)) :
  Calls Try.prog 12 #[.pointer (some ⟨g, 0, none⟩), .slice A1 l1.length c1] w fun e w' => ∃ v0_ : Value, e = .returned (v0_) ∧ Kd.R (Kd.int .i64) 3 w' w.heap.size (fun _ => True) v0_ r1 ∧ IsS53 w0 w' g s0_0 r2 ∧ Below w0.heap.size w0 w' ∧ KeepBut w w' g none := by
 have HR1 := aM hr1
 have HC1 := aM hc1
 clear hr1 hc1
 have HI0 := aM hI
 have HK := aM (KeepBut.refl w g none)
 have HL := aM hB.size
 clear hI
 have HW0 := aM hB.size
 have HB := aM hB
 clear hB
 have H : (if ([] : List Int).length + l1.length < 17592186044416 then ((rollbacknetmake_Codes_Next.f s0_0 s0_1 4).bind fun bt169 => (rollbacknetlaw07_change.l0 k (([] : List Int) ++ l1) bt169.1 s0_0 bt169.2)) else (none)) = some (r1, r2) := h
 clear h
 by_cases c3 : ([] : List Int).length + l1.length < 17592186044416
 ·rw [if_pos c3] at H
  have LMc3 := aM c3
  clear c3
  obtain ⟨y166, hy166⟩ : ∃ y_ : List Int, y_ = (([] : List Int) ++ l1) := ⟨_, rfl⟩
  replace H : ((rollbacknetmake_Codes_Next.f s0_0 s0_1 4).bind fun bt169 => (rollbacknetlaw07_change.l0 k y166 bt169.1 s0_0 bt169.2)) = some (r1, r2) := by first | (rw [hy166]; with_reducible exact H) | (have H2_ := (Option.bind_some _ _).symm.trans H; rw [hy166]; with_reducible exact H2_) | (have H2_ := (Option.bind_some _ _).symm.trans H; with_reducible exact H2_) | with_reducible exact H | (rw [hy166]; exact H) | exact H
  have Ny166 := aM hy166
  clear hy166
  replace H := Option.bind_eq_some_iff.mp H
  obtain ⟨⟨t169, t170⟩, A40, H⟩ := H
  replace H : (rollbacknetlaw07_change.l0 k y166 t169 s0_0 t170) = some (r1, r2) := H
  have A4 := aM A40
  clear A40
  have H' := aM H
  clear H
  go_enter Try.func12, Try.ntmps12
  go_wp2_with (first | ((with_reducible refine gate_builtin (b := .append) (xs := #[(.const (.slice none 0 0)), .tmp 7]) rfl ?_); (try (refine gate_guard (by rfl) ?_; dsimp only)); at_builtin; refine Kd.R_append_rows (Kd.int .i64) w.heap.size rfl (.const (.slice none 0 0)) (.tmp 7) 22 3 (.int .i64 0) 8 rfl Try.underlying22 info3 rfl (by decide) (by omega) (.slice none 0 0) ([] : List Int) l1 _ _ _ (fun _ => True) (fun _ => False) rfl rfl ?aO ?aR (fun _ _ h => h) (fun _ h => h.elim) ?aF (Below.refl _ _) ?aS ?aL ?_; (case aR => exact Kd.C_keep 0 HR1.out (by repeat (first | (with_reducible first | exact HK.out | apply KeepBut.set_ | apply kN | apply kD | apply kA) | exact HK.out)) hf1); (case aF => exact (fun _ _ => trivial)); (case aO => exact ((Kd.R_nil _ _ _ _ (fun _ => True)))); (case aS => exact (keep_size (w := w) (g := g) (row := none) (by repeat (first | (with_reducible first | exact HK.out | apply KeepBut.set_ | apply kN | apply kD | apply kA) | exact HK.out)))); (case aL => have := LMc3.out; omega); intro v167 w5 ho hb hg hat; rw [← Ny166.out] at ho; have n0_ := aM (IsS53.grown (by repeat (first | (with_reducible first | exact HI0.out | apply IsS53.alloc | apply IsS53.drewN | apply IsS53.drew | apply IsS53.set_1) | exact HI0.out)) hg (by simp [Value.ownBlock])); have n1_ := aM (below_weaken (by repeat (first | (with_reducible first | exact HB.out | apply wA | apply wN | apply wD | refine below_set ?_ (IsS53.ge HI0.out)) | exact HB.out)) HL.out hb); have n2_ := aM (KeepBut.trans (by repeat (first | (with_reducible first | exact HK.out | apply KeepBut.set_ | apply kN | apply kD | apply kA) | exact HK.out)) (KeepBut.of_grown hg g) (.inl (by simp [Value.ownBlock]))); have n3_ := aM (ho); clear HI0; clear HB; clear HK; have HI0 := n0_; have HB := n1_; have HK := n2_; have HO168 := n3_; clear n0_ n1_ n2_ n3_; clear ho hb hg hat) | ((with_reducible refine gate_callee (f := 28) rfl ?_); refine goesL_ (some 10) rfl rfl Try.func28 (by kernel_rfl) rfl #[.pointer (some ⟨g, 0, none⟩), .int .i64 4] rfl (by (try simp only [List.map_toArray, List.map_cons, List.map_nil]); first | done | rfl | (simp only [List.length_drop, List.length_take]; rfl)) ?_; (with_reducible refine (rollbacknetmake_Codes_Next.calls g s0_0 s0_1 4 t169 t170 w0 _ ?side1 ?side2 A4.out).mono ?_); (case side1 => repeat (first | (with_reducible first | exact HI0.out | apply IsS53.alloc | apply IsS53.drewN | apply IsS53.drew | apply IsS53.set_1) | exact HI0.out)); (case side2 => repeat (first | (with_reducible first | exact HB.out | apply wA | apply wN | apply wD | refine below_set ?_ (IsS53.ge HI0.out)) | exact HB.out)); rintro e w6 ⟨rfl, hi, hb, hk⟩; refine ⟨_, rfl, ?_⟩; have n0_ := aM (Kd.R_mono (Kd.R_keep (IsS53.apart (show IsS53 w0 _ g s0_0 s0_1 from by repeat (first | (with_reducible first | exact HI0.out | apply IsS53.alloc | apply IsS53.drewN | apply IsS53.drew | apply IsS53.set_1) | exact HI0.out)) (by (with_reducible repeat (first | apply Kd.R_alloc | apply Kd.R_drewN | apply Kd.R_drew)); exact HO168.out) (by decide)) hk (fun _ h => h.2)) (fun _ h => h.1)); have n1_ := aM (KeepBut.trans (by repeat (first | (with_reducible first | exact HK.out | apply KeepBut.set_ | apply kN | apply kD | apply kA) | exact HK.out)) hk (.inl rfl)); have n2_ := aM (hb); have n3_ := aM (hi); clear HO168; clear HK; clear HB; clear HI0; have HO168 := n0_; have HK := n1_; have HB := n2_; have HI0 := n3_; clear n0_ n1_ n2_ n3_; (try clear hb); (try clear hb2); (try clear hk); (try clear hi); (try clear hge_)))
  go_loopg [6] k (fun kq v6 w' => ∃ (x5_1 : List Int) (x6_1 : Int) (x1001_1 : Int), v6 = .int .i64 x6_1 ∧ Aside0 (rollbacknetlaw07_change.l0 kq x5_1 x6_1 s0_0 x1001_1 = some (r1, r2)) ∧ Aside0 (kq ≤ k) ∧ Aside0 (Kd.R (Kd.int .i64) 3 w' w.heap.size (fun _ => True) v167 x5_1) ∧ Aside0 (IsS53 w0 w' g s0_0 x1001_1) ∧ Aside0 (KeepBut w w' g none) ∧ Aside0 (Below w0.heap.size w0 w'))
  case atStart => exact ⟨(y166), (t169), (t170), (by first | rfl | (simp; done) | (simp [*]; done)), H', ⟨Nat.le_refl _⟩, ⟨by (with_reducible repeat (first | apply Kd.R_alloc | apply Kd.R_drewN | apply Kd.R_drew)); exact HO168.out⟩, ⟨by repeat (first | (with_reducible first | exact HI0.out | apply IsS53.alloc | apply IsS53.drewN | apply IsS53.drew | apply IsS53.set_1) | exact HI0.out)⟩, ⟨by repeat (first | (with_reducible first | exact HK.out | apply KeepBut.set_ | apply kN | apply kD | apply kA) | exact HK.out)⟩, ⟨by repeat (first | (with_reducible first | exact HB.out | apply wA | apply wN | apply wD | refine below_set ?_ (IsS53.ge HI0.out)) | exact HB.out)⟩⟩
  case round =>
   clear H'
   try clear c1
   try clear c2
   try clear p2
   try clear c3
   obtain ⟨x5_1, x6_1, x1001_1, rfl, HA, HK1, HO_5, HI0, HK, HB⟩ := hrel
   cases gk with
   | zero => exact absurd HA.out (by simp [rollbacknetlaw07_change.l0])
   | succ k1 =>
    have H := HA.out
    clear HA
    simp only [rollbacknetlaw07_change.l0] at H
    have HC7 := aM H
    clear H
    go_upto_region 3 with (fail)
    go_cut [17] (fun v17 wc => ∃ (kq : Nat) (x17_6 : Bool), v17 = .bool x17_6 ∧ Aside0 (rollbacknetlaw07_change.j1 kq x5_1 x6_1 x17_6 s0_0 x1001_1 = some (r1, r2)) ∧ Aside0 (kq ≤ k1) ∧ Aside0 (Kd.R (Kd.int .i64) 3 wc w.heap.size (fun _ => True) v167 x5_1) ∧ Aside0 (IsS53 w0 wc g s0_0 x1001_1) ∧ Aside0 (KeepBut w wc g none) ∧ Aside0 (Below w0.heap.size w0 wc))
    case first =>
     have H := HC7.out
     clear HC7
     by_cases c8 : x6_1 > 0
     ·rw [if_pos c8] at H
      have c8b0 : decide (0 < x6_1) = true := decide_eq_true c8
      clear c8
      (first | rw [c8b0] | (simp only [i64_w, i32_w]; rw [c8b0]) | skip)
      have H' := aM H
      clear H
      obtain ⟨Ao9, co9, eo9⟩ := Kd.R_slice HO_5.out
      subst eo9
      go_wp2
      go_meet
      case rel => exact ⟨_, (decide ((x5_1.length : Int) > 0)), (by first | rfl | (simp; done) | (simp [*]; done)), H', ⟨by have := HK1.out; first | omega | exact Nat.le_refl _⟩, ⟨by (with_reducible repeat (first | apply Kd.R_alloc | apply Kd.R_drewN | apply Kd.R_drew)); exact HO_5.out⟩, ⟨by repeat (first | (with_reducible first | exact HI0.out | apply IsS53.alloc | apply IsS53.drewN | apply IsS53.drew | apply IsS53.set_1) | exact HI0.out)⟩, ⟨by repeat (first | (with_reducible first | exact HK.out | apply KeepBut.set_ | apply kN | apply kD | apply kA) | exact HK.out)⟩, ⟨by repeat (first | (with_reducible first | exact HB.out | apply wA | apply wN | apply wD | refine below_set ?_ (IsS53.ge HI0.out)) | exact HB.out)⟩⟩
     ·rw [if_neg c8] at H
      have c8b0 : decide (0 < x6_1) = false := decide_eq_false c8
      clear c8
      (first | rw [c8b0] | (simp only [i64_w, i32_w]; rw [c8b0]) | skip)
      have H' := aM H
      clear H
      go_wp2
      go_meet
      case rel => exact ⟨_, (false), (by first | rfl | (simp; done) | (simp [*]; done)), H', ⟨by have := HK1.out; first | omega | exact Nat.le_refl _⟩, ⟨by (with_reducible repeat (first | apply Kd.R_alloc | apply Kd.R_drewN | apply Kd.R_drew)); exact HO_5.out⟩, ⟨by repeat (first | (with_reducible first | exact HI0.out | apply IsS53.alloc | apply IsS53.drewN | apply IsS53.drew | apply IsS53.set_1) | exact HI0.out)⟩, ⟨by repeat (first | (with_reducible first | exact HK.out | apply KeepBut.set_ | apply kN | apply kD | apply kA) | exact HK.out)⟩, ⟨by repeat (first | (with_reducible first | exact HB.out | apply wA | apply wN | apply wD | refine below_set ?_ (IsS53.ge HI0.out)) | exact HB.out)⟩⟩
    case rest =>
     clear HC7
     try clear c1
     try clear c2
     try clear p2
     try clear c3
     try clear c8
     try clear c8b0
     try clear p2
     obtain ⟨kq, x17_6, rfl, HA, HJ6, HO_5, HI0, HK, HB⟩ := hcut
     cases kq with
     | zero => exact absurd HA.out (by simp [rollbacknetlaw07_change.j1])
     | succ kj6 =>
      have H := HA.out
      clear HA
      simp only [rollbacknetlaw07_change.j1] at H
      by_cases c10 : x17_6 = true
      ·subst c10
       have H1 : ((rollbacknetmake_Codes_Next.f s0_0 x1001_1 (x5_1.length : Int)).bind fun bt171 => ((rollbacknetmake_Codes_Int.f s0_0 bt171.2).bind fun bt173 => (if 0 ≤ bt171.1 then (if bt171.1 < (x5_1.length : Int) then (rollbacknetlaw07_change.l0 kj6 (x5_1.set (bt171.1 : Int).toNat bt173.1) (wrap64 (x6_1 - 1)) s0_0 bt173.2) else (none)) else (none)))) = some (r1, r2) := by rw [if_pos rfl] at H; exact H
       clear H
       have H := H1
       clear H1
       replace H := Option.bind_eq_some_iff.mp H
       obtain ⟨⟨t171, t172⟩, A110, H⟩ := H
       replace H : ((rollbacknetmake_Codes_Int.f s0_0 t172).bind fun bt173 => (if 0 ≤ t171 then (if t171 < (x5_1.length : Int) then (rollbacknetlaw07_change.l0 kj6 (x5_1.set (t171 : Int).toNat bt173.1) (wrap64 (x6_1 - 1)) s0_0 bt173.2) else (none)) else (none))) = some (r1, r2) := H
       have A11 := aM A110
       clear A110
       replace H := Option.bind_eq_some_iff.mp H
       obtain ⟨⟨t173, t174⟩, A120, H⟩ := H
       replace H : (if 0 ≤ t171 then (if t171 < (x5_1.length : Int) then (rollbacknetlaw07_change.l0 kj6 (x5_1.set (t171 : Int).toNat t173) (wrap64 (x6_1 - 1)) s0_0 t174) else (none)) else (none)) = some (r1, r2) := H
       have A12 := aM A120
       clear A120
       by_cases c13 : 0 ≤ t171
       ·rw [if_pos c13] at H
        have c13b0 : decide (0 ≤ t171) = true := decide_eq_true c13
        clear c13
        by_cases c14 : t171 < (x5_1.length : Int)
        ·rw [if_pos c14] at H
         have c14b0 : decide (t171 < (x5_1.length : Int)) = true := decide_eq_true c14
         clear c14
         obtain ⟨y175, hy175⟩ : ∃ y_ : List Int, y_ = (x5_1.set (t171 : Int).toNat t173) := ⟨_, rfl⟩
         replace H : (rollbacknetlaw07_change.l0 kj6 y175 (wrap64 (x6_1 - 1)) s0_0 t174) = some (r1, r2) := by first | (rw [hy175]; with_reducible exact H) | (have H2_ := (Option.bind_some _ _).symm.trans H; rw [hy175]; with_reducible exact H2_) | (have H2_ := (Option.bind_some _ _).symm.trans H; with_reducible exact H2_) | with_reducible exact H | (rw [hy175]; exact H) | exact H
         have Ny175 := aM hy175
         clear hy175
         have H' := aM H
         clear H
         obtain ⟨Ao16, co16, eo16⟩ := Kd.R_slice HO_5.out
         subst eo16
         go_wp2_with (first | ((with_reducible refine gate_callee (f := 28) rfl ?_); refine goesL_ (some 24) rfl rfl Try.func28 (by kernel_rfl) rfl #[.pointer (some ⟨g, 0, none⟩), .int .i64 (x5_1.length : Int)] rfl (by (try simp only [List.map_toArray, List.map_cons, List.map_nil]); first | done | rfl | (simp only [List.length_drop, List.length_take]; rfl)) ?_; (with_reducible refine (rollbacknetmake_Codes_Next.calls g s0_0 x1001_1 (x5_1.length : Int) t171 t172 w0 _ ?side1 ?side2 A11.out).mono ?_); (case side1 => repeat (first | (with_reducible first | exact HI0.out | apply IsS53.alloc | apply IsS53.drewN | apply IsS53.drew | apply IsS53.set_1) | exact HI0.out)); (case side2 => repeat (first | (with_reducible first | exact HB.out | apply wA | apply wN | apply wD | refine below_set ?_ (IsS53.ge HI0.out)) | exact HB.out)); rintro e w17 ⟨rfl, hi, hb, hk⟩; refine ⟨_, rfl, ?_⟩; have n0_ := aM (Kd.R_mono (Kd.R_keep (IsS53.apart (show IsS53 w0 _ g s0_0 x1001_1 from by repeat (first | (with_reducible first | exact HI0.out | apply IsS53.alloc | apply IsS53.drewN | apply IsS53.drew | apply IsS53.set_1) | exact HI0.out)) (by (with_reducible repeat (first | apply Kd.R_alloc | apply Kd.R_drewN | apply Kd.R_drew)); exact HO_5.out) (by decide)) hk (fun _ h => h.2)) (fun _ h => h.1)); have n1_ := aM (KeepBut.trans (by repeat (first | (with_reducible first | exact HK.out | apply KeepBut.set_ | apply kN | apply kD | apply kA) | exact HK.out)) hk (.inl rfl)); have n2_ := aM (hb); have n3_ := aM (hi); clear HO_5; clear HK; clear HB; clear HI0; have HO_5 := n0_; have HK := n1_; have HB := n2_; have HI0 := n3_; clear n0_ n1_ n2_ n3_; (try clear hb); (try clear hb2); (try clear hk); (try clear hi); (try clear hge_)) | ((with_reducible refine gate_callee (f := 29) rfl ?_); refine goesL_ (some 26) rfl rfl Try.func29 (by kernel_rfl) rfl #[.pointer (some ⟨g, 0, none⟩)] rfl (by (try simp only [List.map_toArray, List.map_cons, List.map_nil]); first | done | rfl | (simp only [List.length_drop, List.length_take]; rfl)) ?_; (with_reducible refine (rollbacknetmake_Codes_Int.calls g s0_0 t172 t173 t174 w0 _ ?side1 ?side2 A12.out).mono ?_); (case side1 => repeat (first | (with_reducible first | exact HI0.out | apply IsS53.alloc | apply IsS53.drewN | apply IsS53.drew | apply IsS53.set_1) | exact HI0.out)); (case side2 => repeat (first | (with_reducible first | exact HB.out | apply wA | apply wN | apply wD | refine below_set ?_ (IsS53.ge HI0.out)) | exact HB.out)); rintro e w18 ⟨rfl, hi, hb, hk⟩; refine ⟨_, rfl, ?_⟩; have n0_ := aM (Kd.R_mono (Kd.R_keep (IsS53.apart (show IsS53 w0 _ g s0_0 t172 from by repeat (first | (with_reducible first | exact HI0.out | apply IsS53.alloc | apply IsS53.drewN | apply IsS53.drew | apply IsS53.set_1) | exact HI0.out)) (by (with_reducible repeat (first | apply Kd.R_alloc | apply Kd.R_drewN | apply Kd.R_drew)); exact HO_5.out) (by decide)) hk (fun _ h => h.2)) (fun _ h => h.1)); have n1_ := aM (KeepBut.trans (by repeat (first | (with_reducible first | exact HK.out | apply KeepBut.set_ | apply kN | apply kD | apply kA) | exact HK.out)) hk (.inl rfl)); have n2_ := aM (hb); have n3_ := aM (hi); clear HO_5; clear HK; clear HB; clear HI0; have HO_5 := n0_; have HK := n1_; have HB := n2_; have HI0 := n3_; clear n0_ n1_ n2_ n3_; (try clear hb); (try clear hb2); (try clear hk); (try clear hi); (try clear hge_); have p15 : 0 ≤ (t171 : Int) := of_decide_eq_true (by first | (with_reducible assumption) | assumption); have q15 : (t171 : Int) < ((x5_1.length : Int) : Int) := of_decide_eq_true (by first | (with_reducible assumption) | assumption); obtain ⟨go15, co15, eo15, gb15, gl15, cl15, HG15⟩ := Kd.R_form HO_5.out (by omega); (first | cases eo15 | (injection eo15 with ea_ en_ ec_; (first | subst ea_ | (injection ea_ with ea_; subst ea_)); subst ec_; clear en_)); have GB15 := aM gb15; have GG15 := aM HG15; clear gb15 gl15 HG15; obtain ⟨hx15_0, hf15_0⟩ := Kd.R_celln 0 HO_5.out (t171 : Int) p15 q15; replace p15 := eq_true p15; replace q15 := eq_true q15; obtain ⟨hy19_, hz19_⟩ := Kd.R_celln 0 HO_5.out (t171 : Int) (of_decide_eq_true (by first | (with_reducible assumption) | assumption)) (of_decide_eq_true (by first | (with_reducible assumption) | assumption)); have HP19 := Kd.R_putg HO_5.out (t171 : Int) t173) | ((with_reducible refine gate_store (t := 3) (p := 27) rfl ?_); refine store_event (t := 3) (p := 27) (v := ?vo_w20) (w1 := (w18.setCell ⟨go15, (t171 : Int).toNat, none⟩ (.int .i64 t173))) ?hg ?ho ?hn ?hr ?_; (case ho => rfl); (case hg => rfl); (case hn => rfl); (case hr => first | (go_simp; done) | (go_simp; rfl)); intro w20 hw; have hg : w18.grownBy w20 (some go15) := (by rw [hw]; exact HP19.2); have hp_ : Kd.R (Kd.int .i64) 3 w20 w.heap.size (fun _ => True) (.slice (some ⟨go15, 0, none⟩) x5_1.length co16) y175 := (by rw [hw, Ny175.out]; exact HP19.1); clear HP19; have n0_ := aM (hp_); have n1_ := aM (IsS53.grown (by repeat (first | (with_reducible first | exact HI0.out | apply IsS53.alloc | apply IsS53.drewN | apply IsS53.drew | apply IsS53.set_1) | exact HI0.out)) hg (IsS53.own_ne HI0.out HO_5.out (by decide))); have n2_ := aM ((by rw [hw]; exact below_set (HB.out) (Nat.le_trans HL.out GB15.out) : Below w0.heap.size w0 w20)); have n3_ := aM (KeepBut.trans (by repeat (first | (with_reducible first | exact HK.out | apply KeepBut.set_ | apply kN | apply kD | apply kA) | exact HK.out)) (KeepBut.of_grown hg g) (Kd.R_base2 HO_5.out)); clear HO_5; clear HI0; clear HB; clear HK; have HO_5 := n0_; have HI0 := n1_; have HB := n2_; have HK := n3_; clear n0_ n1_ n2_ n3_; clear hg hw hp_))
         go_roundg kj6
         case measure => have := HK1.out; have := HJ6.out; omega
         case rel => exact ⟨(y175), (wrap64 (x6_1 - 1)), (t174), (by first | rfl | (simp; done) | (simp [*]; done)), H', ⟨by have := HK1.out; have := HJ6.out; omega⟩, ⟨by (with_reducible repeat (first | apply Kd.R_alloc | apply Kd.R_drewN | apply Kd.R_drew)); exact HO_5.out⟩, ⟨by repeat (first | (with_reducible first | exact HI0.out | apply IsS53.alloc | apply IsS53.drewN | apply IsS53.drew | apply IsS53.set_1) | exact HI0.out)⟩, ⟨by repeat (first | (with_reducible first | exact HK.out | apply KeepBut.set_ | apply kN | apply kD | apply kA) | exact HK.out)⟩, ⟨by repeat (first | (with_reducible first | exact HB.out | apply wA | apply wN | apply wD | refine below_set ?_ (IsS53.ge HI0.out)) | exact HB.out)⟩⟩
        ·rw [if_neg c14] at H
         exact absurd H (by simp)
       ·rw [if_neg c13] at H
        exact absurd H (by simp)
      ·replace c10 := Bool.eq_false_iff.mpr c10
       subst c10
       have H1 : (some (x5_1, x1001_1)) = some (r1, r2) := by rw [if_neg (show ¬ (false = true) by decide)] at H; exact H
       clear H
       have H := H1
       clear H1
       simp only [Option.some.injEq, Prod.mk.injEq] at H
       obtain ⟨rfl, rfl⟩ := H
       go_wp2
       go_ret
       exact ⟨_, by first | rfl | (simp [errW_none, errW_some] <;> rfl) | (simp [*, errW_none, errW_some] <;> rfl), by (with_reducible repeat (first | apply Kd.R_alloc | apply Kd.R_drewN | apply Kd.R_drew)); exact HO_5.out, by repeat (first | (with_reducible first | exact HI0.out | apply IsS53.alloc | apply IsS53.drewN | apply IsS53.drew | apply IsS53.set_1) | exact HI0.out), by repeat (first | (with_reducible first | exact HB.out | apply wA | apply wN | apply wD | refine below_set ?_ (IsS53.ge HI0.out)) | exact HB.out), by repeat (first | (with_reducible first | exact HK.out | apply KeepBut.set_ | apply kN | apply kD | apply kA) | exact HK.out)⟩
 ·rw [if_neg c3] at H
  exact absurd H (by simp)

end Go.Proofs.Ytkjnledamamniaa.PIm
