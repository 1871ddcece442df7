-- Laid by wip/tools/xprint.py, a program of this session over the kit's print: functions as Lean functions, each with its contract.
import Derived.Test.YtiflebfnhjlfdaaPNkx0
import Derived.Test.YtiflebfnhjlfdaaPNkx5
import Derived.Test.YtiflebfnhjlfdaaPNkx6
namespace Go.Proofs.Ytiflebfnhjlfdaa.PNk
open Go.RowKit Go.Proofs.YtiflebfnhjlfdaaW.PrintWords Go.Proofs.YtiflebfnhjlfdaaW.PrintLast Go.Proofs.YtiflebfnhjlfdaaW.PrintMore
attribute [local go_sem] max2_int min2_int max_two min_two max_three min_three max_four min_four   -- for this text's walks alone
set_option linter.unusedVariables false
set_option linter.unusedSimpArgs false

/-! ### rollbacknetlaw14_messages: function 9 -/
def rollbacknetlaw14_messages.l0 : Nat → List (S32) → Int → List Int → Int → Option ((List (S32)))
 | 0, _, _, _, _ => none
 | k + 1, x6, x7, x129000, x129001 => if x7 > 0 then ((rollbacknetmake_Codes_Next.f x129000 x129001 3).bind fun bt131 => ((rollbacknetmake_Codes_Next.f x129000 bt131.2 2).bind fun bt133 => ((rollbacknetmake_Codes_Next.f x129000 bt133.2 2).bind fun bt135 => ((rollbacknetmake_Codes_Next.f x129000 bt135.2 4).bind fun bt137 => ((rollbacknetmake_Codes_Next.f x129000 bt137.2 2).bind fun bt139 => ((rollbacknetmake_Codes_Int.f x129000 bt139.2).bind fun bt141 => (if x6.length < 1353245080339 then (rollbacknetlaw14_messages.l0 k (x6 ++ [(⟨bt131.1, Int.tmod (wrap64 ((wrap64 (bt131.1 + 1)) + bt133.1)) 3, (⟨bt135.1, bt137.1⟩ : S24), bt139.1, bt141.1, 0, ([] : List Int), ([] : List (S69))⟩ : S32)]) (wrap64 (x7 - 1)) x129000 bt141.2) else (none)))))))) else (some x6)
def rollbacknetlaw14_messages.f (k : Nat) (l0 : List Int) (a1 : Int) : Option ((List (S32))) := (rollbacknetmake_New.f l0 200).bind fun bt126 => ((rollbacknetmake_Codes_Next.f bt126.1 bt126.2 (wrap64 (a1 + 1))).bind fun bt129 => (rollbacknetlaw14_messages.l0 k ([] : List (S32)) bt129.1 bt126.1 bt129.2))
theorem rollbacknetlaw14_messages.mono_l : ∀ k, (∀ y0 y1 y2 y3, LeO (rollbacknetlaw14_messages.l0 k y0 y1 y2 y3) (rollbacknetlaw14_messages.l0 (k + 1) y0 y1 y2 y3))
 | 0 => fun _ _ _ _ r h => by simp [rollbacknetlaw14_messages.l0] at h
 | k + 1 => by
  have ih0 := rollbacknetlaw14_messages.mono_l k
  ·intro y0 y1 y2 y3
   unfold rollbacknetlaw14_messages.l0
   repeat' first
   | (with_reducible exact ih0 _ _ _ _)
   | (with_reducible exact LeO.refl _)
   | (with_reducible exact LeO.none _)
   | (with_reducible refine LeO.ite ?_ ?_)
   | (with_reducible refine LeO.bind ?_ (fun _ => ?_))
   | exact ih0 _ _ _ _
   | exact LeO.none _
   | refine LeO.ite ?_ ?_
   | refine LeO.bind ?_ (fun _ => ?_)
theorem rollbacknetlaw14_messages.mono : ∀ a0 a1 k, LeO (rollbacknetlaw14_messages.f k a0 a1) (rollbacknetlaw14_messages.f (k + 1) a0 a1) := by
 intro a0 a1 k
 have ih0 := rollbacknetlaw14_messages.mono_l k
 unfold rollbacknetlaw14_messages.f
 repeat' first
   | (with_reducible exact ih0 _ _ _ _)
   | (with_reducible exact LeO.refl _)
   | (with_reducible exact LeO.none _)
   | (with_reducible refine LeO.ite ?_ ?_)
   | (with_reducible refine LeO.bind ?_ (fun _ => ?_))
   | exact ih0 _ _ _ _
   | exact LeO.none _
   | refine LeO.ite ?_ ?_
   | refine LeO.bind ?_ (fun _ => ?_)
set_option maxHeartbeats 8000000 in
set_option maxRecDepth 100000 in
theorem rollbacknetlaw14_messages.calls (k : Nat) (A0 : Option Addr) (c0 : Nat) (l0 : List Int) (a1 : Int) (r : List (S32)) (w : World) (hr0 : Kd.C (Kd.int .u8) w A0 l0.length l0) (hc0 : l0.length ≤ c0) (h : rollbacknetlaw14_messages.f k l0 a1 = some r) :
  Calls Try.prog 9 #[.slice A0 l0.length c0, .int .i64 a1] w fun e w' => ∃ v0_ : Value, e = .returned (v0_) ∧ Kd.S k32 32 w' w.heap.size (fun _ => True) v0_ r ∧ Below w.heap.size w w' := by
 have hu24 := Try.underlying24
 have hu32 := Try.underlying32
 have HR0 := aM hr0
 have HC0 := aM hc0
 clear hr0 hc0
 have HB := aM (Below.refl w.heap.size w)
 have H : ((rollbacknetmake_New.f l0 200).bind fun bt126 => ((rollbacknetmake_Codes_Next.f bt126.1 bt126.2 (wrap64 (a1 + 1))).bind fun bt129 => (rollbacknetlaw14_messages.l0 k ([] : List (S32)) bt129.1 bt126.1 bt129.2))) = some r := h
 clear h
 replace H := Option.bind_eq_some_iff.mp H
 obtain ⟨⟨t126, t127⟩, A30, H⟩ := H
 replace H : ((rollbacknetmake_Codes_Next.f t126 t127 (wrap64 (a1 + 1))).bind fun bt129 => (rollbacknetlaw14_messages.l0 k ([] : List (S32)) bt129.1 t126 bt129.2)) = some r := H
 have A3 := aM A30
 clear A30
 replace H := Option.bind_eq_some_iff.mp H
 obtain ⟨⟨t129, t130⟩, A40, H⟩ := H
 replace H : (rollbacknetlaw14_messages.l0 k ([] : List (S32)) t129 t126 t130) = some r := H
 have A4 := aM A40
 clear A40
 have H' := aM H
 clear H
 go_enter Try.func9, Try.ntmps9
 go_wp2_with (first | ((with_reducible refine gate_callee (f := 27) rfl ?_); refine goesL_ (some 10) rfl rfl Try.func27 (by kernel_rfl) rfl #[.slice A0 l0.length c0, .int .i64 200] rfl (by (try simp only [List.map_toArray, List.map_cons, List.map_nil]); first | done | rfl | (simp only [List.length_drop, List.length_take]; rfl)) ?_; (with_reducible refine (rollbacknetmake_New.calls _ _ l0 200 t126 t127 w _ ?side1 ?side2 ?side3 A3.out).mono ?_); (case side1 => repeat (first | (with_reducible first | exact HB.out | apply wA | apply wN | apply wD) | exact HB.out)); (case side2 => exact HR0.out); (case side3 => exact HC0.out); rintro e w5 ⟨g128, rfl, hi, hb, hb2, hge_⟩; refine ⟨_, rfl, ?_⟩; have n0_ := aM (hb); have n1_ := aM (hi); clear HB; have HB := n0_; have HI128 := n1_; clear n0_ n1_; (try clear hb); (try clear hb2); (try clear hk); (try clear hi); (try clear hge_)) | ((with_reducible refine gate_callee (f := 28) rfl ?_); refine goesL_ (some 14) rfl rfl Try.func28 (by kernel_rfl) rfl #[.pointer (some ⟨g128, 0, none⟩), .int .i64 (wrap64 (a1 + 1))] rfl (by (try simp only [List.map_toArray, List.map_cons, List.map_nil]); first | done | rfl | (simp only [List.length_drop, List.length_take]; rfl)) ?_; (with_reducible refine (rollbacknetmake_Codes_Next.calls g128 t126 t127 (wrap64 (a1 + 1)) t129 t130 w _ ?side1 ?side2 A4.out).mono ?_); (case side1 => repeat (first | (with_reducible first | exact HI128.out | apply IsS71.alloc | apply IsS71.drewN | apply IsS71.drew | apply IsS71.set_1) | exact HI128.out)); (case side2 => repeat (first | (with_reducible first | exact HB.out | apply wA | apply wN | apply wD | refine below_set ?_ (IsS71.ge HI128.out)) | exact HB.out)); rintro e w6 ⟨rfl, hi, hb, hk⟩; refine ⟨_, rfl, ?_⟩; have n0_ := aM (hb); have n1_ := aM (hi); clear HB; clear HI128; have HB := n0_; have HI128 := n1_; clear n0_ n1_; (try clear hb); (try clear hb2); (try clear hk); (try clear hi); (try clear hge_)))
 go_loopg [6, 7] k (fun kq v6 v7 w' => ∃ (x6_1 : List (S32)) (x7_1 : Int) (x129001_1 : Int), v7 = .int .i64 x7_1 ∧ Aside0 (rollbacknetlaw14_messages.l0 kq x6_1 x7_1 t126 x129001_1 = some r) ∧ Aside0 (kq ≤ k) ∧ Aside0 (Kd.S k32 32 w' w.heap.size (fun _ => True) v6 x6_1) ∧ Aside0 (IsS71 w w' g128 t126 x129001_1) ∧ Aside0 (Below w.heap.size w w'))
 case atStart => exact ⟨(([] : List (S32))), (t129), (t130), (by first | rfl | (simp; done) | (simp [*]; done)), H', ⟨Nat.le_refl _⟩, ⟨by first | exact Kd.S_nil _ _ _ _ _ | exact Kd.N_nil _ _ _ _ _ | exact Kd.V_nil _ _ _ _ _ | exact Kd.Q_nil _ _ _ _ _ | exact Kd.R_nil _ _ _ _ _⟩, ⟨by repeat (first | (with_reducible first | exact HI128.out | apply IsS71.alloc | apply IsS71.drewN | apply IsS71.drew | apply IsS71.set_1) | exact HI128.out)⟩, ⟨by repeat (first | (with_reducible first | exact HB.out | apply wA | apply wN | apply wD | refine below_set ?_ (IsS71.ge HI128.out)) | exact HB.out)⟩⟩
 case round =>
  clear H'
  try clear c2
  try clear p2
  try clear p6
  obtain ⟨x6_1, x7_1, x129001_1, rfl, HA, HK1, HO_6, HI128, HB⟩ := hrel
  cases gk with
  | zero => exact absurd HA.out (by simp [rollbacknetlaw14_messages.l0])
  | succ k1 =>
   have H := HA.out
   clear HA
   simp only [rollbacknetlaw14_messages.l0] at H
   by_cases c7 : x7_1 > 0
   ·rw [if_pos c7] at H
    have c7b0 : decide (0 < x7_1) = true := decide_eq_true c7
    clear c7
    replace H := Option.bind_eq_some_iff.mp H
    obtain ⟨⟨t131, t132⟩, A80, H⟩ := H
    replace H : ((rollbacknetmake_Codes_Next.f t126 t132 2).bind fun bt133 => ((rollbacknetmake_Codes_Next.f t126 bt133.2 2).bind fun bt135 => ((rollbacknetmake_Codes_Next.f t126 bt135.2 4).bind fun bt137 => ((rollbacknetmake_Codes_Next.f t126 bt137.2 2).bind fun bt139 => ((rollbacknetmake_Codes_Int.f t126 bt139.2).bind fun bt141 => (if x6_1.length < 1353245080339 then (rollbacknetlaw14_messages.l0 k1 (x6_1 ++ [(⟨t131, Int.tmod (wrap64 ((wrap64 (t131 + 1)) + bt133.1)) 3, (⟨bt135.1, bt137.1⟩ : S24), bt139.1, bt141.1, 0, ([] : List Int), ([] : List (S69))⟩ : S32)]) (wrap64 (x7_1 - 1)) t126 bt141.2) else (none))))))) = some r := H
    have A8 := aM A80
    clear A80
    replace H := Option.bind_eq_some_iff.mp H
    obtain ⟨⟨t133, t134⟩, A90, H⟩ := H
    replace H : ((rollbacknetmake_Codes_Next.f t126 t134 2).bind fun bt135 => ((rollbacknetmake_Codes_Next.f t126 bt135.2 4).bind fun bt137 => ((rollbacknetmake_Codes_Next.f t126 bt137.2 2).bind fun bt139 => ((rollbacknetmake_Codes_Int.f t126 bt139.2).bind fun bt141 => (if x6_1.length < 1353245080339 then (rollbacknetlaw14_messages.l0 k1 (x6_1 ++ [(⟨t131, Int.tmod (wrap64 ((wrap64 (t131 + 1)) + t133)) 3, (⟨bt135.1, bt137.1⟩ : S24), bt139.1, bt141.1, 0, ([] : List Int), ([] : List (S69))⟩ : S32)]) (wrap64 (x7_1 - 1)) t126 bt141.2) else (none)))))) = some r := H
    have A9 := aM A90
    clear A90
    replace H := Option.bind_eq_some_iff.mp H
    obtain ⟨⟨t135, t136⟩, A100, H⟩ := H
    replace H : ((rollbacknetmake_Codes_Next.f t126 t136 4).bind fun bt137 => ((rollbacknetmake_Codes_Next.f t126 bt137.2 2).bind fun bt139 => ((rollbacknetmake_Codes_Int.f t126 bt139.2).bind fun bt141 => (if x6_1.length < 1353245080339 then (rollbacknetlaw14_messages.l0 k1 (x6_1 ++ [(⟨t131, Int.tmod (wrap64 ((wrap64 (t131 + 1)) + t133)) 3, (⟨t135, bt137.1⟩ : S24), bt139.1, bt141.1, 0, ([] : List Int), ([] : List (S69))⟩ : S32)]) (wrap64 (x7_1 - 1)) t126 bt141.2) else (none))))) = some r := H
    have A10 := aM A100
    clear A100
    replace H := Option.bind_eq_some_iff.mp H
    obtain ⟨⟨t137, t138⟩, A110, H⟩ := H
    replace H : ((rollbacknetmake_Codes_Next.f t126 t138 2).bind fun bt139 => ((rollbacknetmake_Codes_Int.f t126 bt139.2).bind fun bt141 => (if x6_1.length < 1353245080339 then (rollbacknetlaw14_messages.l0 k1 (x6_1 ++ [(⟨t131, Int.tmod (wrap64 ((wrap64 (t131 + 1)) + t133)) 3, (⟨t135, t137⟩ : S24), bt139.1, bt141.1, 0, ([] : List Int), ([] : List (S69))⟩ : S32)]) (wrap64 (x7_1 - 1)) t126 bt141.2) else (none)))) = some r := H
    have A11 := aM A110
    clear A110
    replace H := Option.bind_eq_some_iff.mp H
    obtain ⟨⟨t139, t140⟩, A120, H⟩ := H
    replace H : ((rollbacknetmake_Codes_Int.f t126 t140).bind fun bt141 => (if x6_1.length < 1353245080339 then (rollbacknetlaw14_messages.l0 k1 (x6_1 ++ [(⟨t131, Int.tmod (wrap64 ((wrap64 (t131 + 1)) + t133)) 3, (⟨t135, t137⟩ : S24), t139, bt141.1, 0, ([] : List Int), ([] : List (S69))⟩ : S32)]) (wrap64 (x7_1 - 1)) t126 bt141.2) else (none))) = some r := H
    have A12 := aM A120
    clear A120
    replace H := Option.bind_eq_some_iff.mp H
    obtain ⟨⟨t141, t142⟩, A130, H⟩ := H
    replace H : (if x6_1.length < 1353245080339 then (rollbacknetlaw14_messages.l0 k1 (x6_1 ++ [(⟨t131, Int.tmod (wrap64 ((wrap64 (t131 + 1)) + t133)) 3, (⟨t135, t137⟩ : S24), t139, t141, 0, ([] : List Int), ([] : List (S69))⟩ : S32)]) (wrap64 (x7_1 - 1)) t126 t142) else (none)) = some r := H
    have A13 := aM A130
    clear A130
    by_cases c14 : x6_1.length < 1353245080339
    ·rw [if_pos c14] at H
     have LMc14 := aM c14
     clear c14
     obtain ⟨y143, hy143⟩ : ∃ y_ : List (S32), y_ = (x6_1 ++ [(⟨t131, Int.tmod (wrap64 ((wrap64 (t131 + 1)) + t133)) 3, (⟨t135, t137⟩ : S24), t139, t141, 0, ([] : List Int), ([] : List (S69))⟩ : S32)]) := ⟨_, rfl⟩
     replace H : (rollbacknetlaw14_messages.l0 k1 y143 (wrap64 (x7_1 - 1)) t126 t142) = some r := by first | (rw [hy143]; with_reducible exact H) | (have H2_ := (Option.bind_some _ _).symm.trans H; rw [hy143]; with_reducible exact H2_) | (have H2_ := (Option.bind_some _ _).symm.trans H; with_reducible exact H2_) | with_reducible exact H | (rw [hy143]; exact H) | exact H
     have Ny143 := aM hy143
     clear hy143
     have H' := aM H
     clear H
     go_wp2_with (first | ((with_reducible refine gate_callee (f := 28) rfl ?_); refine goesL_ (some 20) rfl rfl Try.func28 (by kernel_rfl) rfl #[.pointer (some ⟨g128, 0, none⟩), .int .i64 3] rfl (by (try simp only [List.map_toArray, List.map_cons, List.map_nil]); first | done | rfl | (simp only [List.length_drop, List.length_take]; rfl)) ?_; (with_reducible refine (rollbacknetmake_Codes_Next.calls g128 t126 x129001_1 3 t131 t132 w _ ?side1 ?side2 A8.out).mono ?_); (case side1 => repeat (first | (with_reducible first | exact HI128.out | apply IsS71.alloc | apply IsS71.drewN | apply IsS71.drew | apply IsS71.set_1) | exact HI128.out)); (case side2 => repeat (first | (with_reducible first | exact HB.out | apply wA | apply wN | apply wD | refine below_set ?_ (IsS71.ge HI128.out)) | exact HB.out)); rintro e w15 ⟨rfl, hi, hb, hk⟩; refine ⟨_, rfl, ?_⟩; have n0_ := aM (Kd.S_mono (Kd.S_keep (IsS71.apartS (show IsS71 w _ g128 t126 x129001_1 from by repeat (first | (with_reducible first | exact HI128.out | apply IsS71.alloc | apply IsS71.drewN | apply IsS71.drew | apply IsS71.set_1) | exact HI128.out)) (by (with_reducible repeat (first | apply Kd.S_alloc | apply Kd.S_drewN | apply Kd.S_drew)); exact HO_6.out) (by decide)) hk (fun _ h => h.2)) (fun _ h => h.1)); have n1_ := aM (hb); have n2_ := aM (hi); clear HO_6; clear HB; clear HI128; have HO_6 := n0_; have HB := n1_; have HI128 := n2_; clear n0_ n1_ n2_; (try clear hb); (try clear hb2); (try clear hk); (try clear hi); (try clear hge_)) | ((with_reducible refine gate_callee (f := 28) rfl ?_); refine goesL_ (some 26) rfl rfl Try.func28 (by kernel_rfl) rfl #[.pointer (some ⟨g128, 0, none⟩), .int .i64 2] rfl (by (try simp only [List.map_toArray, List.map_cons, List.map_nil]); first | done | rfl | (simp only [List.length_drop, List.length_take]; rfl)) ?_; (with_reducible refine (rollbacknetmake_Codes_Next.calls g128 t126 t132 2 t133 t134 w _ ?side1 ?side2 A9.out).mono ?_); (case side1 => repeat (first | (with_reducible first | exact HI128.out | apply IsS71.alloc | apply IsS71.drewN | apply IsS71.drew | apply IsS71.set_1) | exact HI128.out)); (case side2 => repeat (first | (with_reducible first | exact HB.out | apply wA | apply wN | apply wD | refine below_set ?_ (IsS71.ge HI128.out)) | exact HB.out)); rintro e w16 ⟨rfl, hi, hb, hk⟩; refine ⟨_, rfl, ?_⟩; have n0_ := aM (Kd.S_mono (Kd.S_keep (IsS71.apartS (show IsS71 w _ g128 t126 t132 from by repeat (first | (with_reducible first | exact HI128.out | apply IsS71.alloc | apply IsS71.drewN | apply IsS71.drew | apply IsS71.set_1) | exact HI128.out)) (by (with_reducible repeat (first | apply Kd.S_alloc | apply Kd.S_drewN | apply Kd.S_drew)); exact HO_6.out) (by decide)) hk (fun _ h => h.2)) (fun _ h => h.1)); have n1_ := aM (hb); have n2_ := aM (hi); clear HO_6; clear HB; clear HI128; have HO_6 := n0_; have HB := n1_; have HI128 := n2_; clear n0_ n1_ n2_; (try clear hb); (try clear hb2); (try clear hk); (try clear hi); (try clear hge_)) | ((with_reducible refine gate_callee (f := 28) rfl ?_); refine goesL_ (some 30) rfl rfl Try.func28 (by kernel_rfl) rfl #[.pointer (some ⟨g128, 0, none⟩), .int .i64 2] rfl (by (try simp only [List.map_toArray, List.map_cons, List.map_nil]); first | done | rfl | (simp only [List.length_drop, List.length_take]; rfl)) ?_; (with_reducible refine (rollbacknetmake_Codes_Next.calls g128 t126 t134 2 t135 t136 w _ ?side1 ?side2 A10.out).mono ?_); (case side1 => repeat (first | (with_reducible first | exact HI128.out | apply IsS71.alloc | apply IsS71.drewN | apply IsS71.drew | apply IsS71.set_1) | exact HI128.out)); (case side2 => repeat (first | (with_reducible first | exact HB.out | apply wA | apply wN | apply wD | refine below_set ?_ (IsS71.ge HI128.out)) | exact HB.out)); rintro e w17 ⟨rfl, hi, hb, hk⟩; refine ⟨_, rfl, ?_⟩; have n0_ := aM (Kd.S_mono (Kd.S_keep (IsS71.apartS (show IsS71 w _ g128 t126 t134 from by repeat (first | (with_reducible first | exact HI128.out | apply IsS71.alloc | apply IsS71.drewN | apply IsS71.drew | apply IsS71.set_1) | exact HI128.out)) (by (with_reducible repeat (first | apply Kd.S_alloc | apply Kd.S_drewN | apply Kd.S_drew)); exact HO_6.out) (by decide)) hk (fun _ h => h.2)) (fun _ h => h.1)); have n1_ := aM (hb); have n2_ := aM (hi); clear HO_6; clear HB; clear HI128; have HO_6 := n0_; have HB := n1_; have HI128 := n2_; clear n0_ n1_ n2_; (try clear hb); (try clear hb2); (try clear hk); (try clear hi); (try clear hge_)) | ((with_reducible refine gate_callee (f := 28) rfl ?_); refine goesL_ (some 32) rfl rfl Try.func28 (by kernel_rfl) rfl #[.pointer (some ⟨g128, 0, none⟩), .int .i64 4] rfl (by (try simp only [List.map_toArray, List.map_cons, List.map_nil]); first | done | rfl | (simp only [List.length_drop, List.length_take]; rfl)) ?_; (with_reducible refine (rollbacknetmake_Codes_Next.calls g128 t126 t136 4 t137 t138 w _ ?side1 ?side2 A11.out).mono ?_); (case side1 => repeat (first | (with_reducible first | exact HI128.out | apply IsS71.alloc | apply IsS71.drewN | apply IsS71.drew | apply IsS71.set_1) | exact HI128.out)); (case side2 => repeat (first | (with_reducible first | exact HB.out | apply wA | apply wN | apply wD | refine below_set ?_ (IsS71.ge HI128.out)) | exact HB.out)); rintro e w18 ⟨rfl, hi, hb, hk⟩; refine ⟨_, rfl, ?_⟩; have n0_ := aM (Kd.S_mono (Kd.S_keep (IsS71.apartS (show IsS71 w _ g128 t126 t136 from by repeat (first | (with_reducible first | exact HI128.out | apply IsS71.alloc | apply IsS71.drewN | apply IsS71.drew | apply IsS71.set_1) | exact HI128.out)) (by (with_reducible repeat (first | apply Kd.S_alloc | apply Kd.S_drewN | apply Kd.S_drew)); exact HO_6.out) (by decide)) hk (fun _ h => h.2)) (fun _ h => h.1)); have n1_ := aM (hb); have n2_ := aM (hi); clear HO_6; clear HB; clear HI128; have HO_6 := n0_; have HB := n1_; have HI128 := n2_; clear n0_ n1_ n2_; (try clear hb); (try clear hb2); (try clear hk); (try clear hi); (try clear hge_)) | ((with_reducible refine gate_callee (f := 28) rfl ?_); refine goesL_ (some 35) rfl rfl Try.func28 (by kernel_rfl) rfl #[.pointer (some ⟨g128, 0, none⟩), .int .i64 2] rfl (by (try simp only [List.map_toArray, List.map_cons, List.map_nil]); first | done | rfl | (simp only [List.length_drop, List.length_take]; rfl)) ?_; (with_reducible refine (rollbacknetmake_Codes_Next.calls g128 t126 t138 2 t139 t140 w _ ?side1 ?side2 A12.out).mono ?_); (case side1 => repeat (first | (with_reducible first | exact HI128.out | apply IsS71.alloc | apply IsS71.drewN | apply IsS71.drew | apply IsS71.set_1) | exact HI128.out)); (case side2 => repeat (first | (with_reducible first | exact HB.out | apply wA | apply wN | apply wD | refine below_set ?_ (IsS71.ge HI128.out)) | exact HB.out)); rintro e w19 ⟨rfl, hi, hb, hk⟩; refine ⟨_, rfl, ?_⟩; have n0_ := aM (Kd.S_mono (Kd.S_keep (IsS71.apartS (show IsS71 w _ g128 t126 t138 from by repeat (first | (with_reducible first | exact HI128.out | apply IsS71.alloc | apply IsS71.drewN | apply IsS71.drew | apply IsS71.set_1) | exact HI128.out)) (by (with_reducible repeat (first | apply Kd.S_alloc | apply Kd.S_drewN | apply Kd.S_drew)); exact HO_6.out) (by decide)) hk (fun _ h => h.2)) (fun _ h => h.1)); have n1_ := aM (hb); have n2_ := aM (hi); clear HO_6; clear HB; clear HI128; have HO_6 := n0_; have HB := n1_; have HI128 := n2_; clear n0_ n1_ n2_; (try clear hb); (try clear hb2); (try clear hk); (try clear hi); (try clear hge_)) | ((with_reducible refine gate_callee (f := 29) rfl ?_); refine goesL_ (some 37) rfl rfl Try.func29 (by kernel_rfl) rfl #[.pointer (some ⟨g128, 0, none⟩)] rfl (by (try simp only [List.map_toArray, List.map_cons, List.map_nil]); first | done | rfl | (simp only [List.length_drop, List.length_take]; rfl)) ?_; (with_reducible refine (rollbacknetmake_Codes_Int.calls g128 t126 t140 t141 t142 w _ ?side1 ?side2 A13.out).mono ?_); (case side1 => repeat (first | (with_reducible first | exact HI128.out | apply IsS71.alloc | apply IsS71.drewN | apply IsS71.drew | apply IsS71.set_1) | exact HI128.out)); (case side2 => repeat (first | (with_reducible first | exact HB.out | apply wA | apply wN | apply wD | refine below_set ?_ (IsS71.ge HI128.out)) | exact HB.out)); rintro e w20 ⟨rfl, hi, hb, hk⟩; refine ⟨_, rfl, ?_⟩; have n0_ := aM (Kd.S_mono (Kd.S_keep (IsS71.apartS (show IsS71 w _ g128 t126 t140 from by repeat (first | (with_reducible first | exact HI128.out | apply IsS71.alloc | apply IsS71.drewN | apply IsS71.drew | apply IsS71.set_1) | exact HI128.out)) (by (with_reducible repeat (first | apply Kd.S_alloc | apply Kd.S_drewN | apply Kd.S_drew)); exact HO_6.out) (by decide)) hk (fun _ h => h.2)) (fun _ h => h.1)); have n1_ := aM (hb); have n2_ := aM (hi); clear HO_6; clear HB; clear HI128; have HO_6 := n0_; have HB := n1_; have HI128 := n2_; clear n0_ n1_ n2_; (try clear hb); (try clear hb2); (try clear hk); (try clear hi); (try clear hge_)) | ((with_reducible refine gate_builtin (b := .append) (xs := #[(.tmp 21), .tmp 39]) rfl ?_); at_builtin; refine Kd.S_append k32 (w0 := w) w.heap.size rfl (.tmp 21) (.tmp 39) 26 32 (.agg #[(.int .i64 0), (.int .i64 0), (.int .i64 0), (.int .i64 0), (.int .i64 0), (.int .i64 0), (.int .i64 0), (.slice none 0 0), (.slice none 0 0)]) 104 rfl Try.underlying26 info32 rfl (by decide) (by omega) u6 x6_1 (⟨t131, Int.tmod (wrap64 ((wrap64 (t131 + 1)) + t133)) 3, (⟨t135, t137⟩ : S24), t139, t141, 0, ([] : List Int), ([] : List (S69))⟩ : S32) [.int .i64 t131, .int .i64 (Int.tmod (wrap64 ((wrap64 (t131 + 1)) + t133)) 3), .int .i64 t135, .int .i64 t137, .int .i64 t139, .int .i64 t141, .int .i64 0, .slice none 0 0, .slice none 0 0] (fun _ => True) (fun _ => False) rfl rfl ?aP (fun k_ hk_ => hk_.elim) ?aF ?aO ?aB ?aS ?aL ?_; (case aP => exact k32_mkM _ _ _ (⟨t131, Int.tmod (wrap64 ((wrap64 (t131 + 1)) + t133)) 3, (⟨t135, t137⟩ : S24), t139, t141, 0, ([] : List Int), ([] : List (S69))⟩ : S32) (Kd.R_nil _ _ _ _ _) (Kd.R_nil _ _ _ _ _)); (case aB => exact (by repeat (first | (with_reducible first | exact HB.out | apply wA | apply wN | apply wD | refine below_set ?_ (IsS71.ge HI128.out)) | exact HB.out))); (case aF => exact (fun _ _ => trivial)); (case aO => exact (by (with_reducible repeat (first | apply Kd.S_alloc | apply Kd.S_drewN | apply Kd.S_drew)); exact Kd.S_mono HO_6.out (fun k_ hk => ⟨trivial, fun e_ => e_⟩))); (case aS => exact (below_size (by repeat (first | (with_reducible first | exact HB.out | apply wA | apply wN | apply wD | refine below_set ?_ (IsS71.ge HI128.out)) | exact HB.out)))); (case aL => have := LMc14.out; omega); intro v144 w21 ho hb hg hat; rw [← Ny143.out] at ho; have n0_ := aM (IsS71.grown (by repeat (first | (with_reducible first | exact HI128.out | apply IsS71.alloc | apply IsS71.drewN | apply IsS71.drew | apply IsS71.set_1) | exact HI128.out)) hg (IsS71.own_neS HI128.out HO_6.out (by decide))); have n1_ := aM (hb); have n2_ := aM (ho); clear HI128; clear HB; clear HO_6; have HI128 := n0_; have HB := n1_; have HO145 := n2_; clear n0_ n1_ n2_; clear ho hb hg hat))
     go_roundg k1
     case measure => have := HK1.out; omega
     case rel => exact ⟨(y143), (wrap64 (x7_1 - 1)), (t142), (by first | rfl | (simp; done) | (simp [*]; done)), H', ⟨by have := HK1.out; omega⟩, ⟨by (with_reducible repeat (first | apply Kd.S_alloc | apply Kd.S_drewN | apply Kd.S_drew)); exact HO145.out⟩, ⟨by repeat (first | (with_reducible first | exact HI128.out | apply IsS71.alloc | apply IsS71.drewN | apply IsS71.drew | apply IsS71.set_1) | exact HI128.out)⟩, ⟨by repeat (first | (with_reducible first | exact HB.out | apply wA | apply wN | apply wD | refine below_set ?_ (IsS71.ge HI128.out)) | exact HB.out)⟩⟩
    ·rw [if_neg c14] at H
     exact absurd H (by simp)
   ·rw [if_neg c7] at H
    have c7b0 : decide (0 < x7_1) = false := decide_eq_false c7
    clear c7
    obtain rfl := Option.some.inj H
    go_wp2
    go_ret
    exact ⟨_, by first | rfl | (simp [errW_none, errW_some] <;> rfl) | (simp [*, errW_none, errW_some] <;> rfl), by (with_reducible repeat (first | apply Kd.S_alloc | apply Kd.S_drewN | apply Kd.S_drew)); exact HO_6.out, by repeat (first | (with_reducible first | exact HB.out | apply wA | apply wN | apply wD | refine below_set ?_ (IsS71.ge HI128.out)) | exact HB.out)⟩

/-! ### rollbacknetmake_Mod: function 10 -/
def rollbacknetmake_Mod.f (a0 : Int) (a1 : Int) : Option (Int) := if a1 = 0 then (none) else (if (Int.tmod a0 a1) < 0 then (some (wrap64 ((Int.tmod a0 a1) + a1))) else (some (Int.tmod a0 a1)))
set_option maxHeartbeats 8000000 in
set_option maxRecDepth 100000 in
theorem rollbacknetmake_Mod.calls (a0 : Int) (a1 : Int) (r : Int) (w : World) (h : rollbacknetmake_Mod.f a0 a1 = some r) :
  Calls Try.prog 10 #[.int .i64 a0, .int .i64 a1] w fun e w' => e = .returned (.int .i64 r) ∧ Drawn0 w w' := by
 have H : (if a1 = 0 then (none) else (if (Int.tmod a0 a1) < 0 then (some (wrap64 ((Int.tmod a0 a1) + a1))) else (some (Int.tmod a0 a1)))) = some r := h
 clear h
 by_cases c3 : a1 = 0
 ·rw [if_pos c3] at H
  exact absurd H (by simp)
 ·rw [if_neg c3] at H
  have c3b0 : (a1 == 0) = false := beq_eq_false_iff_ne.mpr c3
  have c3b1 : (a1 != 0) = true := bne_iff_ne.mpr c3
  by_cases c4 : (Int.tmod a0 a1) < 0
  ·rw [if_pos c4] at H
   have c4b0 : decide ((Int.tmod a0 a1) < 0) = true := decide_eq_true c4
   clear c4
   obtain rfl := Option.some.inj H
   go_enter Try.func10, Try.ntmps10
   go_wp2
   go_ret
   exact ⟨by first | rfl | (simp; done) | (simp [*]; done), by repeat (first | exact Drawn0.refl _ | apply Drawn0.step)⟩
  ·rw [if_neg c4] at H
   have c4b0 : decide ((Int.tmod a0 a1) < 0) = false := decide_eq_false c4
   clear c4
   obtain rfl := Option.some.inj H
   go_enter Try.func10, Try.ntmps10
   go_wp2
   go_ret
   exact ⟨by first | rfl | (simp; done) | (simp [*]; done), by repeat (first | exact Drawn0.refl _ | apply Drawn0.step)⟩

end Go.Proofs.Ytiflebfnhjlfdaa.PNk
