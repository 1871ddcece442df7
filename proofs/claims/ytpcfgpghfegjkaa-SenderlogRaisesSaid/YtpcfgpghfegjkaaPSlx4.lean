-- Laid by wip/tools/xprint.py, a program of this session over the kit's print: functions as Lean functions, each with its contract.
import Derived.Test.YtpcfgpghfegjkaaPSlx0
import Derived.Test.YtpcfgpghfegjkaaPSlx1
import Derived.Test.YtpcfgpghfegjkaaPSlx2
namespace Go.Proofs.Ytpcfgpghfegjkaa.PSl
open Go.RowKit Go.Proofs.YtpcfgpghfegjkaaW.PrintWords Go.Proofs.YtpcfgpghfegjkaaW.PrintLast Go.Proofs.YtpcfgpghfegjkaaW.PrintMore
attribute [local go_sem] max2_int min2_int max_two min_two max_three min_three max_four min_four   -- for this text's walks alone
set_option linter.unusedVariables false
set_option linter.unusedSimpArgs false

attribute [local go_sem high] eqA50
/-! ### rollbacknetlaw29_SenderlogEnds: function 4 -/
mutual
def rollbacknetlaw29_SenderlogEnds.l0 : Nat → List (S34) → Int → Int → Int → Option (Bool)
  | 0, _, _, _, _ => none
  | k + 1, x5, x6, x7, x8 => if x8 < (x5.length : Int) then (if 0 ≤ x8 then (if ((rd_T34 x5 x8).f0) = 1 then (rollbacknetlaw29_SenderlogEnds.l0 k x5 x6 (wrap64 (x7 + 1)) (wrap64 (x8 + 1))) else (rollbacknetlaw29_SenderlogEnds.l0 k x5 x6 x7 (wrap64 (x8 + 1)))) else (none)) else (rollbacknetlaw29_SenderlogEnds.l1 k x5 x6 x7)
def rollbacknetlaw29_SenderlogEnds.l1 : Nat → List (S34) → Int → Int → Option (Bool)
  | 0, _, _, _ => none
  | k + 1, x5, x6, x7 => if x7 > 0 then ((senderlog_Next.f k x5 x6).bind fun t205 => ((senderlog_Confirm.f k x5 x6).bind fun t206 => (if t205 ≤ x6 then (some false) else (if t205 > t206 then (some false) else (if t206 > (x5.length : Int) then (some false) else (if 0 ≤ (wrap64 (t205 - 1)) then (if (wrap64 (t205 - 1)) < (x5.length : Int) then (if ((rd_T34 x5 (wrap64 (t205 - 1))).f0) = 1 then (rollbacknetlaw29_SenderlogEnds.l1 k x5 t206 (wrap64 (x7 - 1))) else (some false)) else (none)) else (none))))))) else ((senderlog_Next.f k x5 x6).bind fun t203 => (if t203 = 0 then ((senderlog_Confirm.f k x5 x6).bind fun t204 => (some (t204 == x6))) else (some false)))
end
def rollbacknetlaw29_SenderlogEnds.f (k : Nat) (l0 : List Int) (a1 : Int) : Option (Bool) := (rollbacknetlaw29_awake.f k).bind fun t193 => (if t193 = true then ((rollbacknetmake_New.f l0 100).bind fun bt194 => ((rollbacknetmake_Codes_Events.f k bt194.1 bt194.2 14).bind fun bt197 => ((rollbacknetmake_Mod.f a1 (wrap64 ((bt197.1.length : Int) + 1))).bind fun t201 => (rollbacknetlaw29_SenderlogEnds.l0 k bt197.1 t201 0 t201)))) else (some false))
theorem rollbacknetlaw29_SenderlogEnds.mono_l : ∀ k, (∀ y0 y1 y2 y3, LeO (rollbacknetlaw29_SenderlogEnds.l0 k y0 y1 y2 y3) (rollbacknetlaw29_SenderlogEnds.l0 (k + 1) y0 y1 y2 y3)) ∧ (∀ y0 y1 y2, LeO (rollbacknetlaw29_SenderlogEnds.l1 k y0 y1 y2) (rollbacknetlaw29_SenderlogEnds.l1 (k + 1) y0 y1 y2))
  | 0 => ⟨fun _ _ _ _ r h => by simp [rollbacknetlaw29_SenderlogEnds.l0] at h, fun _ _ _ r h => by simp [rollbacknetlaw29_SenderlogEnds.l1] at h⟩
  | k + 1 => by
    obtain ⟨ih0, ih1⟩ := rollbacknetlaw29_SenderlogEnds.mono_l k
    refine ⟨?_, ?_⟩
    · intro y0 y1 y2 y3
      unfold rollbacknetlaw29_SenderlogEnds.l0
      repeat' first
      | (with_reducible exact ih0 _ _ _ _)
      | (with_reducible exact ih1 _ _ _)
      | (with_reducible exact rollbacknetlaw29_awake.mono _)
      | (with_reducible exact rollbacknetmake_Codes_Events.mono _ _ _ _)
      | (with_reducible exact senderlog_Confirm.mono _ _ _)
      | (with_reducible exact senderlog_Next.mono _ _ _)
      | (with_reducible exact LeO.refl _)
      | (with_reducible exact LeO.none _)
      | (with_reducible refine LeO.ite ?_ ?_)
      | (with_reducible refine LeO.bind ?_ (fun _ => ?_))
      | exact ih0 _ _ _ _
      | exact ih1 _ _ _
      | exact rollbacknetlaw29_awake.mono _
      | exact rollbacknetmake_Codes_Events.mono _ _ _ _
      | exact senderlog_Confirm.mono _ _ _
      | exact senderlog_Next.mono _ _ _
      | exact LeO.none _
      | refine LeO.ite ?_ ?_
      | refine LeO.bind ?_ (fun _ => ?_)
    · intro y0 y1 y2
      unfold rollbacknetlaw29_SenderlogEnds.l1
      repeat' first
      | (with_reducible exact ih0 _ _ _ _)
      | (with_reducible exact ih1 _ _ _)
      | (with_reducible exact rollbacknetlaw29_awake.mono _)
      | (with_reducible exact rollbacknetmake_Codes_Events.mono _ _ _ _)
      | (with_reducible exact senderlog_Confirm.mono _ _ _)
      | (with_reducible exact senderlog_Next.mono _ _ _)
      | (with_reducible exact LeO.refl _)
      | (with_reducible exact LeO.none _)
      | (with_reducible refine LeO.ite ?_ ?_)
      | (with_reducible refine LeO.bind ?_ (fun _ => ?_))
      | exact ih0 _ _ _ _
      | exact ih1 _ _ _
      | exact rollbacknetlaw29_awake.mono _
      | exact rollbacknetmake_Codes_Events.mono _ _ _ _
      | exact senderlog_Confirm.mono _ _ _
      | exact senderlog_Next.mono _ _ _
      | exact LeO.none _
      | refine LeO.ite ?_ ?_
      | refine LeO.bind ?_ (fun _ => ?_)
theorem rollbacknetlaw29_SenderlogEnds.mono : ∀ a0 a1 k, LeO (rollbacknetlaw29_SenderlogEnds.f k a0 a1) (rollbacknetlaw29_SenderlogEnds.f (k + 1) a0 a1) := by
  intro a0 a1 k
  obtain ⟨ih0, ih1⟩ := rollbacknetlaw29_SenderlogEnds.mono_l k
  unfold rollbacknetlaw29_SenderlogEnds.f
  repeat' first
      | (with_reducible exact ih0 _ _ _ _)
      | (with_reducible exact ih1 _ _ _)
      | (with_reducible exact rollbacknetlaw29_awake.mono _)
      | (with_reducible exact rollbacknetmake_Codes_Events.mono _ _ _ _)
      | (with_reducible exact senderlog_Confirm.mono _ _ _)
      | (with_reducible exact senderlog_Next.mono _ _ _)
      | (with_reducible exact LeO.refl _)
      | (with_reducible exact LeO.none _)
      | (with_reducible refine LeO.ite ?_ ?_)
      | (with_reducible refine LeO.bind ?_ (fun _ => ?_))
      | exact ih0 _ _ _ _
      | exact ih1 _ _ _
      | exact rollbacknetlaw29_awake.mono _
      | exact rollbacknetmake_Codes_Events.mono _ _ _ _
      | exact senderlog_Confirm.mono _ _ _
      | exact senderlog_Next.mono _ _ _
      | exact LeO.none _
      | refine LeO.ite ?_ ?_
      | refine LeO.bind ?_ (fun _ => ?_)
set_option maxHeartbeats 8000000 in
set_option maxRecDepth 100000 in
theorem rollbacknetlaw29_SenderlogEnds.calls (k : Nat) (A0 : Option Addr) (c0 : Nat) (l0 : List Int) (a1 : Int) (r : Bool) (w : World) (hr0 : Kd.C (Kd.int .u8) w A0 l0.length l0) (hc0 : l0.length ≤ c0) (h : rollbacknetlaw29_SenderlogEnds.f k l0 a1 = some r) :
    Calls Try.prog 4 #[.slice A0 l0.length c0, .int .i64 a1] w fun e w' => e = .returned (.bool r) ∧ Below w.heap.size w w' := by
  have HR0 := Aside0.mk hr0
  have HC0 := Aside0.mk hc0
  clear hr0 hc0
  have HB := Aside0.mk (Below.refl w.heap.size w)
  have H : ((rollbacknetlaw29_awake.f k).bind fun t193 => (if t193 = true then ((rollbacknetmake_New.f l0 100).bind fun bt194 => ((rollbacknetmake_Codes_Events.f k bt194.1 bt194.2 14).bind fun bt197 => ((rollbacknetmake_Mod.f a1 (wrap64 ((bt197.1.length : Int) + 1))).bind fun t201 => (rollbacknetlaw29_SenderlogEnds.l0 k bt197.1 t201 0 t201)))) else (some false))) = some r := h
  clear h
  replace H := Option.bind_eq_some_iff.mp H
  obtain ⟨t193, A30, H⟩ := H
  replace H : (if t193 = true then ((rollbacknetmake_New.f l0 100).bind fun bt194 => ((rollbacknetmake_Codes_Events.f k bt194.1 bt194.2 14).bind fun bt197 => ((rollbacknetmake_Mod.f a1 (wrap64 ((bt197.1.length : Int) + 1))).bind fun t201 => (rollbacknetlaw29_SenderlogEnds.l0 k bt197.1 t201 0 t201)))) else (some false)) = some r := H
  have A3 := Aside0.mk A30
  clear A30
  by_cases c4 : t193 = true
  · subst c4
    have H1 : ((rollbacknetmake_New.f l0 100).bind fun bt194 => ((rollbacknetmake_Codes_Events.f k bt194.1 bt194.2 14).bind fun bt197 => ((rollbacknetmake_Mod.f a1 (wrap64 ((bt197.1.length : Int) + 1))).bind fun t201 => (rollbacknetlaw29_SenderlogEnds.l0 k bt197.1 t201 0 t201)))) = some r := by rw [if_pos rfl] at H; exact H
    clear H
    have H := H1
    clear H1
    replace H := Option.bind_eq_some_iff.mp H
    obtain ⟨⟨t194, t195⟩, A50, H⟩ := H
    replace H : ((rollbacknetmake_Codes_Events.f k t194 t195 14).bind fun bt197 => ((rollbacknetmake_Mod.f a1 (wrap64 ((bt197.1.length : Int) + 1))).bind fun t201 => (rollbacknetlaw29_SenderlogEnds.l0 k bt197.1 t201 0 t201))) = some r := H
    have A5 := Aside0.mk A50
    clear A50
    replace H := Option.bind_eq_some_iff.mp H
    obtain ⟨⟨t197, t200⟩, A60, H⟩ := H
    replace H : ((rollbacknetmake_Mod.f a1 (wrap64 ((t197.length : Int) + 1))).bind fun t201 => (rollbacknetlaw29_SenderlogEnds.l0 k t197 t201 0 t201)) = some r := H
    have A6 := Aside0.mk A60
    clear A60
    replace H := Option.bind_eq_some_iff.mp H
    obtain ⟨t201, A70, H⟩ := H
    replace H : (rollbacknetlaw29_SenderlogEnds.l0 k t197 t201 0 t201) = some r := H
    have A7 := Aside0.mk A70
    clear A70
    have H' := Aside0.mk H
    clear H
    go_enter Try.func4, Try.ntmps4
    go_wp2_with (first | ((with_reducible refine gate_callee (f := 14) rfl ?_); refine goesL_ (some 11) rfl rfl Try.func14 (by kernel_rfl) rfl #[] rfl (by (try simp only [List.map_toArray, List.map_cons, List.map_nil]); first | done | rfl | (simp only [List.length_drop, List.length_take]; rfl)) ?_; (with_reducible refine (rollbacknetlaw29_awake.calls k  true _ A3.out).mono ?_); rintro e w8 ⟨rfl, hb⟩; refine ⟨_, rfl, ?_⟩; have n0_ := Aside0.mk (below_step (by repeat (first | (with_reducible first | exact HB.out | apply below_alloc | apply pw_below_drewN | apply below_drew1) | exact HB.out)) hb); clear HB; have HB := n0_; clear n0_; (try clear hb); (try clear hb2); (try clear hk); (try clear hi)) | ((with_reducible refine gate_callee (f := 15) rfl ?_); refine goesL_ (some 14) rfl rfl Try.func15 (by kernel_rfl) rfl #[.slice A0 l0.length c0, .int .i64 100] rfl (by (try simp only [List.map_toArray, List.map_cons, List.map_nil]); first | done | rfl | (simp only [List.length_drop, List.length_take]; rfl)) ?_; (with_reducible refine (rollbacknetmake_New.calls _ _ l0 100 t194 t195 w _ ?side1 ?side2 ?side3 A5.out).mono ?_); (case side1 => repeat (first | (with_reducible first | exact HB.out | apply below_alloc | apply pw_below_drewN | apply below_drew1) | exact HB.out)); (case side2 => exact HR0.out); (case side3 => exact HC0.out); rintro e w9 ⟨g196, rfl, hi, hb, hb2⟩; refine ⟨_, rfl, ?_⟩; have n0_ := Aside0.mk (hb); have n1_ := Aside0.mk (hi); clear HB; have HB := n0_; have HI196 := n1_; clear n0_ n1_; (try clear hb); (try clear hb2); (try clear hk); (try clear hi)) | ((with_reducible refine gate_callee (f := 16) rfl ?_); refine goesL_ (some 15) rfl rfl Try.func16 (by kernel_rfl) rfl #[.pointer (some ⟨g196, 0, none⟩), .int .i64 14] rfl (by (try simp only [List.map_toArray, List.map_cons, List.map_nil]); first | done | rfl | (simp only [List.length_drop, List.length_take]; rfl)) ?_; (with_reducible refine (rollbacknetmake_Codes_Events.calls k g196 t194 t195 14 t197 t200 w _ ?side1 ?side2 A6.out).mono ?_); (case side1 => repeat (first | (with_reducible first | exact HI196.out | apply IsS65.alloc | apply IsS65.drewN | apply IsS65.drew | apply IsS65.set_1) | exact HI196.out)); (case side2 => repeat (first | (with_reducible first | exact HB.out | apply below_alloc | apply pw_below_drewN | apply below_drew1 | refine below_set ?_ (IsS65.ge HI196.out)) | exact HB.out)); rintro e w10 ⟨v198, rfl, ho0, hi, hb, hk⟩; refine ⟨_, rfl, ?_⟩; have n0_ := Aside0.mk (Kd.R_lower ho0 (below_size (by repeat (first | (with_reducible first | exact HB.out | apply below_alloc | apply pw_below_drewN | apply below_drew1 | refine below_set ?_ (IsS65.ge HI196.out)) | exact HB.out)))); have n1_ := Aside0.mk (hb); have n2_ := Aside0.mk (hi); clear HB; clear HI196; have HO199 := n0_; have HB := n1_; have HI196 := n2_; clear n0_ n1_ n2_; (try clear hb); (try clear hb2); (try clear hk); (try clear hi); (try clear ho0); obtain ⟨Ao11, co11, eo11⟩ := Kd.R_slice HO199.out; subst eo11) | ((with_reducible refine gate_callee (f := 17) rfl ?_); refine goesL_ (some 20) rfl rfl Try.func17 (by kernel_rfl) rfl #[.int .i64 a1, .int .i64 (wrap64 ((t197.length : Int) + 1))] rfl (by (try simp only [List.map_toArray, List.map_cons, List.map_nil]); first | done | rfl | (simp only [List.length_drop, List.length_take]; rfl)) ?_; (with_reducible refine (rollbacknetmake_Mod.calls a1 (wrap64 ((t197.length : Int) + 1)) t201 _ A7.out).mono ?_); rintro e w' ⟨rfl, ⟨nd, rfl⟩⟩; refine ⟨_, rfl, ?_⟩))
    go_loopg [7, 8] k (fun kq v7 v8 w' => ∃ (x7_1 : Int) (x8_1 : Int), v7 = .int .i64 x7_1 ∧ v8 = .int .i64 x8_1 ∧ Aside0 (rollbacknetlaw29_SenderlogEnds.l0 kq t197 t201 x7_1 x8_1 = some r) ∧ Aside0 (kq ≤ k) ∧ Aside0 (Kd.R k34 34 w' w.heap.size (fun _ => True) (.slice Ao11 t197.length co11) t197) ∧ Aside0 (Below w.heap.size w w'))
    case atStart => exact ⟨(0), (t201), (by first | rfl | (simp; done) | (simp [*]; done)), (by first | rfl | (simp; done) | (simp [*]; done)), H', ⟨Nat.le_refl _⟩, ⟨by (with_reducible repeat (first | apply Kd.R_alloc | apply Kd.R_drewN | apply Kd.R_drew)); exact HO199.out⟩, ⟨by repeat (first | (with_reducible first | exact HB.out | apply below_alloc | apply pw_below_drewN | apply below_drew1 | refine below_set ?_ (IsS65.ge HI196.out)) | exact HB.out)⟩⟩
    case round =>
      clear H'
      try clear c1
      try clear p2
      try clear c4
      try clear p6
      obtain ⟨x7_1, x8_1, rfl, rfl, HA, HK1, HO_5, HB⟩ := hrel
      cases gk with
      | zero => exact absurd HA.out (by simp [rollbacknetlaw29_SenderlogEnds.l0])
      | succ k1 =>
        have H := HA.out
        clear HA
        simp only [rollbacknetlaw29_SenderlogEnds.l0] at H
        by_cases c12 : x8_1 < (t197.length : Int)
        · rw [if_pos c12] at H
          have c12b0 : decide (x8_1 < (t197.length : Int)) = true := decide_eq_true c12
          clear c12
          by_cases c13 : 0 ≤ x8_1
          · rw [if_pos c13] at H
            have c13b0 : decide (0 ≤ x8_1) = true := decide_eq_true c13
            clear c13
            by_cases c14 : ((rd_T34 t197 x8_1).f0) = 1
            · rw [if_pos c14] at H
              have c14b0 : (((rd_T34 t197 x8_1).f0) == 1) = true := beq_iff_eq.mpr c14
              have c14b1 : (((rd_T34 t197 x8_1).f0) != 1) = false := bne_eq_false_iff_eq.mpr c14
              clear c14
              have H' := Aside0.mk H
              clear H
              have p202 : 0 ≤ (x8_1 : Int) := of_decide_eq_true (by first | (with_reducible assumption) | assumption)
              have q202 : x8_1 < (t197.length : Int) := of_decide_eq_true (by first | (with_reducible assumption) | assumption)
              obtain ⟨ad202, e202, hx202_0, hx202_1, hx202_2, hx202_3, hx202_4, hx202_5, hx202_6⟩ := at_T34 (Kd.R_reads' HO_5.out).2.2 x8_1 p202 q202
              cases e202
              replace p202 := eq_true p202
              replace q202 := eq_true q202
              go_wp2
              go_roundg k1
              case measure => have := HK1.out; omega
              case rel => exact ⟨(wrap64 (x7_1 + 1)), (wrap64 (x8_1 + 1)), (by first | rfl | (simp; done) | (simp [*]; done)), (by first | rfl | (simp; done) | (simp [*]; done)), H', ⟨by have := HK1.out; omega⟩, ⟨by (with_reducible repeat (first | apply Kd.R_alloc | apply Kd.R_drewN | apply Kd.R_drew)); exact HO_5.out⟩, ⟨by repeat (first | (with_reducible first | exact HB.out | apply below_alloc | apply pw_below_drewN | apply below_drew1) | exact HB.out)⟩⟩
            · rw [if_neg c14] at H
              have c14b0 : (((rd_T34 t197 x8_1).f0) == 1) = false := beq_eq_false_iff_ne.mpr c14
              have c14b1 : (((rd_T34 t197 x8_1).f0) != 1) = true := bne_iff_ne.mpr c14
              have H' := Aside0.mk H
              clear H
              have p202 : 0 ≤ (x8_1 : Int) := of_decide_eq_true (by first | (with_reducible assumption) | assumption)
              have q202 : x8_1 < (t197.length : Int) := of_decide_eq_true (by first | (with_reducible assumption) | assumption)
              obtain ⟨ad202, e202, hx202_0, hx202_1, hx202_2, hx202_3, hx202_4, hx202_5, hx202_6⟩ := at_T34 (Kd.R_reads' HO_5.out).2.2 x8_1 p202 q202
              cases e202
              replace p202 := eq_true p202
              replace q202 := eq_true q202
              go_wp2
              go_roundg k1
              case measure => have := HK1.out; omega
              case rel => exact ⟨(x7_1), (wrap64 (x8_1 + 1)), (by first | rfl | (simp; done) | (simp [*]; done)), (by first | rfl | (simp; done) | (simp [*]; done)), H', ⟨by have := HK1.out; omega⟩, ⟨by (with_reducible repeat (first | apply Kd.R_alloc | apply Kd.R_drewN | apply Kd.R_drew)); exact HO_5.out⟩, ⟨by repeat (first | (with_reducible first | exact HB.out | apply below_alloc | apply pw_below_drewN | apply below_drew1) | exact HB.out)⟩⟩
          · rw [if_neg c13] at H
            exact absurd H (by simp)
        · rw [if_neg c12] at H
          have c12b0 : decide (x8_1 < (t197.length : Int)) = false := decide_eq_false c12
          clear c12
          have H' := Aside0.mk H
          clear H
          go_wp2
          go_loopg [6, 7] k1 (fun kq v6 v7 w' => ∃ (x6_2 : Int) (x7_2 : Int), v6 = .int .i64 x6_2 ∧ v7 = .int .i64 x7_2 ∧ Aside0 (rollbacknetlaw29_SenderlogEnds.l1 kq t197 x6_2 x7_2 = some r) ∧ Aside0 (kq ≤ k1) ∧ Aside0 (Kd.R k34 34 w' w.heap.size (fun _ => True) (.slice Ao11 t197.length co11) t197) ∧ Aside0 (Below w.heap.size w w'))
          case atStart => exact ⟨(t201), (x7_1), (by first | rfl | (simp; done) | (simp [*]; done)), (by first | rfl | (simp; done) | (simp [*]; done)), H', ⟨Nat.le_refl _⟩, ⟨by (with_reducible repeat (first | apply Kd.R_alloc | apply Kd.R_drewN | apply Kd.R_drew)); exact HO_5.out⟩, ⟨by repeat (first | (with_reducible first | exact HB.out | apply below_alloc | apply pw_below_drewN | apply below_drew1) | exact HB.out)⟩⟩
          case round =>
            clear H'
            try clear c1
            try clear p2
            try clear q2
            try clear hx2
            try clear c4
            try clear p6
            try clear c12
            try clear c12b0
            try clear c13
            try clear c13b0
            try clear c14
            try clear c14b0
            try clear c14b1
            try clear hx202_0
            try clear hx202_1
            try clear hx202_2
            try clear hx202_3
            try clear hx202_4
            try clear hx202_5
            try clear hx202_6
            try clear p2
            try clear p202
            try clear p6
            try clear q202
            obtain ⟨x6_2, x7_2, rfl, rfl, HA, HK2, HO_5, HB⟩ := hrel
            cases gk with
            | zero => exact absurd HA.out (by simp [rollbacknetlaw29_SenderlogEnds.l1])
            | succ k2 =>
              have H := HA.out
              clear HA
              simp only [rollbacknetlaw29_SenderlogEnds.l1] at H
              by_cases c15 : x7_2 > 0
              · rw [if_pos c15] at H
                have c15b0 : decide (0 < x7_2) = true := decide_eq_true c15
                clear c15
                replace H := Option.bind_eq_some_iff.mp H
                obtain ⟨t205, A160, H⟩ := H
                replace H : ((senderlog_Confirm.f k2 t197 x6_2).bind fun t206 => (if t205 ≤ x6_2 then (some false) else (if t205 > t206 then (some false) else (if t206 > (t197.length : Int) then (some false) else (if 0 ≤ (wrap64 (t205 - 1)) then (if (wrap64 (t205 - 1)) < (t197.length : Int) then (if ((rd_T34 t197 (wrap64 (t205 - 1))).f0) = 1 then (rollbacknetlaw29_SenderlogEnds.l1 k2 t197 t206 (wrap64 (x7_2 - 1))) else (some false)) else (none)) else (none)))))) = some r := H
                have A16 := Aside0.mk A160
                clear A160
                replace H := Option.bind_eq_some_iff.mp H
                obtain ⟨t206, A170, H⟩ := H
                replace H : (if t205 ≤ x6_2 then (some false) else (if t205 > t206 then (some false) else (if t206 > (t197.length : Int) then (some false) else (if 0 ≤ (wrap64 (t205 - 1)) then (if (wrap64 (t205 - 1)) < (t197.length : Int) then (if ((rd_T34 t197 (wrap64 (t205 - 1))).f0) = 1 then (rollbacknetlaw29_SenderlogEnds.l1 k2 t197 t206 (wrap64 (x7_2 - 1))) else (some false)) else (none)) else (none))))) = some r := H
                have A17 := Aside0.mk A170
                clear A170
                by_cases c18 : t205 ≤ x6_2
                · rw [if_pos c18] at H
                  have c18b0 : decide (t205 ≤ x6_2) = true := decide_eq_true c18
                  clear c18
                  obtain rfl := Option.some.inj H
                  go_wp2_with (first | ((with_reducible refine gate_callee (f := 18) rfl ?_); refine goesL_ (some 42) rfl rfl Try.func18 (by kernel_rfl) rfl #[.slice Ao11 t197.length co11, .int .i64 x6_2] rfl (by (try simp only [List.map_toArray, List.map_cons, List.map_nil]); first | done | rfl | (simp only [List.length_drop, List.length_take]; rfl)) ?_; (with_reducible refine (senderlog_Next.calls k2 _ _ t197 x6_2 t205 _ ?side1 ?side2 A16.out).mono ?_); (case side1 => repeat (first | exact (Kd.R_reads' HO_5.out).2.2 | (with_reducible refine Kd.C_alloc ?_ _) | (with_reducible refine Kd.C_drewN ?_ _) | (with_reducible refine Kd.C_drew ?_))); (case side2 => exact (Kd.R_reads' HO_5.out).2.1); rintro e w19 ⟨rfl, hb⟩; refine ⟨_, rfl, ?_⟩; have n0_ := Aside0.mk (Kd.R_below (by (with_reducible repeat (first | apply Kd.R_alloc | apply Kd.R_drewN | apply Kd.R_drew)); exact HO_5.out) hb); have n1_ := Aside0.mk (below_step (by repeat (first | (with_reducible first | exact HB.out | apply below_alloc | apply pw_below_drewN | apply below_drew1) | exact HB.out)) hb); clear HO_5; clear HB; have HO_5 := n0_; have HB := n1_; clear n0_ n1_; (try clear hb); (try clear hb2); (try clear hk); (try clear hi)) | ((with_reducible refine gate_callee (f := 20) rfl ?_); refine goesL_ (some 45) rfl rfl Try.func20 (by kernel_rfl) rfl #[.slice Ao11 t197.length co11, .int .i64 x6_2] rfl (by (try simp only [List.map_toArray, List.map_cons, List.map_nil]); first | done | rfl | (simp only [List.length_drop, List.length_take]; rfl)) ?_; (with_reducible refine (senderlog_Confirm.calls k2 _ _ t197 x6_2 t206 _ ?side1 ?side2 A17.out).mono ?_); (case side1 => repeat (first | exact (Kd.R_reads' HO_5.out).2.2 | (with_reducible refine Kd.C_alloc ?_ _) | (with_reducible refine Kd.C_drewN ?_ _) | (with_reducible refine Kd.C_drew ?_))); (case side2 => exact (Kd.R_reads' HO_5.out).2.1); rintro e w20 ⟨rfl, hb⟩; refine ⟨_, rfl, ?_⟩; have n0_ := Aside0.mk (Kd.R_below (by (with_reducible repeat (first | apply Kd.R_alloc | apply Kd.R_drewN | apply Kd.R_drew)); exact HO_5.out) hb); have n1_ := Aside0.mk (below_step (by repeat (first | (with_reducible first | exact HB.out | apply below_alloc | apply pw_below_drewN | apply below_drew1) | exact HB.out)) hb); clear HO_5; clear HB; have HO_5 := n0_; have HB := n1_; clear n0_ n1_; (try clear hb); (try clear hb2); (try clear hk); (try clear hi)))
                  go_ret
                  exact ⟨by first | rfl | (simp [errW_none, errW_some] <;> rfl) | (simp [*, errW_none, errW_some] <;> rfl), by repeat (first | (with_reducible first | exact HB.out | apply below_alloc | apply pw_below_drewN | apply below_drew1) | exact HB.out)⟩
                · rw [if_neg c18] at H
                  have c18b0 : decide (t205 ≤ x6_2) = false := decide_eq_false c18
                  clear c18
                  by_cases c21 : t205 > t206
                  · rw [if_pos c21] at H
                    have c21b0 : decide (t206 < t205) = true := decide_eq_true c21
                    clear c21
                    obtain rfl := Option.some.inj H
                    go_wp2_with (first | ((with_reducible refine gate_callee (f := 18) rfl ?_); refine goesL_ (some 42) rfl rfl Try.func18 (by kernel_rfl) rfl #[.slice Ao11 t197.length co11, .int .i64 x6_2] rfl (by (try simp only [List.map_toArray, List.map_cons, List.map_nil]); first | done | rfl | (simp only [List.length_drop, List.length_take]; rfl)) ?_; (with_reducible refine (senderlog_Next.calls k2 _ _ t197 x6_2 t205 _ ?side1 ?side2 A16.out).mono ?_); (case side1 => repeat (first | exact (Kd.R_reads' HO_5.out).2.2 | (with_reducible refine Kd.C_alloc ?_ _) | (with_reducible refine Kd.C_drewN ?_ _) | (with_reducible refine Kd.C_drew ?_))); (case side2 => exact (Kd.R_reads' HO_5.out).2.1); rintro e w22 ⟨rfl, hb⟩; refine ⟨_, rfl, ?_⟩; have n0_ := Aside0.mk (Kd.R_below (by (with_reducible repeat (first | apply Kd.R_alloc | apply Kd.R_drewN | apply Kd.R_drew)); exact HO_5.out) hb); have n1_ := Aside0.mk (below_step (by repeat (first | (with_reducible first | exact HB.out | apply below_alloc | apply pw_below_drewN | apply below_drew1) | exact HB.out)) hb); clear HO_5; clear HB; have HO_5 := n0_; have HB := n1_; clear n0_ n1_; (try clear hb); (try clear hb2); (try clear hk); (try clear hi)) | ((with_reducible refine gate_callee (f := 20) rfl ?_); refine goesL_ (some 45) rfl rfl Try.func20 (by kernel_rfl) rfl #[.slice Ao11 t197.length co11, .int .i64 x6_2] rfl (by (try simp only [List.map_toArray, List.map_cons, List.map_nil]); first | done | rfl | (simp only [List.length_drop, List.length_take]; rfl)) ?_; (with_reducible refine (senderlog_Confirm.calls k2 _ _ t197 x6_2 t206 _ ?side1 ?side2 A17.out).mono ?_); (case side1 => repeat (first | exact (Kd.R_reads' HO_5.out).2.2 | (with_reducible refine Kd.C_alloc ?_ _) | (with_reducible refine Kd.C_drewN ?_ _) | (with_reducible refine Kd.C_drew ?_))); (case side2 => exact (Kd.R_reads' HO_5.out).2.1); rintro e w23 ⟨rfl, hb⟩; refine ⟨_, rfl, ?_⟩; have n0_ := Aside0.mk (Kd.R_below (by (with_reducible repeat (first | apply Kd.R_alloc | apply Kd.R_drewN | apply Kd.R_drew)); exact HO_5.out) hb); have n1_ := Aside0.mk (below_step (by repeat (first | (with_reducible first | exact HB.out | apply below_alloc | apply pw_below_drewN | apply below_drew1) | exact HB.out)) hb); clear HO_5; clear HB; have HO_5 := n0_; have HB := n1_; clear n0_ n1_; (try clear hb); (try clear hb2); (try clear hk); (try clear hi)))
                    go_ret
                    exact ⟨by first | rfl | (simp [errW_none, errW_some] <;> rfl) | (simp [*, errW_none, errW_some] <;> rfl), by repeat (first | (with_reducible first | exact HB.out | apply below_alloc | apply pw_below_drewN | apply below_drew1) | exact HB.out)⟩
                  · rw [if_neg c21] at H
                    have c21b0 : decide (t206 < t205) = false := decide_eq_false c21
                    clear c21
                    by_cases c24 : t206 > (t197.length : Int)
                    · rw [if_pos c24] at H
                      have c24b0 : decide ((t197.length : Int) < t206) = true := decide_eq_true c24
                      clear c24
                      obtain rfl := Option.some.inj H
                      go_wp2_with (first | ((with_reducible refine gate_callee (f := 18) rfl ?_); refine goesL_ (some 42) rfl rfl Try.func18 (by kernel_rfl) rfl #[.slice Ao11 t197.length co11, .int .i64 x6_2] rfl (by (try simp only [List.map_toArray, List.map_cons, List.map_nil]); first | done | rfl | (simp only [List.length_drop, List.length_take]; rfl)) ?_; (with_reducible refine (senderlog_Next.calls k2 _ _ t197 x6_2 t205 _ ?side1 ?side2 A16.out).mono ?_); (case side1 => repeat (first | exact (Kd.R_reads' HO_5.out).2.2 | (with_reducible refine Kd.C_alloc ?_ _) | (with_reducible refine Kd.C_drewN ?_ _) | (with_reducible refine Kd.C_drew ?_))); (case side2 => exact (Kd.R_reads' HO_5.out).2.1); rintro e w25 ⟨rfl, hb⟩; refine ⟨_, rfl, ?_⟩; have n0_ := Aside0.mk (Kd.R_below (by (with_reducible repeat (first | apply Kd.R_alloc | apply Kd.R_drewN | apply Kd.R_drew)); exact HO_5.out) hb); have n1_ := Aside0.mk (below_step (by repeat (first | (with_reducible first | exact HB.out | apply below_alloc | apply pw_below_drewN | apply below_drew1) | exact HB.out)) hb); clear HO_5; clear HB; have HO_5 := n0_; have HB := n1_; clear n0_ n1_; (try clear hb); (try clear hb2); (try clear hk); (try clear hi)) | ((with_reducible refine gate_callee (f := 20) rfl ?_); refine goesL_ (some 45) rfl rfl Try.func20 (by kernel_rfl) rfl #[.slice Ao11 t197.length co11, .int .i64 x6_2] rfl (by (try simp only [List.map_toArray, List.map_cons, List.map_nil]); first | done | rfl | (simp only [List.length_drop, List.length_take]; rfl)) ?_; (with_reducible refine (senderlog_Confirm.calls k2 _ _ t197 x6_2 t206 _ ?side1 ?side2 A17.out).mono ?_); (case side1 => repeat (first | exact (Kd.R_reads' HO_5.out).2.2 | (with_reducible refine Kd.C_alloc ?_ _) | (with_reducible refine Kd.C_drewN ?_ _) | (with_reducible refine Kd.C_drew ?_))); (case side2 => exact (Kd.R_reads' HO_5.out).2.1); rintro e w26 ⟨rfl, hb⟩; refine ⟨_, rfl, ?_⟩; have n0_ := Aside0.mk (Kd.R_below (by (with_reducible repeat (first | apply Kd.R_alloc | apply Kd.R_drewN | apply Kd.R_drew)); exact HO_5.out) hb); have n1_ := Aside0.mk (below_step (by repeat (first | (with_reducible first | exact HB.out | apply below_alloc | apply pw_below_drewN | apply below_drew1) | exact HB.out)) hb); clear HO_5; clear HB; have HO_5 := n0_; have HB := n1_; clear n0_ n1_; (try clear hb); (try clear hb2); (try clear hk); (try clear hi)))
                      go_ret
                      exact ⟨by first | rfl | (simp [errW_none, errW_some] <;> rfl) | (simp [*, errW_none, errW_some] <;> rfl), by repeat (first | (with_reducible first | exact HB.out | apply below_alloc | apply pw_below_drewN | apply below_drew1) | exact HB.out)⟩
                    · rw [if_neg c24] at H
                      have c24b0 : decide ((t197.length : Int) < t206) = false := decide_eq_false c24
                      clear c24
                      obtain ⟨ji27, hji27⟩ : ∃ j_ : Int, (wrap64 (t205 - 1)) = j_ := ⟨_, rfl⟩
                      replace H : (if 0 ≤ (ji27) then (if (ji27) < (t197.length : Int) then (if ((rd_T34 t197 (ji27)).f0) = 1 then (rollbacknetlaw29_SenderlogEnds.l1 k2 t197 t206 (wrap64 (x7_2 - 1))) else (some false)) else (none)) else (none)) = some r := by first | (rw [hji27] at H; exact H) | (simp only [hji27] at H ⊢; exact H)
                      (try rw [hji27] at A16)
                      (try rw [hji27] at A17)
                      have hji27w : (IntKind.i64.wrap (t205 - 1)) = ji27 := (i64_w _).trans hji27
                      by_cases c28 : 0 ≤ (ji27)
                      · rw [if_pos c28] at H
                        have c28b0 : decide (0 ≤ (ji27)) = true := decide_eq_true c28
                        clear c28
                        by_cases c29 : (ji27) < (t197.length : Int)
                        · rw [if_pos c29] at H
                          have c29b0 : decide ((ji27) < (t197.length : Int)) = true := decide_eq_true c29
                          clear c29
                          by_cases c30 : ((rd_T34 t197 (ji27)).f0) = 1
                          · rw [if_pos c30] at H
                            have c30b0 : (((rd_T34 t197 (ji27)).f0) == 1) = true := beq_iff_eq.mpr c30
                            have c30b1 : (((rd_T34 t197 (ji27)).f0) != 1) = false := bne_eq_false_iff_eq.mpr c30
                            clear c30
                            have H' := Aside0.mk H
                            clear H
                            go_wp2_with (first | ((with_reducible refine gate_callee (f := 18) rfl ?_); refine goesL_ (some 42) rfl rfl Try.func18 (by kernel_rfl) rfl #[.slice Ao11 t197.length co11, .int .i64 x6_2] rfl (by (try simp only [List.map_toArray, List.map_cons, List.map_nil]); first | done | rfl | (simp only [List.length_drop, List.length_take]; rfl)) ?_; (with_reducible refine (senderlog_Next.calls k2 _ _ t197 x6_2 t205 _ ?side1 ?side2 A16.out).mono ?_); (case side1 => repeat (first | exact (Kd.R_reads' HO_5.out).2.2 | (with_reducible refine Kd.C_alloc ?_ _) | (with_reducible refine Kd.C_drewN ?_ _) | (with_reducible refine Kd.C_drew ?_))); (case side2 => exact (Kd.R_reads' HO_5.out).2.1); rintro e w31 ⟨rfl, hb⟩; refine ⟨_, rfl, ?_⟩; have n0_ := Aside0.mk (Kd.R_below (by (with_reducible repeat (first | apply Kd.R_alloc | apply Kd.R_drewN | apply Kd.R_drew)); exact HO_5.out) hb); have n1_ := Aside0.mk (below_step (by repeat (first | (with_reducible first | exact HB.out | apply below_alloc | apply pw_below_drewN | apply below_drew1) | exact HB.out)) hb); clear HO_5; clear HB; have HO_5 := n0_; have HB := n1_; clear n0_ n1_; (try clear hb); (try clear hb2); (try clear hk); (try clear hi)) | ((with_reducible refine gate_callee (f := 20) rfl ?_); refine goesL_ (some 45) rfl rfl Try.func20 (by kernel_rfl) rfl #[.slice Ao11 t197.length co11, .int .i64 x6_2] rfl (by (try simp only [List.map_toArray, List.map_cons, List.map_nil]); first | done | rfl | (simp only [List.length_drop, List.length_take]; rfl)) ?_; (with_reducible refine (senderlog_Confirm.calls k2 _ _ t197 x6_2 t206 _ ?side1 ?side2 A17.out).mono ?_); (case side1 => repeat (first | exact (Kd.R_reads' HO_5.out).2.2 | (with_reducible refine Kd.C_alloc ?_ _) | (with_reducible refine Kd.C_drewN ?_ _) | (with_reducible refine Kd.C_drew ?_))); (case side2 => exact (Kd.R_reads' HO_5.out).2.1); rintro e w32 ⟨rfl, hb⟩; refine ⟨_, rfl, ?_⟩; have n0_ := Aside0.mk (Kd.R_below (by (with_reducible repeat (first | apply Kd.R_alloc | apply Kd.R_drewN | apply Kd.R_drew)); exact HO_5.out) hb); have n1_ := Aside0.mk (below_step (by repeat (first | (with_reducible first | exact HB.out | apply below_alloc | apply pw_below_drewN | apply below_drew1) | exact HB.out)) hb); clear HO_5; clear HB; have HO_5 := n0_; have HB := n1_; clear n0_ n1_; (try clear hb); (try clear hb2); (try clear hk); (try clear hi); have p207 : 0 ≤ ((ji27) : Int) := of_decide_eq_true (by first | (with_reducible assumption) | assumption); have q207 : (ji27) < (t197.length : Int) := of_decide_eq_true (by first | (with_reducible assumption) | assumption); obtain ⟨ad207, e207, hx207_0, hx207_1, hx207_2, hx207_3, hx207_4, hx207_5, hx207_6⟩ := at_T34 (Kd.R_reads' HO_5.out).2.2 (ji27) p207 q207; cases e207; replace p207 := eq_true p207; replace q207 := eq_true q207))
                            go_roundg k2
                            case measure => have := HK1.out; have := HK2.out; omega
                            case rel => exact ⟨(t206), (wrap64 (x7_2 - 1)), (by first | rfl | (simp; done) | (simp [*]; done)), (by first | rfl | (simp; done) | (simp [*]; done)), H', ⟨by have := HK1.out; have := HK2.out; omega⟩, ⟨by (with_reducible repeat (first | apply Kd.R_alloc | apply Kd.R_drewN | apply Kd.R_drew)); exact HO_5.out⟩, ⟨by repeat (first | (with_reducible first | exact HB.out | apply below_alloc | apply pw_below_drewN | apply below_drew1) | exact HB.out)⟩⟩
                          · rw [if_neg c30] at H
                            have c30b0 : (((rd_T34 t197 (ji27)).f0) == 1) = false := beq_eq_false_iff_ne.mpr c30
                            have c30b1 : (((rd_T34 t197 (ji27)).f0) != 1) = true := bne_iff_ne.mpr c30
                            obtain rfl := Option.some.inj H
                            go_wp2_with (first | ((with_reducible refine gate_callee (f := 18) rfl ?_); refine goesL_ (some 42) rfl rfl Try.func18 (by kernel_rfl) rfl #[.slice Ao11 t197.length co11, .int .i64 x6_2] rfl (by (try simp only [List.map_toArray, List.map_cons, List.map_nil]); first | done | rfl | (simp only [List.length_drop, List.length_take]; rfl)) ?_; (with_reducible refine (senderlog_Next.calls k2 _ _ t197 x6_2 t205 _ ?side1 ?side2 A16.out).mono ?_); (case side1 => repeat (first | exact (Kd.R_reads' HO_5.out).2.2 | (with_reducible refine Kd.C_alloc ?_ _) | (with_reducible refine Kd.C_drewN ?_ _) | (with_reducible refine Kd.C_drew ?_))); (case side2 => exact (Kd.R_reads' HO_5.out).2.1); rintro e w33 ⟨rfl, hb⟩; refine ⟨_, rfl, ?_⟩; have n0_ := Aside0.mk (Kd.R_below (by (with_reducible repeat (first | apply Kd.R_alloc | apply Kd.R_drewN | apply Kd.R_drew)); exact HO_5.out) hb); have n1_ := Aside0.mk (below_step (by repeat (first | (with_reducible first | exact HB.out | apply below_alloc | apply pw_below_drewN | apply below_drew1) | exact HB.out)) hb); clear HO_5; clear HB; have HO_5 := n0_; have HB := n1_; clear n0_ n1_; (try clear hb); (try clear hb2); (try clear hk); (try clear hi)) | ((with_reducible refine gate_callee (f := 20) rfl ?_); refine goesL_ (some 45) rfl rfl Try.func20 (by kernel_rfl) rfl #[.slice Ao11 t197.length co11, .int .i64 x6_2] rfl (by (try simp only [List.map_toArray, List.map_cons, List.map_nil]); first | done | rfl | (simp only [List.length_drop, List.length_take]; rfl)) ?_; (with_reducible refine (senderlog_Confirm.calls k2 _ _ t197 x6_2 t206 _ ?side1 ?side2 A17.out).mono ?_); (case side1 => repeat (first | exact (Kd.R_reads' HO_5.out).2.2 | (with_reducible refine Kd.C_alloc ?_ _) | (with_reducible refine Kd.C_drewN ?_ _) | (with_reducible refine Kd.C_drew ?_))); (case side2 => exact (Kd.R_reads' HO_5.out).2.1); rintro e w34 ⟨rfl, hb⟩; refine ⟨_, rfl, ?_⟩; have n0_ := Aside0.mk (Kd.R_below (by (with_reducible repeat (first | apply Kd.R_alloc | apply Kd.R_drewN | apply Kd.R_drew)); exact HO_5.out) hb); have n1_ := Aside0.mk (below_step (by repeat (first | (with_reducible first | exact HB.out | apply below_alloc | apply pw_below_drewN | apply below_drew1) | exact HB.out)) hb); clear HO_5; clear HB; have HO_5 := n0_; have HB := n1_; clear n0_ n1_; (try clear hb); (try clear hb2); (try clear hk); (try clear hi); have p207 : 0 ≤ ((ji27) : Int) := of_decide_eq_true (by first | (with_reducible assumption) | assumption); have q207 : (ji27) < (t197.length : Int) := of_decide_eq_true (by first | (with_reducible assumption) | assumption); obtain ⟨ad207, e207, hx207_0, hx207_1, hx207_2, hx207_3, hx207_4, hx207_5, hx207_6⟩ := at_T34 (Kd.R_reads' HO_5.out).2.2 (ji27) p207 q207; cases e207; replace p207 := eq_true p207; replace q207 := eq_true q207))
                            go_ret
                            exact ⟨by first | rfl | (simp [errW_none, errW_some] <;> rfl) | (simp only [← hji27]; first | rfl | (simp [errW_none, errW_some] <;> rfl)) | (simp [*, errW_none, errW_some] <;> rfl), by repeat (first | (with_reducible first | exact HB.out | apply below_alloc | apply pw_below_drewN | apply below_drew1) | exact HB.out)⟩
                        · rw [if_neg c29] at H
                          exact absurd H (by simp)
                      · rw [if_neg c28] at H
                        exact absurd H (by simp)
              · rw [if_neg c15] at H
                have c15b0 : decide (0 < x7_2) = false := decide_eq_false c15
                clear c15
                replace H := Option.bind_eq_some_iff.mp H
                obtain ⟨t203, A350, H⟩ := H
                replace H : (if t203 = 0 then ((senderlog_Confirm.f k2 t197 x6_2).bind fun t204 => (some (t204 == x6_2))) else (some false)) = some r := H
                have A35 := Aside0.mk A350
                clear A350
                by_cases c36 : t203 = 0
                · rw [if_pos c36] at H
                  have c36b0 : (t203 == 0) = true := beq_iff_eq.mpr c36
                  have c36b1 : (t203 != 0) = false := bne_eq_false_iff_eq.mpr c36
                  clear c36
                  replace H := Option.bind_eq_some_iff.mp H
                  obtain ⟨t204, A370, H⟩ := H
                  replace H : (some (t204 == x6_2)) = some r := H
                  have A37 := Aside0.mk A370
                  clear A370
                  obtain rfl := Option.some.inj H
                  go_wp2_with (first | ((with_reducible refine gate_callee (f := 18) rfl ?_); refine goesL_ (some 72) rfl rfl Try.func18 (by kernel_rfl) rfl #[.slice Ao11 t197.length co11, .int .i64 x6_2] rfl (by (try simp only [List.map_toArray, List.map_cons, List.map_nil]); first | done | rfl | (simp only [List.length_drop, List.length_take]; rfl)) ?_; (with_reducible refine (senderlog_Next.calls k2 _ _ t197 x6_2 t203 _ ?side1 ?side2 A35.out).mono ?_); (case side1 => repeat (first | exact (Kd.R_reads' HO_5.out).2.2 | (with_reducible refine Kd.C_alloc ?_ _) | (with_reducible refine Kd.C_drewN ?_ _) | (with_reducible refine Kd.C_drew ?_))); (case side2 => exact (Kd.R_reads' HO_5.out).2.1); rintro e w38 ⟨rfl, hb⟩; refine ⟨_, rfl, ?_⟩; have n0_ := Aside0.mk (Kd.R_below (by (with_reducible repeat (first | apply Kd.R_alloc | apply Kd.R_drewN | apply Kd.R_drew)); exact HO_5.out) hb); have n1_ := Aside0.mk (below_step (by repeat (first | (with_reducible first | exact HB.out | apply below_alloc | apply pw_below_drewN | apply below_drew1) | exact HB.out)) hb); clear HO_5; clear HB; have HO_5 := n0_; have HB := n1_; clear n0_ n1_; (try clear hb); (try clear hb2); (try clear hk); (try clear hi)) | (go_at_call 20; (with_reducible refine (senderlog_Confirm.calls k2 _ _ t197 x6_2 t204 _ ?side1 ?side2 A37.out).mono ?_); (case side1 => repeat (first | exact (Kd.R_reads' HO_5.out).2.2 | (with_reducible refine Kd.C_alloc ?_ _) | (with_reducible refine Kd.C_drewN ?_ _) | (with_reducible refine Kd.C_drew ?_))); (case side2 => exact (Kd.R_reads' HO_5.out).2.1); rintro e w39 ⟨rfl, hb⟩; have n0_ := Aside0.mk (Kd.R_below (by (with_reducible repeat (first | apply Kd.R_alloc | apply Kd.R_drewN | apply Kd.R_drew)); exact HO_5.out) hb); have n1_ := Aside0.mk (below_step (by repeat (first | (with_reducible first | exact HB.out | apply below_alloc | apply pw_below_drewN | apply below_drew1) | exact HB.out)) hb); clear HO_5; clear HB; have HO_5 := n0_; have HB := n1_; clear n0_ n1_; (try clear hb); (try clear hb2); (try clear hk); (try clear hi)))
                  go_ret
                  exact ⟨by first | rfl | (simp [errW_none, errW_some] <;> rfl) | (simp [*, errW_none, errW_some] <;> rfl), by repeat (first | (with_reducible first | exact HB.out | apply below_alloc | apply pw_below_drewN | apply below_drew1) | exact HB.out)⟩
                · rw [if_neg c36] at H
                  have c36b0 : (t203 == 0) = false := beq_eq_false_iff_ne.mpr c36
                  have c36b1 : (t203 != 0) = true := bne_iff_ne.mpr c36
                  obtain rfl := Option.some.inj H
                  go_wp2_with (first | ((with_reducible refine gate_callee (f := 18) rfl ?_); refine goesL_ (some 72) rfl rfl Try.func18 (by kernel_rfl) rfl #[.slice Ao11 t197.length co11, .int .i64 x6_2] rfl (by (try simp only [List.map_toArray, List.map_cons, List.map_nil]); first | done | rfl | (simp only [List.length_drop, List.length_take]; rfl)) ?_; (with_reducible refine (senderlog_Next.calls k2 _ _ t197 x6_2 t203 _ ?side1 ?side2 A35.out).mono ?_); (case side1 => repeat (first | exact (Kd.R_reads' HO_5.out).2.2 | (with_reducible refine Kd.C_alloc ?_ _) | (with_reducible refine Kd.C_drewN ?_ _) | (with_reducible refine Kd.C_drew ?_))); (case side2 => exact (Kd.R_reads' HO_5.out).2.1); rintro e w40 ⟨rfl, hb⟩; refine ⟨_, rfl, ?_⟩; have n0_ := Aside0.mk (Kd.R_below (by (with_reducible repeat (first | apply Kd.R_alloc | apply Kd.R_drewN | apply Kd.R_drew)); exact HO_5.out) hb); have n1_ := Aside0.mk (below_step (by repeat (first | (with_reducible first | exact HB.out | apply below_alloc | apply pw_below_drewN | apply below_drew1) | exact HB.out)) hb); clear HO_5; clear HB; have HO_5 := n0_; have HB := n1_; clear n0_ n1_; (try clear hb); (try clear hb2); (try clear hk); (try clear hi)))
                  go_ret
                  exact ⟨by first | rfl | (simp [errW_none, errW_some] <;> rfl) | (simp [*, errW_none, errW_some] <;> rfl), by repeat (first | (with_reducible first | exact HB.out | apply below_alloc | apply pw_below_drewN | apply below_drew1) | exact HB.out)⟩
  · replace c4 := Bool.eq_false_iff.mpr c4
    subst c4
    have H1 : (some false) = some r := by rw [if_neg (show ¬ (false = true) by decide)] at H; exact H
    clear H
    have H := H1
    clear H1
    obtain rfl := Option.some.inj H
    go_enter Try.func4, Try.ntmps4
    go_wp2_with (first | ((with_reducible refine gate_callee (f := 14) rfl ?_); refine goesL_ (some 11) rfl rfl Try.func14 (by kernel_rfl) rfl #[] rfl (by (try simp only [List.map_toArray, List.map_cons, List.map_nil]); first | done | rfl | (simp only [List.length_drop, List.length_take]; rfl)) ?_; (with_reducible refine (rollbacknetlaw29_awake.calls k  false _ A3.out).mono ?_); rintro e w41 ⟨rfl, hb⟩; refine ⟨_, rfl, ?_⟩; have n0_ := Aside0.mk (below_step (by repeat (first | (with_reducible first | exact HB.out | apply below_alloc | apply pw_below_drewN | apply below_drew1) | exact HB.out)) hb); clear HB; have HB := n0_; clear n0_; (try clear hb); (try clear hb2); (try clear hk); (try clear hi)))
    go_ret
    exact ⟨by first | rfl | (simp [errW_none, errW_some] <;> rfl) | (simp [*, errW_none, errW_some] <;> rfl), by repeat (first | (with_reducible first | exact HB.out | apply below_alloc | apply pw_below_drewN | apply below_drew1) | exact HB.out)⟩

/-! ### rollbacknetref29_SameCopies: function 32 -/
def rollbacknetref29_SameCopies.l0 : Nat → List (S50) → List (S50) → Int → Option (Bool)
  | 0, _, _, _ => none
  | k + 1, x0, x1, x5 => if x5 < (x0.length : Int) then (if 0 ≤ x5 then (if x5 < (x1.length : Int) then (if (!(((rd_T50 x0 x5).f0) == ((rd_T50 x1 x5).f0)) || (!(((rd_T50 x0 x5).f1) == ((rd_T50 x1 x5).f1)) || (!(((rd_T50 x0 x5).f2) == ((rd_T50 x1 x5).f2)) || (!(((rd_T50 x0 x5).f3) == ((rd_T50 x1 x5).f3)))))) = true then (some false) else (rollbacknetref29_SameCopies.l0 k x0 x1 (wrap64 (x5 + 1)))) else (none)) else (none)) else (some true)
def rollbacknetref29_SameCopies.f (k : Nat) (l0 : List (S50)) (l1 : List (S50)) : Option (Bool) := if (l0.length : Int) = (l1.length : Int) then (rollbacknetref29_SameCopies.l0 k l0 l1 0) else (some false)
theorem rollbacknetref29_SameCopies.mono_l : ∀ k, (∀ y0 y1 y2, LeO (rollbacknetref29_SameCopies.l0 k y0 y1 y2) (rollbacknetref29_SameCopies.l0 (k + 1) y0 y1 y2))
  | 0 => fun _ _ _ r h => by simp [rollbacknetref29_SameCopies.l0] at h
  | k + 1 => by
    have ih0 := rollbacknetref29_SameCopies.mono_l k
    · intro y0 y1 y2
      unfold rollbacknetref29_SameCopies.l0
      repeat' first
      | (with_reducible exact ih0 _ _ _)
      | (with_reducible exact LeO.refl _)
      | (with_reducible exact LeO.none _)
      | (with_reducible refine LeO.ite ?_ ?_)
      | (with_reducible refine LeO.bind ?_ (fun _ => ?_))
      | exact ih0 _ _ _
      | exact LeO.none _
      | refine LeO.ite ?_ ?_
      | refine LeO.bind ?_ (fun _ => ?_)
theorem rollbacknetref29_SameCopies.mono : ∀ a0 a1 k, LeO (rollbacknetref29_SameCopies.f k a0 a1) (rollbacknetref29_SameCopies.f (k + 1) a0 a1) := by
  intro a0 a1 k
  have ih0 := rollbacknetref29_SameCopies.mono_l k
  unfold rollbacknetref29_SameCopies.f
  repeat' first
      | (with_reducible exact ih0 _ _ _)
      | (with_reducible exact LeO.refl _)
      | (with_reducible exact LeO.none _)
      | (with_reducible refine LeO.ite ?_ ?_)
      | (with_reducible refine LeO.bind ?_ (fun _ => ?_))
      | exact ih0 _ _ _
      | exact LeO.none _
      | refine LeO.ite ?_ ?_
      | refine LeO.bind ?_ (fun _ => ?_)
set_option maxHeartbeats 8000000 in
set_option maxRecDepth 100000 in
theorem rollbacknetref29_SameCopies.calls (k : Nat) (A0 : Option Addr) (c0 : Nat) (l0 : List (S50)) (A1 : Option Addr) (c1 : Nat) (l1 : List (S50)) (r : Bool) (w : World) (hr0 : Kd.C k50 w A0 l0.length l0) (hc0 : l0.length ≤ c0) (hr1 : Kd.C k50 w A1 l1.length l1) (hc1 : l1.length ≤ c1) (h : rollbacknetref29_SameCopies.f k l0 l1 = some r) :
    Calls Try.prog 32 #[.slice A0 l0.length c0, .slice A1 l1.length c1] w fun e w' => e = .returned (.bool r) ∧ Drawn0 w w' := by
  have hu50 := Try.underlying50
  have HR0 := Aside0.mk hr0
  have HC0 := Aside0.mk hc0
  clear hr0 hc0
  have HR1 := Aside0.mk hr1
  have HC1 := Aside0.mk hc1
  clear hr1 hc1
  have H : (if (l0.length : Int) = (l1.length : Int) then (rollbacknetref29_SameCopies.l0 k l0 l1 0) else (some false)) = some r := h
  clear h
  by_cases c3 : (l0.length : Int) = (l1.length : Int)
  · rw [if_pos c3] at H
    have c3b0 : ((l0.length : Int) == (l1.length : Int)) = true := beq_iff_eq.mpr c3
    have c3b1 : ((l0.length : Int) != (l1.length : Int)) = false := bne_eq_false_iff_eq.mpr c3
    have c3b2 : (l0.length == l1.length) = true := by first | simpa using c3 | (simp at c3 ⊢; omega)
    clear c3
    have H' := Aside0.mk H
    clear H
    go_enter Try.func32, Try.ntmps32
    go_wp2
    repeat (go_quiet (fail); try go_wp2)
    go_loopg [5] k (fun kq v5 w' => ∃ (x5_1 : Int), v5 = .int .i64 x5_1 ∧ Aside0 (rollbacknetref29_SameCopies.l0 kq l0 l1 x5_1 = some r) ∧ Aside0 (kq ≤ k) ∧ Drawn0 w w')
    case atStart => exact ⟨(0), (by first | rfl | (simp; done) | (simp [*]; done)), H', ⟨Nat.le_refl _⟩, by repeat (first | exact Drawn0.refl _ | apply Drawn0.step)⟩
    case round =>
      clear H'
      try clear c1
      try clear p2
      try clear c3
      try clear c3b0
      try clear c3b1
      try clear c3b2
      obtain ⟨x5_1, rfl, HA, HK1, ⟨m1, rfl⟩⟩ := hrel
      cases gk with
      | zero => exact absurd HA.out (by simp [rollbacknetref29_SameCopies.l0])
      | succ k1 =>
        have H := HA.out
        clear HA
        simp only [rollbacknetref29_SameCopies.l0] at H
        by_cases c4 : x5_1 < (l0.length : Int)
        · rw [if_pos c4] at H
          have c4b0 : decide (x5_1 < (l0.length : Int)) = true := decide_eq_true c4
          clear c4
          by_cases c5 : 0 ≤ x5_1
          · rw [if_pos c5] at H
            have c5b0 : decide (0 ≤ x5_1) = true := decide_eq_true c5
            clear c5
            by_cases c6 : x5_1 < (l1.length : Int)
            · rw [if_pos c6] at H
              have c6b0 : decide (x5_1 < (l1.length : Int)) = true := decide_eq_true c6
              clear c6
              by_cases c7 : (!(((rd_T50 l0 x5_1).f0) == ((rd_T50 l1 x5_1).f0)) || (!(((rd_T50 l0 x5_1).f1) == ((rd_T50 l1 x5_1).f1)) || (!(((rd_T50 l0 x5_1).f2) == ((rd_T50 l1 x5_1).f2)) || (!(((rd_T50 l0 x5_1).f3) == ((rd_T50 l1 x5_1).f3)))))) = true
              · rw [if_pos c7] at H
                have c7b0 : (!(((rd_T50 l0 x5_1).f0) == ((rd_T50 l1 x5_1).f0)) || (!(((rd_T50 l0 x5_1).f1) == ((rd_T50 l1 x5_1).f1)) || (!(((rd_T50 l0 x5_1).f2) == ((rd_T50 l1 x5_1).f2)) || (!(((rd_T50 l0 x5_1).f3) == ((rd_T50 l1 x5_1).f3)))))) = true := c7
                clear c7
                obtain rfl := Option.some.inj H
                have p208 : 0 ≤ (x5_1 : Int) := of_decide_eq_true (by first | (with_reducible assumption) | assumption)
                have q208 : x5_1 < (l0.length : Int) := of_decide_eq_true (by first | (with_reducible assumption) | assumption)
                obtain ⟨ad208, e208, hx208_0, hx208_1, hx208_2, hx208_3⟩ := at_T50 HR0.out x5_1 p208 q208
                cases e208
                replace p208 := eq_true p208
                replace q208 := eq_true q208
                have p209 : 0 ≤ (x5_1 : Int) := of_decide_eq_true (by first | (with_reducible assumption) | assumption)
                have q209 : x5_1 < (l1.length : Int) := of_decide_eq_true (by first | (with_reducible assumption) | assumption)
                obtain ⟨ad209, e209, hx209_0, hx209_1, hx209_2, hx209_3⟩ := at_T50 HR1.out x5_1 p209 q209
                cases e209
                replace p209 := eq_true p209
                replace q209 := eq_true q209
                go_wp2
                repeat (go_quiet (fail); try go_wp2)
                go_ret
                exact ⟨by first | rfl | (simp; done) | (simp [*]; done), by repeat (first | exact Drawn0.refl _ | apply Drawn0.step)⟩
              · rw [if_neg c7] at H
                have c7b0 : (!(((rd_T50 l0 x5_1).f0) == ((rd_T50 l1 x5_1).f0)) || (!(((rd_T50 l0 x5_1).f1) == ((rd_T50 l1 x5_1).f1)) || (!(((rd_T50 l0 x5_1).f2) == ((rd_T50 l1 x5_1).f2)) || (!(((rd_T50 l0 x5_1).f3) == ((rd_T50 l1 x5_1).f3)))))) = false := by simpa using c7
                clear c7
                have H' := Aside0.mk H
                clear H
                have p208 : 0 ≤ (x5_1 : Int) := of_decide_eq_true (by first | (with_reducible assumption) | assumption)
                have q208 : x5_1 < (l0.length : Int) := of_decide_eq_true (by first | (with_reducible assumption) | assumption)
                obtain ⟨ad208, e208, hx208_0, hx208_1, hx208_2, hx208_3⟩ := at_T50 HR0.out x5_1 p208 q208
                cases e208
                replace p208 := eq_true p208
                replace q208 := eq_true q208
                have p209 : 0 ≤ (x5_1 : Int) := of_decide_eq_true (by first | (with_reducible assumption) | assumption)
                have q209 : x5_1 < (l1.length : Int) := of_decide_eq_true (by first | (with_reducible assumption) | assumption)
                obtain ⟨ad209, e209, hx209_0, hx209_1, hx209_2, hx209_3⟩ := at_T50 HR1.out x5_1 p209 q209
                cases e209
                replace p209 := eq_true p209
                replace q209 := eq_true q209
                go_wp2
                repeat (go_quiet (fail); try go_wp2)
                go_roundg k1
                case measure => have := HK1.out; omega
                case rel => exact ⟨(wrap64 (x5_1 + 1)), (by first | rfl | (simp; done) | (simp [*]; done)), H', ⟨by have := HK1.out; omega⟩, by repeat (first | exact Drawn0.refl _ | apply Drawn0.step)⟩
            · rw [if_neg c6] at H
              exact absurd H (by simp)
          · rw [if_neg c5] at H
            exact absurd H (by simp)
        · rw [if_neg c4] at H
          have c4b0 : decide (x5_1 < (l0.length : Int)) = false := decide_eq_false c4
          clear c4
          obtain rfl := Option.some.inj H
          go_wp2
          repeat (go_quiet (fail); try go_wp2)
          go_ret
          exact ⟨by first | rfl | (simp; done) | (simp [*]; done), by repeat (first | exact Drawn0.refl _ | apply Drawn0.step)⟩
  · rw [if_neg c3] at H
    have c3b0 : ((l0.length : Int) == (l1.length : Int)) = false := beq_eq_false_iff_ne.mpr c3
    have c3b1 : ((l0.length : Int) != (l1.length : Int)) = true := bne_iff_ne.mpr c3
    have c3b2 : (l0.length == l1.length) = false := by first | simpa using c3 | (simp at c3 ⊢; omega)
    obtain rfl := Option.some.inj H
    go_enter Try.func32, Try.ntmps32
    go_wp2
    repeat (go_quiet (fail); try go_wp2)
    go_ret
    exact ⟨by first | rfl | (simp; done) | (simp [*]; done), by repeat (first | exact Drawn0.refl _ | apply Drawn0.step)⟩

/-! ### senderlog_Record: function 33 -/
def senderlog_Record.l0 : Nat → List (S50) → Int → Int → Int → Int → Int → Int → Option ((List (S50)))
  | 0, _, _, _, _, _, _, _ => none
  | k + 1, x5, x10, x11, x211000, x211001, x211002, x211003 => if x11 < x10 then (if 0 ≤ x11 then (if x11 < (x5.length : Int) then (if ((rd_T50 x5 x11).f0) = x211000 then (if ((rd_T50 x5 x11).f1) = x211001 then (some (x5.set (x11 : Int).toNat (⟨x211000, x211001, x211002, x211003⟩ : S50))) else (senderlog_Record.l0 k x5 x10 (wrap64 (x11 + 1)) x211000 x211001 x211002 x211003)) else (senderlog_Record.l0 k x5 x10 (wrap64 (x11 + 1)) x211000 x211001 x211002 x211003)) else (none)) else (none)) else (if x5.length < 4398046511104 then (some (x5 ++ [(⟨x211000, x211001, x211002, x211003⟩ : S50)])) else (none))
def senderlog_Record.f (k : Nat) (l0 : List (S50)) (a1_0 : Int) (a1_1 : Int) (a1_2 : Int) (a1_3 : Int) : Option ((List (S50))) := if ([] : List (S50)).length + l0.length < 4398046511104 then ((some (([] : List (S50)) ++ l0 : List (S50))).bind fun y211 => (senderlog_Record.l0 k y211 (y211.length : Int) 0 a1_0 a1_1 a1_2 a1_3)) else (none)
theorem senderlog_Record.mono_l : ∀ k, (∀ y0 y1 y2 y3 y4 y5 y6, LeO (senderlog_Record.l0 k y0 y1 y2 y3 y4 y5 y6) (senderlog_Record.l0 (k + 1) y0 y1 y2 y3 y4 y5 y6))
  | 0 => fun _ _ _ _ _ _ _ r h => by simp [senderlog_Record.l0] at h
  | k + 1 => by
    have ih0 := senderlog_Record.mono_l k
    · intro y0 y1 y2 y3 y4 y5 y6
      unfold senderlog_Record.l0
      repeat' first
      | (with_reducible exact ih0 _ _ _ _ _ _ _)
      | (with_reducible exact LeO.refl _)
      | (with_reducible exact LeO.none _)
      | (with_reducible refine LeO.ite ?_ ?_)
      | (with_reducible refine LeO.bind ?_ (fun _ => ?_))
      | exact ih0 _ _ _ _ _ _ _
      | exact LeO.none _
      | refine LeO.ite ?_ ?_
      | refine LeO.bind ?_ (fun _ => ?_)
theorem senderlog_Record.mono : ∀ a0 a1 a2 a3 a4 k, LeO (senderlog_Record.f k a0 a1 a2 a3 a4) (senderlog_Record.f (k + 1) a0 a1 a2 a3 a4) := by
  intro a0 a1 a2 a3 a4 k
  have ih0 := senderlog_Record.mono_l k
  unfold senderlog_Record.f
  repeat' first
      | (with_reducible exact ih0 _ _ _ _ _ _ _)
      | (with_reducible exact LeO.refl _)
      | (with_reducible exact LeO.none _)
      | (with_reducible refine LeO.ite ?_ ?_)
      | (with_reducible refine LeO.bind ?_ (fun _ => ?_))
      | exact ih0 _ _ _ _ _ _ _
      | exact LeO.none _
      | refine LeO.ite ?_ ?_
      | refine LeO.bind ?_ (fun _ => ?_)
set_option maxHeartbeats 8000000 in
set_option maxRecDepth 100000 in
theorem senderlog_Record.calls (k : Nat) (A0 : Option Addr) (c0 : Nat) (l0 : List (S50)) (a1_0 : Int) (a1_1 : Int) (a1_2 : Int) (a1_3 : Int) (r : List (S50)) (w : World) (hr0 : Kd.C k50 w A0 l0.length l0) (hc0 : l0.length ≤ c0) (h : senderlog_Record.f k l0 a1_0 a1_1 a1_2 a1_3 = some r) :
    Calls Try.prog 33 #[.slice A0 l0.length c0, .agg #[.int .i64 a1_0, .int .i64 a1_1, .int .i64 a1_2, .int .i64 a1_3]] w fun e w' => ∃ v0_ : Value, e = .returned (v0_) ∧ Kd.R k50 50 w' w.heap.size (fun _ => True) v0_ r ∧ Below w.heap.size w w' := by
  have hu50 := Try.underlying50
  have HR0 := Aside0.mk hr0
  have HC0 := Aside0.mk hc0
  clear hr0 hc0
  have HB := Aside0.mk (Below.refl w.heap.size w)
  have H : (if ([] : List (S50)).length + l0.length < 4398046511104 then ((some (([] : List (S50)) ++ l0 : List (S50))).bind fun y211 => (senderlog_Record.l0 k y211 (y211.length : Int) 0 a1_0 a1_1 a1_2 a1_3)) else (none)) = some r := h
  clear h
  by_cases c3 : ([] : List (S50)).length + l0.length < 4398046511104
  · rw [if_pos c3] at H
    have LMc3 := Aside0.mk c3
    clear c3
    obtain ⟨y211, hy211⟩ : ∃ y_ : List (S50), y_ = (([] : List (S50)) ++ l0) := ⟨_, rfl⟩
    replace H : (senderlog_Record.l0 k y211 (y211.length : Int) 0 a1_0 a1_1 a1_2 a1_3) = some r := by first | (rw [hy211]; with_reducible exact H) | (have H2_ := (Option.bind_some _ _).symm.trans H; rw [hy211]; with_reducible exact H2_) | (have H2_ := (Option.bind_some _ _).symm.trans H; with_reducible exact H2_) | with_reducible exact H | (rw [hy211]; exact H) | exact H
    have Ny211 := Aside0.mk hy211
    clear hy211
    have H' := Aside0.mk H
    clear H
    go_enter Try.func33, Try.ntmps33
    go_wp2_with (first | ((with_reducible refine gate_dst (N := 3) rfl ?_); refine box_event ?hg (N := 3) ?hd (cs := #[.int .i64 a1_0, .int .i64 a1_1, .int .i64 a1_2, .int .i64 a1_3]) (t := 50) ?hr ?_; (case hd => rfl); (case hg => rfl); (case hr => first | (go_simp; done) | (go_simp; rfl)); intro gb210 hg w4 hbox hb; have n0_ := Aside0.mk (below_step (by repeat (first | (with_reducible first | exact HB.out | apply below_alloc | apply pw_below_drewN | apply below_drew1) | exact HB.out)) hb); have n1_ := Aside0.mk (hbox); have n2_ := Aside0.mk ((by rw [hg]; exact (below_size (by repeat (first | (with_reducible first | exact HB.out | apply below_alloc | apply pw_below_drewN | apply below_drew1) | exact HB.out))) : w.heap.size ≤ gb210)); have n3_ := Aside0.mk ((by rw [hg]; exact (below_size (by repeat (first | (with_reducible first | exact HB.out | apply below_alloc | apply pw_below_drewN | apply below_drew1) | exact HB.out))) : w.heap.size ≤ gb210)); clear HB; have HB := n0_; have BK210 := n1_; have GW210 := n2_; have GE210 := n3_; clear n0_ n1_ n2_ n3_; clear hb hbox hg) | ((with_reducible refine gate_builtin (b := .append) (xs := #[(.const (.slice none 0 0)), .tmp 7]) rfl ?_); at_builtin; refine Kd.R_append_rows k50 (w0 := w) w.heap.size rfl (.const (.slice none 0 0)) (.tmp 7) 48 50 (.agg #[(.int .i64 0), (.int .i64 0), (.int .i64 0), (.int .i64 0)]) 32 rfl Try.underlying48 info50 rfl (by decide) (by omega) (.slice none 0 0) ([] : List (S50)) l0 _ _ _ (fun k_ => k_ ≠ gb210) (fun _ => False) rfl rfl ?aO ?aR (fun _ _ h => h) (fun _ h => h.elim) ?aF ?aB ?aS ?aL ?_; (case aR => repeat (first | exact (Kd.C_below HR0.out HB.out) | (with_reducible refine Kd.C_alloc ?_ _) | (with_reducible refine Kd.C_drewN ?_ _) | (with_reducible refine Kd.C_drew ?_))); (case aB => exact (by repeat (first | (with_reducible first | exact HB.out | apply below_alloc | apply pw_below_drewN | apply below_drew1 | refine below_set ?_ GE210.out) | exact HB.out))); (case aF => exact (fun k_ hk => Kd.freshB (g := gb210) (o := .cells #[.int .i64 a1_0, .int .i64 a1_1, .int .i64 a1_2, .int .i64 a1_3] 50 (0, 0)) (by (with_reducible repeat (first | refine blk_drewN ?_ _ | refine blk_drew ?_ | refine blk_alloc ?_ _)); exact BK210.out) k_ hk)); (case aO => exact ((Kd.R_nil _ _ _ _ (fun k_ => k_ ≠ gb210)))); (case aS => exact (below_size (by repeat (first | (with_reducible first | exact HB.out | apply below_alloc | apply pw_below_drewN | apply below_drew1 | refine below_set ?_ GE210.out) | exact HB.out)))); (case aL => have := LMc3.out; omega); intro v212 w5 ho hb hg hat; rw [← Ny211.out] at ho; have n0_ := Aside0.mk (blk_grown (g := gb210) (o := .cells #[.int .i64 a1_0, .int .i64 a1_1, .int .i64 a1_2, .int .i64 a1_3] 50 (0, 0)) (by (with_reducible repeat (first | refine blk_drewN ?_ _ | refine blk_drew ?_ | refine blk_alloc ?_ _)); exact BK210.out) hg (by simp [Value.ownBlock])); have n1_ := Aside0.mk (hb); have n2_ := Aside0.mk (ho); clear BK210; clear HB; have BK210 := n0_; have HB := n1_; have HO213 := n2_; clear n0_ n1_ n2_; clear ho hb hg hat; obtain ⟨Ao6, co6, eo6⟩ := Kd.R_slice HO213.out; subst eo6))
    repeat (go_quiet (first | ((with_reducible refine gate_dst (N := 3) rfl ?_); refine box_event ?hg (N := 3) ?hd (cs := #[.int .i64 a1_0, .int .i64 a1_1, .int .i64 a1_2, .int .i64 a1_3]) (t := 50) ?hr ?_; (case hd => rfl); (case hg => rfl); (case hr => first | (go_simp; done) | (go_simp; rfl)); intro gb210 hg w4 hbox hb; have n0_ := Aside0.mk (below_step (by repeat (first | (with_reducible first | exact HB.out | apply below_alloc | apply pw_below_drewN | apply below_drew1) | exact HB.out)) hb); have n1_ := Aside0.mk (hbox); have n2_ := Aside0.mk ((by rw [hg]; exact (below_size (by repeat (first | (with_reducible first | exact HB.out | apply below_alloc | apply pw_below_drewN | apply below_drew1) | exact HB.out))) : w.heap.size ≤ gb210)); have n3_ := Aside0.mk ((by rw [hg]; exact (below_size (by repeat (first | (with_reducible first | exact HB.out | apply below_alloc | apply pw_below_drewN | apply below_drew1) | exact HB.out))) : w.heap.size ≤ gb210)); clear HB; have HB := n0_; have BK210 := n1_; have GW210 := n2_; have GE210 := n3_; clear n0_ n1_ n2_ n3_; clear hb hbox hg) | ((with_reducible refine gate_builtin (b := .append) (xs := #[(.const (.slice none 0 0)), .tmp 7]) rfl ?_); at_builtin; refine Kd.R_append_rows k50 (w0 := w) w.heap.size rfl (.const (.slice none 0 0)) (.tmp 7) 48 50 (.agg #[(.int .i64 0), (.int .i64 0), (.int .i64 0), (.int .i64 0)]) 32 rfl Try.underlying48 info50 rfl (by decide) (by omega) (.slice none 0 0) ([] : List (S50)) l0 _ _ _ (fun k_ => k_ ≠ gb210) (fun _ => False) rfl rfl ?aO ?aR (fun _ _ h => h) (fun _ h => h.elim) ?aF ?aB ?aS ?aL ?_; (case aR => repeat (first | exact (Kd.C_below HR0.out HB.out) | (with_reducible refine Kd.C_alloc ?_ _) | (with_reducible refine Kd.C_drewN ?_ _) | (with_reducible refine Kd.C_drew ?_))); (case aB => exact (by repeat (first | (with_reducible first | exact HB.out | apply below_alloc | apply pw_below_drewN | apply below_drew1 | refine below_set ?_ GE210.out) | exact HB.out))); (case aF => exact (fun k_ hk => Kd.freshB (g := gb210) (o := .cells #[.int .i64 a1_0, .int .i64 a1_1, .int .i64 a1_2, .int .i64 a1_3] 50 (0, 0)) (by (with_reducible repeat (first | refine blk_drewN ?_ _ | refine blk_drew ?_ | refine blk_alloc ?_ _)); exact BK210.out) k_ hk)); (case aO => exact ((Kd.R_nil _ _ _ _ (fun k_ => k_ ≠ gb210)))); (case aS => exact (below_size (by repeat (first | (with_reducible first | exact HB.out | apply below_alloc | apply pw_below_drewN | apply below_drew1 | refine below_set ?_ GE210.out) | exact HB.out)))); (case aL => have := LMc3.out; omega); intro v212 w5 ho hb hg hat; rw [← Ny211.out] at ho; have n0_ := Aside0.mk (blk_grown (g := gb210) (o := .cells #[.int .i64 a1_0, .int .i64 a1_1, .int .i64 a1_2, .int .i64 a1_3] 50 (0, 0)) (by (with_reducible repeat (first | refine blk_drewN ?_ _ | refine blk_drew ?_ | refine blk_alloc ?_ _)); exact BK210.out) hg (by simp [Value.ownBlock])); have n1_ := Aside0.mk (hb); have n2_ := Aside0.mk (ho); clear BK210; clear HB; have BK210 := n0_; have HB := n1_; have HO213 := n2_; clear n0_ n1_ n2_; clear ho hb hg hat; obtain ⟨Ao6, co6, eo6⟩ := Kd.R_slice HO213.out; subst eo6)); try go_wp2_with (first | ((with_reducible refine gate_dst (N := 3) rfl ?_); refine box_event ?hg (N := 3) ?hd (cs := #[.int .i64 a1_0, .int .i64 a1_1, .int .i64 a1_2, .int .i64 a1_3]) (t := 50) ?hr ?_; (case hd => rfl); (case hg => rfl); (case hr => first | (go_simp; done) | (go_simp; rfl)); intro gb210 hg w4 hbox hb; have n0_ := Aside0.mk (below_step (by repeat (first | (with_reducible first | exact HB.out | apply below_alloc | apply pw_below_drewN | apply below_drew1) | exact HB.out)) hb); have n1_ := Aside0.mk (hbox); have n2_ := Aside0.mk ((by rw [hg]; exact (below_size (by repeat (first | (with_reducible first | exact HB.out | apply below_alloc | apply pw_below_drewN | apply below_drew1) | exact HB.out))) : w.heap.size ≤ gb210)); have n3_ := Aside0.mk ((by rw [hg]; exact (below_size (by repeat (first | (with_reducible first | exact HB.out | apply below_alloc | apply pw_below_drewN | apply below_drew1) | exact HB.out))) : w.heap.size ≤ gb210)); clear HB; have HB := n0_; have BK210 := n1_; have GW210 := n2_; have GE210 := n3_; clear n0_ n1_ n2_ n3_; clear hb hbox hg) | ((with_reducible refine gate_builtin (b := .append) (xs := #[(.const (.slice none 0 0)), .tmp 7]) rfl ?_); at_builtin; refine Kd.R_append_rows k50 (w0 := w) w.heap.size rfl (.const (.slice none 0 0)) (.tmp 7) 48 50 (.agg #[(.int .i64 0), (.int .i64 0), (.int .i64 0), (.int .i64 0)]) 32 rfl Try.underlying48 info50 rfl (by decide) (by omega) (.slice none 0 0) ([] : List (S50)) l0 _ _ _ (fun k_ => k_ ≠ gb210) (fun _ => False) rfl rfl ?aO ?aR (fun _ _ h => h) (fun _ h => h.elim) ?aF ?aB ?aS ?aL ?_; (case aR => repeat (first | exact (Kd.C_below HR0.out HB.out) | (with_reducible refine Kd.C_alloc ?_ _) | (with_reducible refine Kd.C_drewN ?_ _) | (with_reducible refine Kd.C_drew ?_))); (case aB => exact (by repeat (first | (with_reducible first | exact HB.out | apply below_alloc | apply pw_below_drewN | apply below_drew1 | refine below_set ?_ GE210.out) | exact HB.out))); (case aF => exact (fun k_ hk => Kd.freshB (g := gb210) (o := .cells #[.int .i64 a1_0, .int .i64 a1_1, .int .i64 a1_2, .int .i64 a1_3] 50 (0, 0)) (by (with_reducible repeat (first | refine blk_drewN ?_ _ | refine blk_drew ?_ | refine blk_alloc ?_ _)); exact BK210.out) k_ hk)); (case aO => exact ((Kd.R_nil _ _ _ _ (fun k_ => k_ ≠ gb210)))); (case aS => exact (below_size (by repeat (first | (with_reducible first | exact HB.out | apply below_alloc | apply pw_below_drewN | apply below_drew1 | refine below_set ?_ GE210.out) | exact HB.out)))); (case aL => have := LMc3.out; omega); intro v212 w5 ho hb hg hat; rw [← Ny211.out] at ho; have n0_ := Aside0.mk (blk_grown (g := gb210) (o := .cells #[.int .i64 a1_0, .int .i64 a1_1, .int .i64 a1_2, .int .i64 a1_3] 50 (0, 0)) (by (with_reducible repeat (first | refine blk_drewN ?_ _ | refine blk_drew ?_ | refine blk_alloc ?_ _)); exact BK210.out) hg (by simp [Value.ownBlock])); have n1_ := Aside0.mk (hb); have n2_ := Aside0.mk (ho); clear BK210; clear HB; have BK210 := n0_; have HB := n1_; have HO213 := n2_; clear n0_ n1_ n2_; clear ho hb hg hat; obtain ⟨Ao6, co6, eo6⟩ := Kd.R_slice HO213.out; subst eo6)))
    go_loopg [11] k (fun kq v11 w' => ∃ (x5_1 : List (S50)) (x11_1 : Int) (x211000_1 : Int) (x211001_1 : Int) (x211002_1 : Int) (x211003_1 : Int), v11 = .int .i64 x11_1 ∧ Aside0 (senderlog_Record.l0 kq x5_1 (y211.length : Int) x11_1 x211000_1 x211001_1 x211002_1 x211003_1 = some r) ∧ Aside0 (kq ≤ k) ∧ Aside0 (Kd.R k50 50 w' w.heap.size (fun k_ => k_ ≠ gb210) (.slice Ao6 y211.length co6) x5_1) ∧ Aside0 (w'.heap[gb210]? = some (.cells #[.int .i64 x211000_1, .int .i64 x211001_1, .int .i64 x211002_1, .int .i64 x211003_1] 50 (0, 0))) ∧ Aside0 (Below w.heap.size w w'))
    case atStart => exact ⟨(y211), (0), (a1_0), (a1_1), (a1_2), (a1_3), (by first | rfl | (simp; done) | (simp [*]; done)), H', ⟨Nat.le_refl _⟩, ⟨by (with_reducible repeat (first | apply Kd.R_alloc | apply Kd.R_drewN | apply Kd.R_drew)); exact HO213.out⟩, ⟨by (with_reducible repeat (first | refine blk_drewN ?_ _ | refine blk_drew ?_ | refine blk_alloc ?_ _)); exact BK210.out⟩, ⟨by repeat (first | (with_reducible first | exact HB.out | apply below_alloc | apply pw_below_drewN | apply below_drew1 | refine below_set ?_ GE210.out) | exact HB.out)⟩⟩
    case round =>
      clear H'
      try clear p2
      try clear c3
      obtain ⟨x5_1, x11_1, x211000_1, x211001_1, x211002_1, x211003_1, rfl, HA, HK1, HO_5, BK210, HB⟩ := hrel
      have hl5_1 := (Kd.R_reads' HO_5.out).1
      rw [hl5_1] at HO_5
      (try simp only [hl5_1])
      (try simp only [hl5_1] at BK210)
      cases gk with
      | zero => exact absurd HA.out (by simp [senderlog_Record.l0])
      | succ k1 =>
        have H := HA.out
        clear HA
        simp only [senderlog_Record.l0] at H
        by_cases c7 : x11_1 < (y211.length : Int)
        · rw [if_pos c7] at H
          have c7b0 : decide (x11_1 < (y211.length : Int)) = true := decide_eq_true c7
          (try simp only [hl5_1] at c7b0)
          clear c7
          by_cases c8 : 0 ≤ x11_1
          · rw [if_pos c8] at H
            have c8b0 : decide (0 ≤ x11_1) = true := decide_eq_true c8
            (try simp only [hl5_1] at c8b0)
            clear c8
            by_cases c9 : x11_1 < (x5_1.length : Int)
            · rw [if_pos c9] at H
              have c9b0 : decide (x11_1 < (x5_1.length : Int)) = true := decide_eq_true c9
              (try simp only [hl5_1] at c9b0)
              clear c9
              by_cases c10 : ((rd_T50 x5_1 x11_1).f0) = x211000_1
              · rw [if_pos c10] at H
                have c10b0 : (((rd_T50 x5_1 x11_1).f0) == x211000_1) = true := beq_iff_eq.mpr c10
                (try simp only [hl5_1] at c10b0)
                have c10b1 : (((rd_T50 x5_1 x11_1).f0) != x211000_1) = false := bne_eq_false_iff_eq.mpr c10
                (try simp only [hl5_1] at c10b1)
                clear c10
                by_cases c11 : ((rd_T50 x5_1 x11_1).f1) = x211001_1
                · rw [if_pos c11] at H
                  have c11b0 : (((rd_T50 x5_1 x11_1).f1) == x211001_1) = true := beq_iff_eq.mpr c11
                  (try simp only [hl5_1] at c11b0)
                  have c11b1 : (((rd_T50 x5_1 x11_1).f1) != x211001_1) = false := bne_eq_false_iff_eq.mpr c11
                  (try simp only [hl5_1] at c11b1)
                  clear c11
                  obtain ⟨y216, hy216⟩ : ∃ y_ : List (S50), y_ = (x5_1.set (x11_1 : Int).toNat (⟨x211000_1, x211001_1, x211002_1, x211003_1⟩ : S50)) := ⟨_, rfl⟩
                  replace H : (some y216) = some r := by first | (rw [hy216]; with_reducible exact H) | (have H2_ := (Option.bind_some _ _).symm.trans H; rw [hy216]; with_reducible exact H2_) | (have H2_ := (Option.bind_some _ _).symm.trans H; with_reducible exact H2_) | with_reducible exact H | (rw [hy216]; exact H) | exact H
                  have Ny216 := Aside0.mk hy216
                  clear hy216
                  obtain rfl := Option.some.inj H
                  have p214 : 0 ≤ (x11_1 : Int) := of_decide_eq_true (by first | (with_reducible assumption) | assumption)
                  have q214 : x11_1 < (x5_1.length : Int) := of_decide_eq_true (by first | (with_reducible assumption) | assumption)
                  obtain ⟨ad214, e214, hx214_0, hx214_1, hx214_2, hx214_3⟩ := at_T50 (Kd.R_reads' HO_5.out).2.2 x11_1 p214 q214
                  cases e214
                  replace p214 := eq_true p214
                  replace q214 := eq_true q214
                  have hcz13_0 : wr.cell? ⟨gb210, 0, none⟩ = some (.int .i64 x211000_1) := (blk_cell BK210.out 0).trans rfl
                  have hcz13_1 : wr.cell? ⟨gb210, 1, none⟩ = some (.int .i64 x211001_1) := (blk_cell BK210.out 1).trans rfl
                  have hcz13_2 : wr.cell? ⟨gb210, 2, none⟩ = some (.int .i64 x211002_1) := (blk_cell BK210.out 2).trans rfl
                  have hcz13_3 : wr.cell? ⟨gb210, 3, none⟩ = some (.int .i64 x211003_1) := (blk_cell BK210.out 3).trans rfl
                  have hfz13_0 := blk_frozen BK210.out 0
                  have hfz13_1 := blk_frozen BK210.out 1
                  have hfz13_2 := blk_frozen BK210.out 2
                  have hfz13_3 := blk_frozen BK210.out 3
                  have p215 : 0 ≤ (x11_1 : Int) := of_decide_eq_true (by first | (with_reducible assumption) | assumption)
                  have q215 : x11_1 < (x5_1.length : Int) := of_decide_eq_true (by first | (with_reducible assumption) | assumption)
                  obtain ⟨ad215, e215, hx215_0, hx215_1, hx215_2, hx215_3⟩ := at_T50 (Kd.R_reads' HO_5.out).2.2 x11_1 p215 q215
                  obtain rfl : ad214 = ad215 := (by injection e215)
                  replace p215 := eq_true p215
                  replace q215 := eq_true q215
                  have p12 : 0 ≤ (x11_1 : Int) := of_decide_eq_true (by first | (with_reducible assumption) | assumption)
                  have q12 : (x11_1 : Int) < ((x5_1.length : Int) : Int) := of_decide_eq_true (by first | (with_reducible assumption) | assumption)
                  obtain ⟨go12, co12, eo12, gb12, gl12, cl12, HG12⟩ := Kd.R_form HO_5.out (by omega)
                  (first | cases eo12 | (injection eo12 with ea_ en_ ec_; (first | subst ea_ | (injection ea_ with ea_; subst ea_)); subst ec_; clear en_))
                  have GB12 := Aside0.mk gb12
                  have GG12 := Aside0.mk HG12
                  clear gb12 gl12 HG12
                  (first | simp only [add_plain] at hx214_0 | skip)
                  (first | simp only [add_plain] at hx214_1 | skip)
                  (first | simp only [add_plain] at hx214_2 | skip)
                  (first | simp only [add_plain] at hx214_3 | skip)
                  (first | simp only [add_plain] at hx215_0 | skip)
                  (first | simp only [add_plain] at hx215_1 | skip)
                  (first | simp only [add_plain] at hx215_2 | skip)
                  (first | simp only [add_plain] at hx215_3 | skip)
                  obtain ⟨ce12, hcl12, hM12, hcc12, hfr12⟩ := Kd.R_elem HO_5.out z50 (x11_1 : Int) p12 q12
                  obtain rfl := k50_openM hM12
                  have hx12_0 : wr.cell? ⟨go12, (x11_1 : Int).toNat * 4, none⟩ = some (.int .i64 ((rd_T50 x5_1 x11_1).f0)) := hcc12 0 _ rfl
                  have hx12_1 : wr.cell? ⟨go12, (x11_1 : Int).toNat * 4 + 1, none⟩ = some (.int .i64 ((rd_T50 x5_1 x11_1).f1)) := hcc12 1 _ rfl
                  have hx12_2 : wr.cell? ⟨go12, (x11_1 : Int).toNat * 4 + 2, none⟩ = some (.int .i64 ((rd_T50 x5_1 x11_1).f2)) := hcc12 2 _ rfl
                  have hx12_3 : wr.cell? ⟨go12, (x11_1 : Int).toNat * 4 + 3, none⟩ = some (.int .i64 ((rd_T50 x5_1 x11_1).f3)) := hcc12 3 _ rfl
                  have hf12_0 : wr.frozen? ⟨go12, (x11_1 : Int).toNat * 4, none⟩ = false := hfr12 0
                  have hf12_1 : wr.frozen? ⟨go12, (x11_1 : Int).toNat * 4 + 1, none⟩ = false := hfr12 1
                  have hf12_2 : wr.frozen? ⟨go12, (x11_1 : Int).toNat * 4 + 2, none⟩ = false := hfr12 2
                  have hf12_3 : wr.frozen? ⟨go12, (x11_1 : Int).toNat * 4 + 3, none⟩ = false := hfr12 3
                  clear hcl12 hcc12 hfr12 hM12
                  replace p12 := eq_true p12
                  replace q12 := eq_true q12
                  have HX14 := Aside0.mk (show Kd.R k50 50 wr w.heap.size (fun k_ => k_ ≠ gb210) (.slice (some ⟨go12, 0, none⟩) x5_1.length co6) x5_1 from (by (with_reducible repeat (first | apply Kd.R_alloc | apply Kd.R_drewN | apply Kd.R_drew)); exact HO_5.out))
                  obtain ⟨ce14, hcl14, hM14, hcc14, hfr14⟩ := Kd.R_elem HX14.out z50 (x11_1 : Int) (of_decide_eq_true (by first | (with_reducible assumption) | assumption)) (by have h_ : (x11_1 : Int) < ((x5_1.length : Int) : Int) := of_decide_eq_true (by first | (with_reducible assumption) | assumption); first | exact h_ | (have e_ := (Kd.R_reads' HO_5.out).1; omega) | simpa using h_)
                  obtain rfl := k50_openM hM14
                  have HP14 := Kd.R_seg HX14.out (x11_1 : Int) (of_decide_eq_true (by first | (with_reducible assumption) | assumption)) (by have h_ : (x11_1 : Int) < ((x5_1.length : Int) : Int) := of_decide_eq_true (by first | (with_reducible assumption) | assumption); first | exact h_ | (have e_ := (Kd.R_reads' HO_5.out).1; omega) | simpa using h_) (seg := [.int .i64 x211000_1, .int .i64 x211001_1, .int .i64 x211002_1, .int .i64 x211003_1]) (j := 0) hcl14 hcc14 (show 4 ≤ 4 from by decide) (x' := (⟨x211000_1, x211001_1, x211002_1, x211003_1⟩ : S50)) (k50_mkM _ _ _ (⟨x211000_1, x211001_1, x211002_1, x211003_1⟩ : S50) ) (fun _ hk => hk)
                  have hx14_0 := hcc14 0 _ rfl
                  (try simp only [show (k50).sz = 4 from rfl, Nat.mul_one, Nat.add_zero] at hx14_0)
                  have hf14_0 := hfr14 0
                  (try simp only [show (k50).sz = 4 from rfl, Nat.mul_one, Nat.add_zero] at hf14_0)
                  have hx14_1 := hcc14 1 _ rfl
                  (try simp only [show (k50).sz = 4 from rfl, Nat.mul_one, Nat.add_zero] at hx14_1)
                  have hf14_1 := hfr14 1
                  (try simp only [show (k50).sz = 4 from rfl, Nat.mul_one, Nat.add_zero] at hf14_1)
                  have hx14_2 := hcc14 2 _ rfl
                  (try simp only [show (k50).sz = 4 from rfl, Nat.mul_one, Nat.add_zero] at hx14_2)
                  have hf14_2 := hfr14 2
                  (try simp only [show (k50).sz = 4 from rfl, Nat.mul_one, Nat.add_zero] at hf14_2)
                  have hx14_3 := hcc14 3 _ rfl
                  (try simp only [show (k50).sz = 4 from rfl, Nat.mul_one, Nat.add_zero] at hx14_3)
                  have hf14_3 := hfr14 3
                  (try simp only [show (k50).sz = 4 from rfl, Nat.mul_one, Nat.add_zero] at hf14_3)
                  clear hcl14 hcc14 hfr14 hM14
                  go_wp2_with (first | ((with_reducible refine gate_store (t := 50) (p := 35) rfl ?_); (try (rw [drewN_self wr]; generalize hq_ : World.drewN wr _ = wr; have n0_ := Aside0.mk (Kd.R_at hq_ HO_5.out); have n1_ := Aside0.mk (blk_at hq_ BK210.out); have n2_ := Aside0.mk (below_at hq_ HB.out); clear hq_ HO_5 BK210 HB; have HO_5 := n0_; have BK210 := n1_; have HB := n2_; clear n0_ n1_ n2_; (try (have HX14 := Aside0.mk (show Kd.R k50 50 wr w.heap.size (fun k_ => k_ ≠ gb210) (.slice (some ⟨go12, 0, none⟩) x5_1.length co6) x5_1 from (by (with_reducible repeat (first | apply Kd.R_alloc | apply Kd.R_drewN | apply Kd.R_drew)); exact HO_5.out)))); (try (obtain ⟨ce14, hcl14, hM14, hcc14, hfr14⟩ := Kd.R_elem HX14.out z50 (x11_1 : Int) (of_decide_eq_true (by first | (with_reducible assumption) | assumption)) (by have h_ : (x11_1 : Int) < ((x5_1.length : Int) : Int) := of_decide_eq_true (by first | (with_reducible assumption) | assumption); first | exact h_ | (have e_ := (Kd.R_reads' HO_5.out).1; omega) | simpa using h_))); (try (obtain rfl := k50_openM hM14)); (try (have HP14 := Kd.R_seg HX14.out (x11_1 : Int) (of_decide_eq_true (by first | (with_reducible assumption) | assumption)) (by have h_ : (x11_1 : Int) < ((x5_1.length : Int) : Int) := of_decide_eq_true (by first | (with_reducible assumption) | assumption); first | exact h_ | (have e_ := (Kd.R_reads' HO_5.out).1; omega) | simpa using h_) (seg := [.int .i64 x211000_1, .int .i64 x211001_1, .int .i64 x211002_1, .int .i64 x211003_1]) (j := 0) hcl14 hcc14 (show 4 ≤ 4 from by decide) (x' := (⟨x211000_1, x211001_1, x211002_1, x211003_1⟩ : S50)) (k50_mkM _ _ _ (⟨x211000_1, x211001_1, x211002_1, x211003_1⟩ : S50) ) (fun _ hk => hk))); (try (have hx14_0 := hcc14 0 _ rfl)); (try (try simp only [show (k50).sz = 4 from rfl, Nat.mul_one, Nat.add_zero] at hx14_0)); (try (have hf14_0 := hfr14 0)); (try (try simp only [show (k50).sz = 4 from rfl, Nat.mul_one, Nat.add_zero] at hf14_0)); (try (have hx14_1 := hcc14 1 _ rfl)); (try (try simp only [show (k50).sz = 4 from rfl, Nat.mul_one, Nat.add_zero] at hx14_1)); (try (have hf14_1 := hfr14 1)); (try (try simp only [show (k50).sz = 4 from rfl, Nat.mul_one, Nat.add_zero] at hf14_1)); (try (have hx14_2 := hcc14 2 _ rfl)); (try (try simp only [show (k50).sz = 4 from rfl, Nat.mul_one, Nat.add_zero] at hx14_2)); (try (have hf14_2 := hfr14 2)); (try (try simp only [show (k50).sz = 4 from rfl, Nat.mul_one, Nat.add_zero] at hf14_2)); (try (have hx14_3 := hcc14 3 _ rfl)); (try (try simp only [show (k50).sz = 4 from rfl, Nat.mul_one, Nat.add_zero] at hx14_3)); (try (have hf14_3 := hfr14 3)); (try (try simp only [show (k50).sz = 4 from rfl, Nat.mul_one, Nat.add_zero] at hf14_3)); (try (clear hcl14 hcc14 hfr14 hM14)))); refine store_event (t := 50) (p := 35) (v := ?vo_w15) (w1 := ((((wr.setCell ⟨go12, (x11_1 : Int).toNat * 4, none⟩ (.int .i64 x211000_1)).setCell ⟨go12, (x11_1 : Int).toNat * 4 + 1, none⟩ (.int .i64 x211001_1)).setCell ⟨go12, (x11_1 : Int).toNat * 4 + 2, none⟩ (.int .i64 x211002_1)).setCell ⟨go12, (x11_1 : Int).toNat * 4 + 3, none⟩ (.int .i64 x211003_1))) ?hg ?ho ?hn ?hr ?_; (case ho => rfl); (case hg => rfl); (case hn => rfl); (case hr => first | (go_simp; done) | (go_simp; rfl)); intro w15 hw; have hg : wr.grownBy w15 (some go12) := (by rw [hw]; exact HP14.2); have hp_ : Kd.R k50 50 w15 w.heap.size (fun k_ => k_ ≠ gb210) (.slice (some ⟨go12, 0, none⟩) x5_1.length co6) y216 := (by rw [hw, Ny216.out]; exact HP14.1); clear HP14; have n0_ := Aside0.mk (hp_); have n1_ := Aside0.mk (blk_grown (g := gb210) (o := .cells #[.int .i64 x211000_1, .int .i64 x211001_1, .int .i64 x211002_1, .int .i64 x211003_1] 50 (0, 0)) (by (with_reducible repeat (first | refine blk_drewN ?_ _ | refine blk_drew ?_ | refine blk_alloc ?_ _)); exact BK210.out) hg (Kd.R_away HO_5.out (fun _ hk => hk))); have n2_ := Aside0.mk ((by rw [hw]; exact below_set (below_set (below_set (below_set (HB.out) GB12.out) GB12.out) GB12.out) GB12.out : Below w.heap.size w w15)); clear HO_5; clear BK210; clear HB; have HO_5 := n0_; have BK210 := n1_; have HB := n2_; clear n0_ n1_ n2_; clear hg hw hp_))
                  repeat (go_quiet (first | ((with_reducible refine gate_store (t := 50) (p := 35) rfl ?_); (try (rw [drewN_self wr]; generalize hq_ : World.drewN wr _ = wr; have n0_ := Aside0.mk (Kd.R_at hq_ HO_5.out); have n1_ := Aside0.mk (blk_at hq_ BK210.out); have n2_ := Aside0.mk (below_at hq_ HB.out); clear hq_ HO_5 BK210 HB; have HO_5 := n0_; have BK210 := n1_; have HB := n2_; clear n0_ n1_ n2_; (try (have HX14 := Aside0.mk (show Kd.R k50 50 wr w.heap.size (fun k_ => k_ ≠ gb210) (.slice (some ⟨go12, 0, none⟩) x5_1.length co6) x5_1 from (by (with_reducible repeat (first | apply Kd.R_alloc | apply Kd.R_drewN | apply Kd.R_drew)); exact HO_5.out)))); (try (obtain ⟨ce14, hcl14, hM14, hcc14, hfr14⟩ := Kd.R_elem HX14.out z50 (x11_1 : Int) (of_decide_eq_true (by first | (with_reducible assumption) | assumption)) (by have h_ : (x11_1 : Int) < ((x5_1.length : Int) : Int) := of_decide_eq_true (by first | (with_reducible assumption) | assumption); first | exact h_ | (have e_ := (Kd.R_reads' HO_5.out).1; omega) | simpa using h_))); (try (obtain rfl := k50_openM hM14)); (try (have HP14 := Kd.R_seg HX14.out (x11_1 : Int) (of_decide_eq_true (by first | (with_reducible assumption) | assumption)) (by have h_ : (x11_1 : Int) < ((x5_1.length : Int) : Int) := of_decide_eq_true (by first | (with_reducible assumption) | assumption); first | exact h_ | (have e_ := (Kd.R_reads' HO_5.out).1; omega) | simpa using h_) (seg := [.int .i64 x211000_1, .int .i64 x211001_1, .int .i64 x211002_1, .int .i64 x211003_1]) (j := 0) hcl14 hcc14 (show 4 ≤ 4 from by decide) (x' := (⟨x211000_1, x211001_1, x211002_1, x211003_1⟩ : S50)) (k50_mkM _ _ _ (⟨x211000_1, x211001_1, x211002_1, x211003_1⟩ : S50) ) (fun _ hk => hk))); (try (have hx14_0 := hcc14 0 _ rfl)); (try (try simp only [show (k50).sz = 4 from rfl, Nat.mul_one, Nat.add_zero] at hx14_0)); (try (have hf14_0 := hfr14 0)); (try (try simp only [show (k50).sz = 4 from rfl, Nat.mul_one, Nat.add_zero] at hf14_0)); (try (have hx14_1 := hcc14 1 _ rfl)); (try (try simp only [show (k50).sz = 4 from rfl, Nat.mul_one, Nat.add_zero] at hx14_1)); (try (have hf14_1 := hfr14 1)); (try (try simp only [show (k50).sz = 4 from rfl, Nat.mul_one, Nat.add_zero] at hf14_1)); (try (have hx14_2 := hcc14 2 _ rfl)); (try (try simp only [show (k50).sz = 4 from rfl, Nat.mul_one, Nat.add_zero] at hx14_2)); (try (have hf14_2 := hfr14 2)); (try (try simp only [show (k50).sz = 4 from rfl, Nat.mul_one, Nat.add_zero] at hf14_2)); (try (have hx14_3 := hcc14 3 _ rfl)); (try (try simp only [show (k50).sz = 4 from rfl, Nat.mul_one, Nat.add_zero] at hx14_3)); (try (have hf14_3 := hfr14 3)); (try (try simp only [show (k50).sz = 4 from rfl, Nat.mul_one, Nat.add_zero] at hf14_3)); (try (clear hcl14 hcc14 hfr14 hM14)))); refine store_event (t := 50) (p := 35) (v := ?vo_w15) (w1 := ((((wr.setCell ⟨go12, (x11_1 : Int).toNat * 4, none⟩ (.int .i64 x211000_1)).setCell ⟨go12, (x11_1 : Int).toNat * 4 + 1, none⟩ (.int .i64 x211001_1)).setCell ⟨go12, (x11_1 : Int).toNat * 4 + 2, none⟩ (.int .i64 x211002_1)).setCell ⟨go12, (x11_1 : Int).toNat * 4 + 3, none⟩ (.int .i64 x211003_1))) ?hg ?ho ?hn ?hr ?_; (case ho => rfl); (case hg => rfl); (case hn => rfl); (case hr => first | (go_simp; done) | (go_simp; rfl)); intro w15 hw; have hg : wr.grownBy w15 (some go12) := (by rw [hw]; exact HP14.2); have hp_ : Kd.R k50 50 w15 w.heap.size (fun k_ => k_ ≠ gb210) (.slice (some ⟨go12, 0, none⟩) x5_1.length co6) y216 := (by rw [hw, Ny216.out]; exact HP14.1); clear HP14; have n0_ := Aside0.mk (hp_); have n1_ := Aside0.mk (blk_grown (g := gb210) (o := .cells #[.int .i64 x211000_1, .int .i64 x211001_1, .int .i64 x211002_1, .int .i64 x211003_1] 50 (0, 0)) (by (with_reducible repeat (first | refine blk_drewN ?_ _ | refine blk_drew ?_ | refine blk_alloc ?_ _)); exact BK210.out) hg (Kd.R_away HO_5.out (fun _ hk => hk))); have n2_ := Aside0.mk ((by rw [hw]; exact below_set (below_set (below_set (below_set (HB.out) GB12.out) GB12.out) GB12.out) GB12.out : Below w.heap.size w w15)); clear HO_5; clear BK210; clear HB; have HO_5 := n0_; have BK210 := n1_; have HB := n2_; clear n0_ n1_ n2_; clear hg hw hp_)); try go_wp2_with (first | ((with_reducible refine gate_store (t := 50) (p := 35) rfl ?_); (try (rw [drewN_self wr]; generalize hq_ : World.drewN wr _ = wr; have n0_ := Aside0.mk (Kd.R_at hq_ HO_5.out); have n1_ := Aside0.mk (blk_at hq_ BK210.out); have n2_ := Aside0.mk (below_at hq_ HB.out); clear hq_ HO_5 BK210 HB; have HO_5 := n0_; have BK210 := n1_; have HB := n2_; clear n0_ n1_ n2_; (try (have HX14 := Aside0.mk (show Kd.R k50 50 wr w.heap.size (fun k_ => k_ ≠ gb210) (.slice (some ⟨go12, 0, none⟩) x5_1.length co6) x5_1 from (by (with_reducible repeat (first | apply Kd.R_alloc | apply Kd.R_drewN | apply Kd.R_drew)); exact HO_5.out)))); (try (obtain ⟨ce14, hcl14, hM14, hcc14, hfr14⟩ := Kd.R_elem HX14.out z50 (x11_1 : Int) (of_decide_eq_true (by first | (with_reducible assumption) | assumption)) (by have h_ : (x11_1 : Int) < ((x5_1.length : Int) : Int) := of_decide_eq_true (by first | (with_reducible assumption) | assumption); first | exact h_ | (have e_ := (Kd.R_reads' HO_5.out).1; omega) | simpa using h_))); (try (obtain rfl := k50_openM hM14)); (try (have HP14 := Kd.R_seg HX14.out (x11_1 : Int) (of_decide_eq_true (by first | (with_reducible assumption) | assumption)) (by have h_ : (x11_1 : Int) < ((x5_1.length : Int) : Int) := of_decide_eq_true (by first | (with_reducible assumption) | assumption); first | exact h_ | (have e_ := (Kd.R_reads' HO_5.out).1; omega) | simpa using h_) (seg := [.int .i64 x211000_1, .int .i64 x211001_1, .int .i64 x211002_1, .int .i64 x211003_1]) (j := 0) hcl14 hcc14 (show 4 ≤ 4 from by decide) (x' := (⟨x211000_1, x211001_1, x211002_1, x211003_1⟩ : S50)) (k50_mkM _ _ _ (⟨x211000_1, x211001_1, x211002_1, x211003_1⟩ : S50) ) (fun _ hk => hk))); (try (have hx14_0 := hcc14 0 _ rfl)); (try (try simp only [show (k50).sz = 4 from rfl, Nat.mul_one, Nat.add_zero] at hx14_0)); (try (have hf14_0 := hfr14 0)); (try (try simp only [show (k50).sz = 4 from rfl, Nat.mul_one, Nat.add_zero] at hf14_0)); (try (have hx14_1 := hcc14 1 _ rfl)); (try (try simp only [show (k50).sz = 4 from rfl, Nat.mul_one, Nat.add_zero] at hx14_1)); (try (have hf14_1 := hfr14 1)); (try (try simp only [show (k50).sz = 4 from rfl, Nat.mul_one, Nat.add_zero] at hf14_1)); (try (have hx14_2 := hcc14 2 _ rfl)); (try (try simp only [show (k50).sz = 4 from rfl, Nat.mul_one, Nat.add_zero] at hx14_2)); (try (have hf14_2 := hfr14 2)); (try (try simp only [show (k50).sz = 4 from rfl, Nat.mul_one, Nat.add_zero] at hf14_2)); (try (have hx14_3 := hcc14 3 _ rfl)); (try (try simp only [show (k50).sz = 4 from rfl, Nat.mul_one, Nat.add_zero] at hx14_3)); (try (have hf14_3 := hfr14 3)); (try (try simp only [show (k50).sz = 4 from rfl, Nat.mul_one, Nat.add_zero] at hf14_3)); (try (clear hcl14 hcc14 hfr14 hM14)))); refine store_event (t := 50) (p := 35) (v := ?vo_w15) (w1 := ((((wr.setCell ⟨go12, (x11_1 : Int).toNat * 4, none⟩ (.int .i64 x211000_1)).setCell ⟨go12, (x11_1 : Int).toNat * 4 + 1, none⟩ (.int .i64 x211001_1)).setCell ⟨go12, (x11_1 : Int).toNat * 4 + 2, none⟩ (.int .i64 x211002_1)).setCell ⟨go12, (x11_1 : Int).toNat * 4 + 3, none⟩ (.int .i64 x211003_1))) ?hg ?ho ?hn ?hr ?_; (case ho => rfl); (case hg => rfl); (case hn => rfl); (case hr => first | (go_simp; done) | (go_simp; rfl)); intro w15 hw; have hg : wr.grownBy w15 (some go12) := (by rw [hw]; exact HP14.2); have hp_ : Kd.R k50 50 w15 w.heap.size (fun k_ => k_ ≠ gb210) (.slice (some ⟨go12, 0, none⟩) x5_1.length co6) y216 := (by rw [hw, Ny216.out]; exact HP14.1); clear HP14; have n0_ := Aside0.mk (hp_); have n1_ := Aside0.mk (blk_grown (g := gb210) (o := .cells #[.int .i64 x211000_1, .int .i64 x211001_1, .int .i64 x211002_1, .int .i64 x211003_1] 50 (0, 0)) (by (with_reducible repeat (first | refine blk_drewN ?_ _ | refine blk_drew ?_ | refine blk_alloc ?_ _)); exact BK210.out) hg (Kd.R_away HO_5.out (fun _ hk => hk))); have n2_ := Aside0.mk ((by rw [hw]; exact below_set (below_set (below_set (below_set (HB.out) GB12.out) GB12.out) GB12.out) GB12.out : Below w.heap.size w w15)); clear HO_5; clear BK210; clear HB; have HO_5 := n0_; have BK210 := n1_; have HB := n2_; clear n0_ n1_ n2_; clear hg hw hp_)))
                  go_ret
                  exact ⟨_, by first | rfl | (simp [errW_none, errW_some] <;> rfl) | (simp [*, errW_none, errW_some] <;> rfl), by (with_reducible repeat (first | apply Kd.R_alloc | apply Kd.R_drewN | apply Kd.R_drew)); exact Kd.R_mono HO_5.out (fun _ hk => trivial), by repeat (first | (with_reducible first | exact HB.out | apply below_alloc | apply pw_below_drewN | apply below_drew1 | refine below_set ?_ GE210.out) | exact HB.out)⟩
                · rw [if_neg c11] at H
                  have c11b0 : (((rd_T50 x5_1 x11_1).f1) == x211001_1) = false := beq_eq_false_iff_ne.mpr c11
                  (try simp only [hl5_1] at c11b0)
                  have c11b1 : (((rd_T50 x5_1 x11_1).f1) != x211001_1) = true := bne_iff_ne.mpr c11
                  (try simp only [hl5_1] at c11b1)
                  have H' := Aside0.mk H
                  clear H
                  have p214 : 0 ≤ (x11_1 : Int) := of_decide_eq_true (by first | (with_reducible assumption) | assumption)
                  have q214 : x11_1 < (x5_1.length : Int) := of_decide_eq_true (by first | (with_reducible assumption) | assumption)
                  obtain ⟨ad214, e214, hx214_0, hx214_1, hx214_2, hx214_3⟩ := at_T50 (Kd.R_reads' HO_5.out).2.2 x11_1 p214 q214
                  cases e214
                  replace p214 := eq_true p214
                  replace q214 := eq_true q214
                  have hcz16_0 : wr.cell? ⟨gb210, 0, none⟩ = some (.int .i64 x211000_1) := (blk_cell BK210.out 0).trans rfl
                  have hcz16_1 : wr.cell? ⟨gb210, 1, none⟩ = some (.int .i64 x211001_1) := (blk_cell BK210.out 1).trans rfl
                  have hcz16_2 : wr.cell? ⟨gb210, 2, none⟩ = some (.int .i64 x211002_1) := (blk_cell BK210.out 2).trans rfl
                  have hcz16_3 : wr.cell? ⟨gb210, 3, none⟩ = some (.int .i64 x211003_1) := (blk_cell BK210.out 3).trans rfl
                  have hfz16_0 := blk_frozen BK210.out 0
                  have hfz16_1 := blk_frozen BK210.out 1
                  have hfz16_2 := blk_frozen BK210.out 2
                  have hfz16_3 := blk_frozen BK210.out 3
                  have p215 : 0 ≤ (x11_1 : Int) := of_decide_eq_true (by first | (with_reducible assumption) | assumption)
                  have q215 : x11_1 < (x5_1.length : Int) := of_decide_eq_true (by first | (with_reducible assumption) | assumption)
                  obtain ⟨ad215, e215, hx215_0, hx215_1, hx215_2, hx215_3⟩ := at_T50 (Kd.R_reads' HO_5.out).2.2 x11_1 p215 q215
                  obtain rfl : ad214 = ad215 := (by injection e215)
                  replace p215 := eq_true p215
                  replace q215 := eq_true q215
                  go_wp2
                  repeat (go_quiet (fail); try go_wp2)
                  (try simp only [← hl5_1])
                  go_roundg k1
                  case measure => have := HK1.out; omega
                  case rel => exact ⟨(x5_1), (wrap64 (x11_1 + 1)), (x211000_1), (x211001_1), (x211002_1), (x211003_1), (by first | rfl | (simp; done) | (simp [*]; done)), H', ⟨by have := HK1.out; omega⟩, ⟨by (try simp only [hl5_1]); (with_reducible repeat (first | apply Kd.R_alloc | apply Kd.R_drewN | apply Kd.R_drew)); exact HO_5.out⟩, ⟨by (try simp only [hl5_1]); (with_reducible repeat (first | refine blk_drewN ?_ _ | refine blk_drew ?_ | refine blk_alloc ?_ _)); exact BK210.out⟩, ⟨by repeat (first | (with_reducible first | exact HB.out | apply below_alloc | apply pw_below_drewN | apply below_drew1 | refine below_set ?_ GE210.out) | exact HB.out)⟩⟩
              · rw [if_neg c10] at H
                have c10b0 : (((rd_T50 x5_1 x11_1).f0) == x211000_1) = false := beq_eq_false_iff_ne.mpr c10
                (try simp only [hl5_1] at c10b0)
                have c10b1 : (((rd_T50 x5_1 x11_1).f0) != x211000_1) = true := bne_iff_ne.mpr c10
                (try simp only [hl5_1] at c10b1)
                have H' := Aside0.mk H
                clear H
                have p214 : 0 ≤ (x11_1 : Int) := of_decide_eq_true (by first | (with_reducible assumption) | assumption)
                have q214 : x11_1 < (x5_1.length : Int) := of_decide_eq_true (by first | (with_reducible assumption) | assumption)
                obtain ⟨ad214, e214, hx214_0, hx214_1, hx214_2, hx214_3⟩ := at_T50 (Kd.R_reads' HO_5.out).2.2 x11_1 p214 q214
                cases e214
                replace p214 := eq_true p214
                replace q214 := eq_true q214
                have hcz17_0 : wr.cell? ⟨gb210, 0, none⟩ = some (.int .i64 x211000_1) := (blk_cell BK210.out 0).trans rfl
                have hcz17_1 : wr.cell? ⟨gb210, 1, none⟩ = some (.int .i64 x211001_1) := (blk_cell BK210.out 1).trans rfl
                have hcz17_2 : wr.cell? ⟨gb210, 2, none⟩ = some (.int .i64 x211002_1) := (blk_cell BK210.out 2).trans rfl
                have hcz17_3 : wr.cell? ⟨gb210, 3, none⟩ = some (.int .i64 x211003_1) := (blk_cell BK210.out 3).trans rfl
                have hfz17_0 := blk_frozen BK210.out 0
                have hfz17_1 := blk_frozen BK210.out 1
                have hfz17_2 := blk_frozen BK210.out 2
                have hfz17_3 := blk_frozen BK210.out 3
                go_wp2
                repeat (go_quiet (fail); try go_wp2)
                (try simp only [← hl5_1])
                go_roundg k1
                case measure => have := HK1.out; omega
                case rel => exact ⟨(x5_1), (wrap64 (x11_1 + 1)), (x211000_1), (x211001_1), (x211002_1), (x211003_1), (by first | rfl | (simp; done) | (simp [*]; done)), H', ⟨by have := HK1.out; omega⟩, ⟨by (try simp only [hl5_1]); (with_reducible repeat (first | apply Kd.R_alloc | apply Kd.R_drewN | apply Kd.R_drew)); exact HO_5.out⟩, ⟨by (try simp only [hl5_1]); (with_reducible repeat (first | refine blk_drewN ?_ _ | refine blk_drew ?_ | refine blk_alloc ?_ _)); exact BK210.out⟩, ⟨by repeat (first | (with_reducible first | exact HB.out | apply below_alloc | apply pw_below_drewN | apply below_drew1 | refine below_set ?_ GE210.out) | exact HB.out)⟩⟩
            · rw [if_neg c9] at H
              exact absurd H (by simp)
          · rw [if_neg c8] at H
            exact absurd H (by simp)
        · rw [if_neg c7] at H
          have c7b0 : decide (x11_1 < (y211.length : Int)) = false := decide_eq_false c7
          (try simp only [hl5_1] at c7b0)
          clear c7
          by_cases c18 : x5_1.length < 4398046511104
          · rw [if_pos c18] at H
            have LMc18 := Aside0.mk c18
            clear c18
            obtain ⟨y217, hy217⟩ : ∃ y_ : List (S50), y_ = (x5_1 ++ [(⟨x211000_1, x211001_1, x211002_1, x211003_1⟩ : S50)]) := ⟨_, rfl⟩
            replace H : (some y217) = some r := by first | (rw [hy217]; with_reducible exact H) | (have H2_ := (Option.bind_some _ _).symm.trans H; rw [hy217]; with_reducible exact H2_) | (have H2_ := (Option.bind_some _ _).symm.trans H; with_reducible exact H2_) | with_reducible exact H | (rw [hy217]; exact H) | exact H
            have Ny217 := Aside0.mk hy217
            clear hy217
            obtain rfl := Option.some.inj H
            have hcz19_0 : wr.cell? ⟨gb210, 0, none⟩ = some (.int .i64 x211000_1) := (blk_cell BK210.out 0).trans rfl
            have hcz19_1 : wr.cell? ⟨gb210, 1, none⟩ = some (.int .i64 x211001_1) := (blk_cell BK210.out 1).trans rfl
            have hcz19_2 : wr.cell? ⟨gb210, 2, none⟩ = some (.int .i64 x211002_1) := (blk_cell BK210.out 2).trans rfl
            have hcz19_3 : wr.cell? ⟨gb210, 3, none⟩ = some (.int .i64 x211003_1) := (blk_cell BK210.out 3).trans rfl
            have hfz19_0 := blk_frozen BK210.out 0
            have hfz19_1 := blk_frozen BK210.out 1
            have hfz19_2 := blk_frozen BK210.out 2
            have hfz19_3 := blk_frozen BK210.out 3
            go_wp2_with (first | ((with_reducible refine gate_builtin (b := .append) (xs := #[(.tmp 38), .tmp 40]) rfl ?_); at_builtin; refine Kd.R_append k50 (w0 := w) w.heap.size rfl (.tmp 38) (.tmp 40) 48 50 (.agg #[(.int .i64 0), (.int .i64 0), (.int .i64 0), (.int .i64 0)]) 32 rfl Try.underlying48 info50 rfl (by decide) (by omega) (.slice Ao6 x5_1.length co6) x5_1 (⟨x211000_1, x211001_1, x211002_1, x211003_1⟩ : S50) [.int .i64 x211000_1, .int .i64 x211001_1, .int .i64 x211002_1, .int .i64 x211003_1] (fun k_ => k_ ≠ gb210) (fun _ => False) rfl rfl ?aP (fun _ hk => hk.elim) ?aF ?aO ?aB ?aS ?aL ?_; (case aP => exact k50_mkM _ _ _ (⟨x211000_1, x211001_1, x211002_1, x211003_1⟩ : S50)); (case aB => exact (by repeat (first | (with_reducible first | exact HB.out | apply below_alloc | apply pw_below_drewN | apply below_drew1 | refine below_set ?_ GE210.out) | exact HB.out))); (case aF => exact (fun k_ hk => Kd.freshB (g := gb210) (o := .cells #[.int .i64 x211000_1, .int .i64 x211001_1, .int .i64 x211002_1, .int .i64 x211003_1] 50 (0, 0)) (by (with_reducible repeat (first | refine blk_drewN ?_ _ | refine blk_drew ?_ | refine blk_alloc ?_ _)); exact BK210.out) k_ hk)); (case aO => exact (by (with_reducible repeat (first | apply Kd.R_alloc | apply Kd.R_drewN | apply Kd.R_drew)); exact HO_5.out)); (case aS => exact (below_size (by repeat (first | (with_reducible first | exact HB.out | apply below_alloc | apply pw_below_drewN | apply below_drew1 | refine below_set ?_ GE210.out) | exact HB.out)))); (case aL => have := LMc18.out; omega); intro v218 w20 ho hb hg hat; rw [← Ny217.out] at ho; have n0_ := Aside0.mk (blk_grown (g := gb210) (o := .cells #[.int .i64 x211000_1, .int .i64 x211001_1, .int .i64 x211002_1, .int .i64 x211003_1] 50 (0, 0)) (by (with_reducible repeat (first | refine blk_drewN ?_ _ | refine blk_drew ?_ | refine blk_alloc ?_ _)); exact BK210.out) hg (Kd.R_away HO_5.out (fun _ hk => hk))); have n1_ := Aside0.mk (hb); have n2_ := Aside0.mk (ho); clear BK210; clear HB; clear HO_5; have BK210 := n0_; have HB := n1_; have HO219 := n2_; clear n0_ n1_ n2_; clear ho hb hg hat))
            repeat (go_quiet (first | ((with_reducible refine gate_builtin (b := .append) (xs := #[(.tmp 38), .tmp 40]) rfl ?_); at_builtin; refine Kd.R_append k50 (w0 := w) w.heap.size rfl (.tmp 38) (.tmp 40) 48 50 (.agg #[(.int .i64 0), (.int .i64 0), (.int .i64 0), (.int .i64 0)]) 32 rfl Try.underlying48 info50 rfl (by decide) (by omega) (.slice Ao6 x5_1.length co6) x5_1 (⟨x211000_1, x211001_1, x211002_1, x211003_1⟩ : S50) [.int .i64 x211000_1, .int .i64 x211001_1, .int .i64 x211002_1, .int .i64 x211003_1] (fun k_ => k_ ≠ gb210) (fun _ => False) rfl rfl ?aP (fun _ hk => hk.elim) ?aF ?aO ?aB ?aS ?aL ?_; (case aP => exact k50_mkM _ _ _ (⟨x211000_1, x211001_1, x211002_1, x211003_1⟩ : S50)); (case aB => exact (by repeat (first | (with_reducible first | exact HB.out | apply below_alloc | apply pw_below_drewN | apply below_drew1 | refine below_set ?_ GE210.out) | exact HB.out))); (case aF => exact (fun k_ hk => Kd.freshB (g := gb210) (o := .cells #[.int .i64 x211000_1, .int .i64 x211001_1, .int .i64 x211002_1, .int .i64 x211003_1] 50 (0, 0)) (by (with_reducible repeat (first | refine blk_drewN ?_ _ | refine blk_drew ?_ | refine blk_alloc ?_ _)); exact BK210.out) k_ hk)); (case aO => exact (by (with_reducible repeat (first | apply Kd.R_alloc | apply Kd.R_drewN | apply Kd.R_drew)); exact HO_5.out)); (case aS => exact (below_size (by repeat (first | (with_reducible first | exact HB.out | apply below_alloc | apply pw_below_drewN | apply below_drew1 | refine below_set ?_ GE210.out) | exact HB.out)))); (case aL => have := LMc18.out; omega); intro v218 w20 ho hb hg hat; rw [← Ny217.out] at ho; have n0_ := Aside0.mk (blk_grown (g := gb210) (o := .cells #[.int .i64 x211000_1, .int .i64 x211001_1, .int .i64 x211002_1, .int .i64 x211003_1] 50 (0, 0)) (by (with_reducible repeat (first | refine blk_drewN ?_ _ | refine blk_drew ?_ | refine blk_alloc ?_ _)); exact BK210.out) hg (Kd.R_away HO_5.out (fun _ hk => hk))); have n1_ := Aside0.mk (hb); have n2_ := Aside0.mk (ho); clear BK210; clear HB; clear HO_5; have BK210 := n0_; have HB := n1_; have HO219 := n2_; clear n0_ n1_ n2_; clear ho hb hg hat)); try go_wp2_with (first | ((with_reducible refine gate_builtin (b := .append) (xs := #[(.tmp 38), .tmp 40]) rfl ?_); at_builtin; refine Kd.R_append k50 (w0 := w) w.heap.size rfl (.tmp 38) (.tmp 40) 48 50 (.agg #[(.int .i64 0), (.int .i64 0), (.int .i64 0), (.int .i64 0)]) 32 rfl Try.underlying48 info50 rfl (by decide) (by omega) (.slice Ao6 x5_1.length co6) x5_1 (⟨x211000_1, x211001_1, x211002_1, x211003_1⟩ : S50) [.int .i64 x211000_1, .int .i64 x211001_1, .int .i64 x211002_1, .int .i64 x211003_1] (fun k_ => k_ ≠ gb210) (fun _ => False) rfl rfl ?aP (fun _ hk => hk.elim) ?aF ?aO ?aB ?aS ?aL ?_; (case aP => exact k50_mkM _ _ _ (⟨x211000_1, x211001_1, x211002_1, x211003_1⟩ : S50)); (case aB => exact (by repeat (first | (with_reducible first | exact HB.out | apply below_alloc | apply pw_below_drewN | apply below_drew1 | refine below_set ?_ GE210.out) | exact HB.out))); (case aF => exact (fun k_ hk => Kd.freshB (g := gb210) (o := .cells #[.int .i64 x211000_1, .int .i64 x211001_1, .int .i64 x211002_1, .int .i64 x211003_1] 50 (0, 0)) (by (with_reducible repeat (first | refine blk_drewN ?_ _ | refine blk_drew ?_ | refine blk_alloc ?_ _)); exact BK210.out) k_ hk)); (case aO => exact (by (with_reducible repeat (first | apply Kd.R_alloc | apply Kd.R_drewN | apply Kd.R_drew)); exact HO_5.out)); (case aS => exact (below_size (by repeat (first | (with_reducible first | exact HB.out | apply below_alloc | apply pw_below_drewN | apply below_drew1 | refine below_set ?_ GE210.out) | exact HB.out)))); (case aL => have := LMc18.out; omega); intro v218 w20 ho hb hg hat; rw [← Ny217.out] at ho; have n0_ := Aside0.mk (blk_grown (g := gb210) (o := .cells #[.int .i64 x211000_1, .int .i64 x211001_1, .int .i64 x211002_1, .int .i64 x211003_1] 50 (0, 0)) (by (with_reducible repeat (first | refine blk_drewN ?_ _ | refine blk_drew ?_ | refine blk_alloc ?_ _)); exact BK210.out) hg (Kd.R_away HO_5.out (fun _ hk => hk))); have n1_ := Aside0.mk (hb); have n2_ := Aside0.mk (ho); clear BK210; clear HB; clear HO_5; have BK210 := n0_; have HB := n1_; have HO219 := n2_; clear n0_ n1_ n2_; clear ho hb hg hat)))
            go_ret
            exact ⟨_, by first | rfl | (simp [errW_none, errW_some] <;> rfl) | (simp [*, errW_none, errW_some] <;> rfl), by (with_reducible repeat (first | apply Kd.R_alloc | apply Kd.R_drewN | apply Kd.R_drew)); exact Kd.R_mono HO219.out (fun _ hk => trivial), by repeat (first | (with_reducible first | exact HB.out | apply below_alloc | apply pw_below_drewN | apply below_drew1 | refine below_set ?_ GE210.out) | exact HB.out)⟩
          · rw [if_neg c18] at H
            exact absurd H (by simp)
  · rw [if_neg c3] at H
    exact absurd H (by simp)

end Go.Proofs.Ytpcfgpghfegjkaa.PSl
