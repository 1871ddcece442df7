-- Laid by wip/tools/xprint.py, a program of this session over the kit's print: functions as Lean functions, each with its contract.
import Derived.Test.YtpcfgpghfegjkaaPCrx0
import Derived.Test.YtpcfgpghfegjkaaPCrx1
namespace Go.Proofs.Ytpcfgpghfegjkaa.PCr
open Go.RowKit Go.Proofs.YtpcfgpghfegjkaaW.PrintWords Go.Proofs.YtpcfgpghfegjkaaW.PrintLast Go.Proofs.YtpcfgpghfegjkaaW.PrintMore
attribute [local go_sem] max2_int min2_int max_two min_two max_three min_three max_four min_four   -- for this text's walks alone
set_option linter.unusedVariables false
set_option linter.unusedSimpArgs false

/-! ### rollbacknetlaw09_CrcBursts: function 8 -/
mutual
def rollbacknetlaw09_CrcBursts.j0 : Nat → List Int → Int → Int → Bool → Option (Bool)
  | 0, _, _, _, _ => none
  | k + 1, x0, x1, x2, x23 => if x23 = true then (some true) else ((rollbacknetmake_Mod.f x1 (wrap64 ((wrap64 (8 * (x0.length : Int))) - 31))).bind fun t137 => (if ([] : List Int).length + x0.length < 140737488355328 then (rollbacknetlaw09_CrcBursts.l0 k x0 x2 t137 (([] : List Int) ++ x0) 0) else (none)))
def rollbacknetlaw09_CrcBursts.l0 : Nat → List Int → Int → Int → List Int → Int → Option (Bool)
  | 0, _, _, _, _, _ => none
  | k + 1, x0, x2, x7, x8, x9 => if x9 < 32 then (if 0 ≤ (IntKind.u64.wrap (x9)) then (if (Go.bits .and .u32 (shr .u32 x2 (IntKind.u64.wrap (x9))) 1) = 1 then (if 0 ≤ (wrap64 (Int.tdiv (wrap64 (x7 + x9)) 8)) then (if (wrap64 (Int.tdiv (wrap64 (x7 + x9)) 8)) < (x8.length : Int) then (if 0 ≤ (IntKind.u64.wrap (Int.tmod (wrap64 (x7 + x9)) 8)) then (rollbacknetlaw09_CrcBursts.l0 k x0 x2 x7 (x8.set ((wrap64 (Int.tdiv (wrap64 (x7 + x9)) 8)) : Int).toNat (Go.bits .xor .u8 (rd x8 (wrap64 (Int.tdiv (wrap64 (x7 + x9)) 8))) (shl .u8 1 (IntKind.u64.wrap (Int.tmod (wrap64 (x7 + x9)) 8))))) (wrap64 (x9 + 1))) else (none)) else (none)) else (none)) else (rollbacknetlaw09_CrcBursts.l0 k x0 x2 x7 x8 (wrap64 (x9 + 1)))) else (none)) else ((crc_Of.f x0).bind fun t143 => ((crc_Of.f x8).bind fun t144 => (some (t143 != t144))))
end
def rollbacknetlaw09_CrcBursts.f (k : Nat) (l0 : List Int) (a1 : Int) (a2 : Int) : Option (Bool) := (rollbacknetlaw09_awake.f).bind fun t136 => (if t136 = true then (if (l0.length : Int) < 4 then (rollbacknetlaw09_CrcBursts.j0 k l0 a1 a2 true) else (if (l0.length : Int) > 1000 then (rollbacknetlaw09_CrcBursts.j0 k l0 a1 a2 true) else (rollbacknetlaw09_CrcBursts.j0 k l0 a1 a2 (a2 == 0)))) else (some false))
theorem rollbacknetlaw09_CrcBursts.mono_l : ∀ k, (∀ y0 y1 y2 y3, LeO (rollbacknetlaw09_CrcBursts.j0 k y0 y1 y2 y3) (rollbacknetlaw09_CrcBursts.j0 (k + 1) y0 y1 y2 y3)) ∧ (∀ y0 y1 y2 y3 y4, LeO (rollbacknetlaw09_CrcBursts.l0 k y0 y1 y2 y3 y4) (rollbacknetlaw09_CrcBursts.l0 (k + 1) y0 y1 y2 y3 y4))
  | 0 => ⟨fun _ _ _ _ r h => by simp [rollbacknetlaw09_CrcBursts.j0] at h, fun _ _ _ _ _ r h => by simp [rollbacknetlaw09_CrcBursts.l0] at h⟩
  | k + 1 => by
    obtain ⟨ih0, ih1⟩ := rollbacknetlaw09_CrcBursts.mono_l k
    refine ⟨?_, ?_⟩
    · intro y0 y1 y2 y3
      unfold rollbacknetlaw09_CrcBursts.j0
      repeat' first
      | (with_reducible exact ih0 _ _ _ _)
      | (with_reducible exact ih1 _ _ _ _ _)
      | (with_reducible exact LeO.refl _)
      | (with_reducible exact LeO.none _)
      | (with_reducible refine LeO.ite ?_ ?_)
      | (with_reducible refine LeO.bind ?_ (fun _ => ?_))
      | exact ih0 _ _ _ _
      | exact ih1 _ _ _ _ _
      | exact LeO.none _
      | refine LeO.ite ?_ ?_
      | refine LeO.bind ?_ (fun _ => ?_)
    · intro y0 y1 y2 y3 y4
      unfold rollbacknetlaw09_CrcBursts.l0
      repeat' first
      | (with_reducible exact ih0 _ _ _ _)
      | (with_reducible exact ih1 _ _ _ _ _)
      | (with_reducible exact LeO.refl _)
      | (with_reducible exact LeO.none _)
      | (with_reducible refine LeO.ite ?_ ?_)
      | (with_reducible refine LeO.bind ?_ (fun _ => ?_))
      | exact ih0 _ _ _ _
      | exact ih1 _ _ _ _ _
      | exact LeO.none _
      | refine LeO.ite ?_ ?_
      | refine LeO.bind ?_ (fun _ => ?_)
theorem rollbacknetlaw09_CrcBursts.mono : ∀ a0 a1 a2 k, LeO (rollbacknetlaw09_CrcBursts.f k a0 a1 a2) (rollbacknetlaw09_CrcBursts.f (k + 1) a0 a1 a2) := by
  intro a0 a1 a2 k
  obtain ⟨ih0, ih1⟩ := rollbacknetlaw09_CrcBursts.mono_l k
  unfold rollbacknetlaw09_CrcBursts.f
  repeat' first
      | (with_reducible exact ih0 _ _ _ _)
      | (with_reducible exact ih1 _ _ _ _ _)
      | (with_reducible exact LeO.refl _)
      | (with_reducible exact LeO.none _)
      | (with_reducible refine LeO.ite ?_ ?_)
      | (with_reducible refine LeO.bind ?_ (fun _ => ?_))
      | exact ih0 _ _ _ _
      | exact ih1 _ _ _ _ _
      | exact LeO.none _
      | refine LeO.ite ?_ ?_
      | refine LeO.bind ?_ (fun _ => ?_)
set_option maxHeartbeats 8000000 in
set_option maxRecDepth 100000 in
theorem rollbacknetlaw09_CrcBursts.calls (k : Nat) (A0 : Option Addr) (c0 : Nat) (l0 : List Int) (a1 : Int) (a2 : Int) (r : Bool) (w : World) (hr0 : Kd.C (Kd.int .u8) w A0 l0.length l0) (hc0 : l0.length ≤ c0) (h : rollbacknetlaw09_CrcBursts.f k l0 a1 a2 = some r) :
    Calls Try.prog 8 #[.slice A0 l0.length c0, .int .i64 a1, .int .u32 a2] w fun e w' => e = .returned (.bool r) ∧ Below w.heap.size w w' := by
  have HR0 := Aside0.mk hr0
  have HC0 := Aside0.mk hc0
  clear hr0 hc0
  have HB := Aside0.mk (Below.refl w.heap.size w)
  have H : ((rollbacknetlaw09_awake.f).bind fun t136 => (if t136 = true then (if (l0.length : Int) < 4 then (rollbacknetlaw09_CrcBursts.j0 k l0 a1 a2 true) else (if (l0.length : Int) > 1000 then (rollbacknetlaw09_CrcBursts.j0 k l0 a1 a2 true) else (rollbacknetlaw09_CrcBursts.j0 k l0 a1 a2 (a2 == 0)))) else (some false))) = some r := h
  clear h
  replace H := Option.bind_eq_some_iff.mp H
  obtain ⟨t136, A40, H⟩ := H
  replace H : (if t136 = true then (if (l0.length : Int) < 4 then (rollbacknetlaw09_CrcBursts.j0 k l0 a1 a2 true) else (if (l0.length : Int) > 1000 then (rollbacknetlaw09_CrcBursts.j0 k l0 a1 a2 true) else (rollbacknetlaw09_CrcBursts.j0 k l0 a1 a2 (a2 == 0)))) else (some false)) = some r := H
  have A4 := Aside0.mk A40
  clear A40
  by_cases c5 : t136 = true
  · subst c5
    have H1 : (if (l0.length : Int) < 4 then (rollbacknetlaw09_CrcBursts.j0 k l0 a1 a2 true) else (if (l0.length : Int) > 1000 then (rollbacknetlaw09_CrcBursts.j0 k l0 a1 a2 true) else (rollbacknetlaw09_CrcBursts.j0 k l0 a1 a2 (a2 == 0)))) = some r := by rw [if_pos rfl] at H; exact H
    clear H
    have H := H1
    clear H1
    have HC6 := Aside0.mk H
    clear H
    go_enter Try.func8, Try.ntmps8
    go_upto_region 3 with (first | ((with_reducible refine gate_callee (f := 22) rfl ?_); refine goesL_ (some 10) rfl rfl Try.func22 (by kernel_rfl) rfl #[] rfl (by (try simp only [List.map_toArray, List.map_cons, List.map_nil]); first | done | rfl | (simp only [List.length_drop, List.length_take]; rfl)) ?_; (with_reducible refine (rollbacknetlaw09_awake.calls  true _ A4.out).mono ?_); rintro e w7 ⟨rfl, hb⟩; refine ⟨_, rfl, ?_⟩; have n0_ := Aside0.mk (below_step (by repeat (first | (with_reducible first | exact HB.out | apply below_alloc | apply pw_below_drewN | apply below_drew1) | exact HB.out)) hb); clear HB; have HB := n0_; clear n0_; (try clear hb); (try clear hb2); (try clear hk); (try clear hi)))
    (try simp only [Act.put, List.setIfInBounds_toArray, List.set_cons_zero, List.set_cons_succ])
    go_cut [23] (fun v23 wc => ∃ (kq : Nat) (x23_5 : Bool), v23 = .bool x23_5 ∧ Aside0 (rollbacknetlaw09_CrcBursts.j0 kq l0 a1 a2 x23_5 = some r) ∧ Aside0 (kq ≤ k) ∧ Aside0 (Below w.heap.size w wc))
    case first =>
      have H := HC6.out
      clear HC6
      by_cases c8 : (l0.length : Int) < 4
      · rw [if_pos c8] at H
        have c8b0 : decide ((l0.length : Int) < 4) = true := decide_eq_true c8
        have c8b1 : decide (l0.length < 4) = true := decide_eq_true (by omega)
        clear c8
        (first | rw [c8b0] | (simp only [i64_w, i32_w]; rw [c8b0]) | skip)
        have H' := Aside0.mk H
        clear H
        go_wp2
        go_meet
        case rel => exact ⟨_, (true), (by first | rfl | (simp; done) | (simp [*]; done)), H', ⟨by first | omega | exact Nat.le_refl _⟩, ⟨by repeat (first | (with_reducible first | exact HB.out | apply below_alloc | apply pw_below_drewN | apply below_drew1) | exact HB.out)⟩⟩
      · rw [if_neg c8] at H
        have c8b0 : decide ((l0.length : Int) < 4) = false := decide_eq_false c8
        have c8b1 : decide (l0.length < 4) = false := decide_eq_false (by omega)
        clear c8
        (first | rw [c8b0] | (simp only [i64_w, i32_w]; rw [c8b0]) | skip)
        by_cases c9 : (l0.length : Int) > 1000
        · rw [if_pos c9] at H
          have c9b0 : decide (1000 < (l0.length : Int)) = true := decide_eq_true c9
          have c9b1 : decide (1000 < l0.length) = true := decide_eq_true (by omega)
          clear c9
          have H' := Aside0.mk H
          clear H
          go_wp2
          go_meet
          case rel => exact ⟨_, (true), (by first | rfl | (simp; done) | (simp [*]; done)), H', ⟨by first | omega | exact Nat.le_refl _⟩, ⟨by repeat (first | (with_reducible first | exact HB.out | apply below_alloc | apply pw_below_drewN | apply below_drew1) | exact HB.out)⟩⟩
        · rw [if_neg c9] at H
          have c9b0 : decide (1000 < (l0.length : Int)) = false := decide_eq_false c9
          have c9b1 : decide (1000 < l0.length) = false := decide_eq_false (by omega)
          clear c9
          have H' := Aside0.mk H
          clear H
          go_wp2
          go_meet
          case rel => exact ⟨_, ((a2 == 0)), (by first | rfl | (simp; done) | (simp [*]; done)), H', ⟨by first | omega | exact Nat.le_refl _⟩, ⟨by repeat (first | (with_reducible first | exact HB.out | apply below_alloc | apply pw_below_drewN | apply below_drew1) | exact HB.out)⟩⟩
    case rest =>
      clear HC6
      try clear c2
      try clear p2
      try clear c5
      try clear c8
      try clear c8b0
      try clear c8b1
      try clear c9
      try clear c9b0
      try clear c9b1
      obtain ⟨kq, x23_5, rfl, HA, HJ5, HB⟩ := hcut
      cases kq with
      | zero => exact absurd HA.out (by simp [rollbacknetlaw09_CrcBursts.j0])
      | succ kj5 =>
        have H := HA.out
        clear HA
        simp only [rollbacknetlaw09_CrcBursts.j0] at H
        by_cases c10 : x23_5 = true
        · subst c10
          have H1 : (some true) = some r := by rw [if_pos rfl] at H; exact H
          clear H
          have H := H1
          clear H1
          obtain rfl := Option.some.inj H
          go_wp2
          go_ret
          exact ⟨by first | rfl | (simp [errW_none, errW_some] <;> rfl) | (simp [*, errW_none, errW_some] <;> rfl), by repeat (first | (with_reducible first | exact HB.out | apply below_alloc | apply pw_below_drewN | apply below_drew1) | exact HB.out)⟩
        · replace c10 := Bool.eq_false_iff.mpr c10
          subst c10
          have H1 : ((rollbacknetmake_Mod.f a1 (wrap64 ((wrap64 (8 * (l0.length : Int))) - 31))).bind fun t137 => (if ([] : List Int).length + l0.length < 140737488355328 then (rollbacknetlaw09_CrcBursts.l0 kj5 l0 a2 t137 (([] : List Int) ++ l0) 0) else (none))) = some r := by rw [if_neg (show ¬ (false = true) by decide)] at H; exact H
          clear H
          have H := H1
          clear H1
          replace H := Option.bind_eq_some_iff.mp H
          obtain ⟨t137, A110, H⟩ := H
          replace H : (if ([] : List Int).length + l0.length < 140737488355328 then (rollbacknetlaw09_CrcBursts.l0 kj5 l0 a2 t137 (([] : List Int) ++ l0) 0) else (none)) = some r := H
          have A11 := Aside0.mk A110
          clear A110
          by_cases c12 : ([] : List Int).length + l0.length < 140737488355328
          · rw [if_pos c12] at H
            have LMc12 := Aside0.mk c12
            clear c12
            obtain ⟨y138, hy138⟩ : ∃ y_ : List Int, y_ = (([] : List Int) ++ l0) := ⟨_, rfl⟩
            replace H : (rollbacknetlaw09_CrcBursts.l0 kj5 l0 a2 t137 y138 0) = some r := by first | (rw [hy138]; with_reducible exact H) | (have H2_ := (Option.bind_some _ _).symm.trans H; rw [hy138]; with_reducible exact H2_) | (have H2_ := (Option.bind_some _ _).symm.trans H; with_reducible exact H2_) | with_reducible exact H | (rw [hy138]; exact H) | exact H
            have Ny138 := Aside0.mk hy138
            clear hy138
            have H' := Aside0.mk H
            clear H
            go_wp2_with (first | ((with_reducible refine gate_callee (f := 17) rfl ?_); refine goesL_ (some 29) rfl rfl Try.func17 (by kernel_rfl) rfl #[.int .i64 a1, .int .i64 (wrap64 ((wrap64 (8 * (l0.length : Int))) - 31))] rfl (by (try simp only [List.map_toArray, List.map_cons, List.map_nil]); first | done | rfl | (simp only [List.length_drop, List.length_take]; rfl)) ?_; (with_reducible refine (rollbacknetmake_Mod.calls a1 (wrap64 ((wrap64 (8 * (l0.length : Int))) - 31)) t137 _ A11.out).mono ?_); rintro e w' ⟨rfl, ⟨nd, rfl⟩⟩; refine ⟨_, rfl, ?_⟩) | ((with_reducible refine gate_builtin (b := .append) (xs := #[(.const (.slice none 0 0)), .tmp 30]) rfl ?_); (try (refine gate_guard (by rfl) ?_; dsimp only)); at_builtin; refine Kd.R_append_rows (Kd.int .u8) (w0 := w) w.heap.size rfl (.const (.slice none 0 0)) (.tmp 30) 23 5 (.int .u8 0) 1 rfl Try.underlying23 info5 rfl (by decide) (by omega) (.slice none 0 0) ([] : List Int) l0 _ _ _ (fun _ => True) (fun _ => False) rfl rfl ?aO ?aR (fun _ _ h => h) (fun _ h => h.elim) ?aF ?aB ?aS ?aL ?_; (case aR => repeat (first | exact (Kd.C_below HR0.out (by repeat (first | (with_reducible first | exact HB.out | apply below_alloc | apply pw_below_drewN | apply below_drew1) | exact HB.out))) | (with_reducible refine Kd.C_alloc ?_ _) | (with_reducible refine Kd.C_drewN ?_ _) | (with_reducible refine Kd.C_drew ?_))); (case aB => exact (by repeat (first | (with_reducible first | exact HB.out | apply below_alloc | apply pw_below_drewN | apply below_drew1) | exact HB.out))); (case aF => exact (fun _ _ => trivial)); (case aO => exact ((Kd.R_nil _ _ _ _ (fun _ => True)))); (case aS => exact (below_size (by repeat (first | (with_reducible first | exact HB.out | apply below_alloc | apply pw_below_drewN | apply below_drew1) | exact HB.out)))); (case aL => have := LMc12.out; omega); intro v139 w13 ho hb hg hat; rw [← Ny138.out] at ho; have n0_ := Aside0.mk (hb); have n1_ := Aside0.mk (ho); clear HB; have HB := n0_; have HO140 := n1_; clear n0_ n1_; clear ho hb hg hat))
            go_loopg [9] kj5 (fun kq v9 w' => ∃ (x8_2 : List Int) (x9_2 : Int), v9 = .int .i64 x9_2 ∧ Aside0 (rollbacknetlaw09_CrcBursts.l0 kq l0 a2 t137 x8_2 x9_2 = some r) ∧ Aside0 (kq ≤ kj5) ∧ Aside0 (Kd.R (Kd.int .u8) 5 w' w.heap.size (fun _ => True) v139 x8_2) ∧ Aside0 (Below w.heap.size w w'))
            case atStart => exact ⟨(y138), (0), (by first | rfl | (simp; done) | (simp [*]; done)), H', ⟨Nat.le_refl _⟩, ⟨by (with_reducible repeat (first | apply Kd.R_alloc | apply Kd.R_drewN | apply Kd.R_drew)); exact HO140.out⟩, ⟨by repeat (first | (with_reducible first | exact HB.out | apply below_alloc | apply pw_below_drewN | apply below_drew1) | exact HB.out)⟩⟩
            case round =>
              clear H'
              try clear c1
              try clear c2
              try clear p2
              try clear c5
              try clear p6
              try clear c8
              try clear c8b0
              try clear c8b1
              try clear c9
              try clear c9b0
              try clear c9b1
              try clear c10
              try clear c12
              try clear p2
              obtain ⟨x8_2, x9_2, rfl, HA, HK2, HO_8, HB⟩ := hrel
              cases gk with
              | zero => exact absurd HA.out (by simp [rollbacknetlaw09_CrcBursts.l0])
              | succ k2 =>
                have H := HA.out
                clear HA
                simp only [rollbacknetlaw09_CrcBursts.l0] at H
                by_cases c14 : x9_2 < 32
                · rw [if_pos c14] at H
                  have c14b0 : decide (x9_2 < 32) = true := decide_eq_true c14
                  clear c14
                  obtain ⟨ji15, hji15⟩ : ∃ j_ : Int, (IntKind.u64.wrap (x9_2)) = j_ := ⟨_, rfl⟩
                  replace H : (if 0 ≤ (ji15) then (if (Go.bits .and .u32 (shr .u32 a2 (ji15)) 1) = 1 then (if 0 ≤ (wrap64 (Int.tdiv (wrap64 (t137 + x9_2)) 8)) then (if (wrap64 (Int.tdiv (wrap64 (t137 + x9_2)) 8)) < (x8_2.length : Int) then (if 0 ≤ (IntKind.u64.wrap (Int.tmod (wrap64 (t137 + x9_2)) 8)) then (rollbacknetlaw09_CrcBursts.l0 k2 l0 a2 t137 (x8_2.set ((wrap64 (Int.tdiv (wrap64 (t137 + x9_2)) 8)) : Int).toNat (Go.bits .xor .u8 (rd x8_2 (wrap64 (Int.tdiv (wrap64 (t137 + x9_2)) 8))) (shl .u8 1 (IntKind.u64.wrap (Int.tmod (wrap64 (t137 + x9_2)) 8))))) (wrap64 (x9_2 + 1))) else (none)) else (none)) else (none)) else (rollbacknetlaw09_CrcBursts.l0 k2 l0 a2 t137 x8_2 (wrap64 (x9_2 + 1)))) else (none)) = some r := by first | (rw [hji15] at H; exact H) | (simp only [hji15] at H ⊢; exact H)
                  by_cases c16 : 0 ≤ (ji15)
                  · rw [if_pos c16] at H
                    have c16b0 := eq_true c16
                    have c16b1 : decide (0 ≤ (ji15)) = true := decide_eq_true c16
                    clear c16
                    obtain ⟨ji17, hji17⟩ : ∃ j_ : Int, (shr .u32 a2 (ji15)) = j_ := ⟨_, rfl⟩
                    replace H : (if (Go.bits .and .u32 (ji17) 1) = 1 then (if 0 ≤ (wrap64 (Int.tdiv (wrap64 (t137 + x9_2)) 8)) then (if (wrap64 (Int.tdiv (wrap64 (t137 + x9_2)) 8)) < (x8_2.length : Int) then (if 0 ≤ (IntKind.u64.wrap (Int.tmod (wrap64 (t137 + x9_2)) 8)) then (rollbacknetlaw09_CrcBursts.l0 k2 l0 a2 t137 (x8_2.set ((wrap64 (Int.tdiv (wrap64 (t137 + x9_2)) 8)) : Int).toNat (Go.bits .xor .u8 (rd x8_2 (wrap64 (Int.tdiv (wrap64 (t137 + x9_2)) 8))) (shl .u8 1 (IntKind.u64.wrap (Int.tmod (wrap64 (t137 + x9_2)) 8))))) (wrap64 (x9_2 + 1))) else (none)) else (none)) else (none)) else (rollbacknetlaw09_CrcBursts.l0 k2 l0 a2 t137 x8_2 (wrap64 (x9_2 + 1)))) = some r := by first | (rw [hji17] at H; exact H) | (simp only [hji17] at H ⊢; exact H)
                    have hji17_ : (a2 / 2 ^ min (ji15).toNat 32) = ji17 := hji17
                    have hji17z : (ji15) ≤ 32 → (a2 / 2 ^ (ji15).toNat) = ji17 := shr_small hji17
                    by_cases c18 : (Go.bits .and .u32 (ji17) 1) = 1
                    · rw [if_pos c18] at H
                      have c18b0 : ((Go.bits .and .u32 (ji17) 1) == 1) = true := beq_iff_eq.mpr c18
                      have c18b1 : ((Go.bits .and .u32 (ji17) 1) != 1) = false := bne_eq_false_iff_eq.mpr c18
                      clear c18
                      obtain ⟨ji19, hji19⟩ : ∃ j_ : Int, (wrap64 (Int.tdiv (wrap64 (t137 + x9_2)) 8)) = j_ := ⟨_, rfl⟩
                      replace H : (if 0 ≤ (ji19) then (if (ji19) < (x8_2.length : Int) then (if 0 ≤ (IntKind.u64.wrap (Int.tmod (wrap64 (t137 + x9_2)) 8)) then (rollbacknetlaw09_CrcBursts.l0 k2 l0 a2 t137 (x8_2.set ((ji19) : Int).toNat (Go.bits .xor .u8 (rd x8_2 (ji19)) (shl .u8 1 (IntKind.u64.wrap (Int.tmod (wrap64 (t137 + x9_2)) 8))))) (wrap64 (x9_2 + 1))) else (none)) else (none)) else (none)) = some r := by first | (rw [hji19] at H; exact H) | (simp only [hji19] at H ⊢; exact H)
                      have hji19w : (IntKind.i64.wrap (Int.tdiv (wrap64 (t137 + x9_2)) 8)) = ji19 := (i64_w _).trans hji19
                      by_cases c20 : 0 ≤ (ji19)
                      · rw [if_pos c20] at H
                        have c20b0 : decide (0 ≤ (ji19)) = true := decide_eq_true c20
                        clear c20
                        by_cases c21 : (ji19) < (x8_2.length : Int)
                        · rw [if_pos c21] at H
                          have c21b0 : decide ((ji19) < (x8_2.length : Int)) = true := decide_eq_true c21
                          clear c21
                          obtain ⟨ji22, hji22⟩ : ∃ j_ : Int, (IntKind.u64.wrap (Int.tmod (wrap64 (t137 + x9_2)) 8)) = j_ := ⟨_, rfl⟩
                          replace H : (if 0 ≤ (ji22) then (rollbacknetlaw09_CrcBursts.l0 k2 l0 a2 t137 (x8_2.set ((ji19) : Int).toNat (Go.bits .xor .u8 (rd x8_2 (ji19)) (shl .u8 1 (ji22)))) (wrap64 (x9_2 + 1))) else (none)) = some r := by first | (rw [hji22] at H; exact H) | (simp only [hji22] at H ⊢; exact H)
                          by_cases c23 : 0 ≤ (ji22)
                          · rw [if_pos c23] at H
                            have c23b0 := eq_true c23
                            have c23b1 : decide (0 ≤ (ji22)) = true := decide_eq_true c23
                            clear c23
                            obtain ⟨ji24, hji24⟩ : ∃ j_ : Int, (shl .u8 1 (ji22)) = j_ := ⟨_, rfl⟩
                            replace H : (rollbacknetlaw09_CrcBursts.l0 k2 l0 a2 t137 (x8_2.set ((ji19) : Int).toNat (Go.bits .xor .u8 (rd x8_2 (ji19)) (ji24))) (wrap64 (x9_2 + 1))) = some r := by first | (rw [hji24] at H; exact H) | (simp only [hji24] at H ⊢; exact H)
                            have hji24_ : (IntKind.u8.wrap (1 * 2 ^ min (ji22).toNat 8)) = ji24 := hji24
                            have hji24z : (ji22) ≤ 8 → (IntKind.u8.wrap (1 * 2 ^ (ji22).toNat)) = ji24 := shl_small hji24
                            have hji24u : (IntKind.u8.wrap (2 ^ min (ji22).toNat 8)) = ji24 := by have h_ := hji24_; rw [Int.one_mul] at h_; exact h_
                            have hji24v : (ji22) ≤ 8 → (IntKind.u8.wrap (2 ^ (ji22).toNat)) = ji24 := fun hle_ => by have h_ := hji24z hle_; rw [Int.one_mul] at h_; exact h_
                            obtain ⟨y142, hy142⟩ : ∃ y_ : List Int, y_ = (x8_2.set ((ji19) : Int).toNat (Go.bits .xor .u8 (rd x8_2 (ji19)) (ji24))) := ⟨_, rfl⟩
                            replace H : (rollbacknetlaw09_CrcBursts.l0 k2 l0 a2 t137 y142 (wrap64 (x9_2 + 1))) = some r := by first | (rw [hy142]; with_reducible exact H) | (have H2_ := (Option.bind_some _ _).symm.trans H; rw [hy142]; with_reducible exact H2_) | (have H2_ := (Option.bind_some _ _).symm.trans H; with_reducible exact H2_) | with_reducible exact H | (rw [hy142]; exact H) | exact H
                            have Ny142 := Aside0.mk hy142
                            clear hy142
                            have H' := Aside0.mk H
                            clear H
                            obtain ⟨Ao26, co26, eo26⟩ := Kd.R_slice HO_8.out
                            subst eo26
                            have p141 : 0 ≤ ((ji19) : Int) := of_decide_eq_true (by first | (with_reducible assumption) | assumption)
                            have q141 : (ji19) < (x8_2.length : Int) := of_decide_eq_true (by first | (with_reducible assumption) | assumption)
                            obtain ⟨ad141, e141, hx141_0⟩ := Kd.at_int (Kd.R_reads' HO_8.out).2.2 (ji19) p141 q141
                            cases e141
                            replace p141 := eq_true p141
                            replace q141 := eq_true q141
                            have p25 : 0 ≤ ((ji19) : Int) := of_decide_eq_true (by first | (with_reducible assumption) | assumption)
                            have q25 : ((ji19) : Int) < ((x8_2.length : Int) : Int) := of_decide_eq_true (by first | (with_reducible assumption) | assumption)
                            obtain ⟨go25, co25, eo25, gb25, gl25, cl25, HG25⟩ := Kd.R_form HO_8.out (by omega)
                            (first | cases eo25 | (injection eo25 with ea_ en_ ec_; (first | subst ea_ | (injection ea_ with ea_; subst ea_)); subst ec_; clear en_))
                            have GB25 := Aside0.mk gb25
                            have GG25 := Aside0.mk HG25
                            clear gb25 gl25 HG25
                            (first | simp only [add_plain] at hx141_0 | skip)
                            obtain ⟨hx25_0, hf25_0⟩ := Kd.R_celln 0 HO_8.out ((ji19) : Int) p25 q25
                            replace p25 := eq_true p25
                            replace q25 := eq_true q25
                            have HP27 := Kd.R_putg HO_8.out ((ji19) : Int) (Go.bits .xor .u8 (rd x8_2 (ji19)) (ji24))
                            go_wp2_with (first | ((with_reducible refine gate_store (t := 5) (p := 56) rfl ?_); refine store_event (t := 5) (p := 56) (v := ?vo_w28) (w1 := (wr.setCell ⟨go25, ((ji19) : Int).toNat, none⟩ (.int .u8 (Go.bits .xor .u8 (rd x8_2 (ji19)) (ji24))))) ?hg ?ho ?hn ?hr ?_; (case ho => rfl); (case hg => rfl); (case hn => rfl); (case hr => first | (go_simp; done) | (go_simp; rfl)); intro w28 hw; have hg : wr.grownBy w28 (some go25) := (by rw [hw]; exact HP27.2); have hp_ : Kd.R (Kd.int .u8) 5 w28 w.heap.size (fun _ => True) (.slice (some ⟨go25, 0, none⟩) x8_2.length co26) y142 := (by rw [hw, Ny142.out]; exact HP27.1); clear HP27; have n0_ := Aside0.mk (hp_); have n1_ := Aside0.mk ((by rw [hw]; exact below_set (HB.out) GB25.out : Below w.heap.size w w28)); clear HO_8; clear HB; have HO_8 := n0_; have HB := n1_; clear n0_ n1_; clear hg hw hp_))
                            go_roundg k2
                            case measure => have := HJ5.out; have := HK2.out; omega
                            case rel => exact ⟨(y142), (wrap64 (x9_2 + 1)), (by first | rfl | (simp; done) | (simp [*]; done)), H', ⟨by have := HJ5.out; have := HK2.out; omega⟩, ⟨by (with_reducible repeat (first | apply Kd.R_alloc | apply Kd.R_drewN | apply Kd.R_drew)); exact HO_8.out⟩, ⟨by repeat (first | (with_reducible first | exact HB.out | apply below_alloc | apply pw_below_drewN | apply below_drew1) | exact HB.out)⟩⟩
                          · rw [if_neg c23] at H
                            exact absurd H (by simp)
                        · rw [if_neg c21] at H
                          exact absurd H (by simp)
                      · rw [if_neg c20] at H
                        exact absurd H (by simp)
                    · rw [if_neg c18] at H
                      have c18b0 : ((Go.bits .and .u32 (ji17) 1) == 1) = false := beq_eq_false_iff_ne.mpr c18
                      have c18b1 : ((Go.bits .and .u32 (ji17) 1) != 1) = true := bne_iff_ne.mpr c18
                      have H' := Aside0.mk H
                      clear H
                      go_wp2
                      go_roundg k2
                      case measure => have := HJ5.out; have := HK2.out; omega
                      case rel => exact ⟨(x8_2), (wrap64 (x9_2 + 1)), (by first | rfl | (simp; done) | (simp [*]; done)), H', ⟨by have := HJ5.out; have := HK2.out; omega⟩, ⟨by (with_reducible repeat (first | apply Kd.R_alloc | apply Kd.R_drewN | apply Kd.R_drew)); exact HO_8.out⟩, ⟨by repeat (first | (with_reducible first | exact HB.out | apply below_alloc | apply pw_below_drewN | apply below_drew1) | exact HB.out)⟩⟩
                  · rw [if_neg c16] at H
                    exact absurd H (by simp)
                · rw [if_neg c14] at H
                  have c14b0 : decide (x9_2 < 32) = false := decide_eq_false c14
                  clear c14
                  replace H := Option.bind_eq_some_iff.mp H
                  obtain ⟨t143, A290, H⟩ := H
                  replace H : ((crc_Of.f x8_2).bind fun t144 => (some (t143 != t144))) = some r := H
                  have A29 := Aside0.mk A290
                  clear A290
                  replace H := Option.bind_eq_some_iff.mp H
                  obtain ⟨t144, A300, H⟩ := H
                  replace H : (some (t143 != t144)) = some r := H
                  have A30 := Aside0.mk A300
                  clear A300
                  obtain rfl := Option.some.inj H
                  go_wp2_with (first | ((with_reducible refine gate_callee (f := 23) rfl ?_); refine goesL_ (some 58) rfl rfl Try.func23 (by kernel_rfl) rfl #[.slice A0 l0.length c0] rfl (by (try simp only [List.map_toArray, List.map_cons, List.map_nil]); first | done | rfl | (simp only [List.length_drop, List.length_take]; rfl)) ?_; (with_reducible refine (crc_Of.calls _ _ l0 t143 _ ?side1 ?side2 A29.out).mono ?_); (case side1 => repeat (first | exact (Kd.C_below HR0.out HB.out) | (with_reducible refine Kd.C_alloc ?_ _) | (with_reducible refine Kd.C_drewN ?_ _) | (with_reducible refine Kd.C_drew ?_))); (case side2 => exact HC0.out); rintro e w31 ⟨rfl, hb⟩; refine ⟨_, rfl, ?_⟩; have n0_ := Aside0.mk (Kd.R_below (by (with_reducible repeat (first | apply Kd.R_alloc | apply Kd.R_drewN | apply Kd.R_drew)); exact HO_8.out) hb); have n1_ := Aside0.mk (below_step (by repeat (first | (with_reducible first | exact HB.out | apply below_alloc | apply pw_below_drewN | apply below_drew1) | exact HB.out)) hb); clear HO_8; clear HB; have HO_8 := n0_; have HB := n1_; clear n0_ n1_; (try clear hb); (try clear hb2); (try clear hk); (try clear hi); obtain ⟨Ao32, co32, eo32⟩ := Kd.R_slice HO_8.out; subst eo32) | ((with_reducible refine gate_callee (f := 23) rfl ?_); refine goesL_ (some 60) rfl rfl Try.func23 (by kernel_rfl) rfl #[.slice Ao32 x8_2.length co32] rfl (by (try simp only [List.map_toArray, List.map_cons, List.map_nil]); first | done | rfl | (simp only [List.length_drop, List.length_take]; rfl)) ?_; (with_reducible refine (crc_Of.calls _ _ x8_2 t144 _ ?side1 ?side2 A30.out).mono ?_); (case side1 => repeat (first | exact (Kd.R_reads' HO_8.out).2.2 | (with_reducible refine Kd.C_alloc ?_ _) | (with_reducible refine Kd.C_drewN ?_ _) | (with_reducible refine Kd.C_drew ?_))); (case side2 => exact (Kd.R_reads' HO_8.out).2.1); rintro e w33 ⟨rfl, hb⟩; refine ⟨_, rfl, ?_⟩; have n0_ := Aside0.mk (Kd.R_below (by (with_reducible repeat (first | apply Kd.R_alloc | apply Kd.R_drewN | apply Kd.R_drew)); exact HO_8.out) hb); have n1_ := Aside0.mk (below_step (by repeat (first | (with_reducible first | exact HB.out | apply below_alloc | apply pw_below_drewN | apply below_drew1) | exact HB.out)) hb); clear HO_8; clear HB; have HO_8 := n0_; have HB := n1_; clear n0_ n1_; (try clear hb); (try clear hb2); (try clear hk); (try clear hi)))
                  go_ret
                  exact ⟨by first | rfl | (simp [errW_none, errW_some] <;> rfl) | (simp [*, errW_none, errW_some] <;> rfl), by repeat (first | (with_reducible first | exact HB.out | apply below_alloc | apply pw_below_drewN | apply below_drew1) | exact HB.out)⟩
          · rw [if_neg c12] at H
            exact absurd H (by simp)
  · replace c5 := Bool.eq_false_iff.mpr c5
    subst c5
    have H1 : (some false) = some r := by rw [if_neg (show ¬ (false = true) by decide)] at H; exact H
    clear H
    have H := H1
    clear H1
    obtain rfl := Option.some.inj H
    go_enter Try.func8, Try.ntmps8
    go_wp2_with (first | ((with_reducible refine gate_callee (f := 22) rfl ?_); refine goesL_ (some 10) rfl rfl Try.func22 (by kernel_rfl) rfl #[] rfl (by (try simp only [List.map_toArray, List.map_cons, List.map_nil]); first | done | rfl | (simp only [List.length_drop, List.length_take]; rfl)) ?_; (with_reducible refine (rollbacknetlaw09_awake.calls  false _ A4.out).mono ?_); rintro e w34 ⟨rfl, hb⟩; refine ⟨_, rfl, ?_⟩; have n0_ := Aside0.mk (below_step (by repeat (first | (with_reducible first | exact HB.out | apply below_alloc | apply pw_below_drewN | apply below_drew1) | exact HB.out)) hb); clear HB; have HB := n0_; clear n0_; (try clear hb); (try clear hb2); (try clear hk); (try clear hi)))
    go_ret
    exact ⟨by first | rfl | (simp [errW_none, errW_some] <;> rfl) | (simp [*, errW_none, errW_some] <;> rfl), by repeat (first | (with_reducible first | exact HB.out | apply below_alloc | apply pw_below_drewN | apply below_drew1) | exact HB.out)⟩

end Go.Proofs.Ytpcfgpghfegjkaa.PCr
