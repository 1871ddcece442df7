-- Laid by wip/tools/xprint.py, a program of this session over the kit's print: functions as Lean functions, each with its contract.
import Derived.Test.YtpcfgpghfegjkaaPCrx0
import Derived.Test.YtpcfgpghfegjkaaPCrx1
namespace Go.Proofs.Ytpcfgpghfegjkaa.PCr
open Go.RowKit Go.Proofs.YtpcfgpghfegjkaaW.PrintWords Go.Proofs.YtpcfgpghfegjkaaW.PrintLast Go.Proofs.YtpcfgpghfegjkaaW.PrintMore
attribute [local go_sem] max2_int min2_int max_two min_two max_three min_three max_four min_four   -- for this text's walks alone
set_option linter.unusedVariables false
set_option linter.unusedSimpArgs false

/-! ### rollbacknetlaw09_CrcXors: function 7 -/
def rollbacknetlaw09_CrcXors.l0 : Nat → List Int → List Int → List Int → Int → List Int → Int → Int → Option (Bool)
  | 0, _, _, _, _, _, _, _ => none
  | k + 1, x0, x1, x2, x7, x8, x24, x25 => if x25 < x24 then (if 0 ≤ x25 then (if x25 < (x0.length : Int) then (if x25 < (x1.length : Int) then (if x25 < (x2.length : Int) then (if x25 < (x8.length : Int) then (rollbacknetlaw09_CrcXors.l0 k x0 x1 x2 x7 (x8.set (x25 : Int).toNat (Go.bits .xor .u8 (Go.bits .xor .u8 (rd x0 x25) (rd x1 x25)) (rd x2 x25))) x24 (wrap64 (x25 + 1))) else (none)) else (none)) else (none)) else (none)) else (none)) else ((crc_Of.f x8).bind fun t129 => (if 0 ≤ x7 then (if x7 ≤ (x0.length : Int) then ((crc_Of.f (x0.take (x7 : Int).toNat)).bind fun t131 => (if x7 ≤ (x1.length : Int) then ((crc_Of.f (x1.take (x7 : Int).toNat)).bind fun t133 => (if x7 ≤ (x2.length : Int) then ((crc_Of.f (x2.take (x7 : Int).toNat)).bind fun t135 => (some (t129 == (Go.bits .xor .u32 (Go.bits .xor .u32 t131 t133) t135)))) else (none))) else (none))) else (none)) else (none)))
def rollbacknetlaw09_CrcXors.f (k : Nat) (l0 : List Int) (l1 : List Int) (l2 : List Int) : Option (Bool) := (rollbacknetlaw09_awake.f).bind fun t121 => (if t121 = true then (if (mn (mn (l0.length : Int) (l1.length : Int)) (l2.length : Int)) > 1000 then (some true) else (if 0 ≤ (mn (mn (l0.length : Int) (l1.length : Int)) (l2.length : Int)) then (if (mn (mn (l0.length : Int) (l1.length : Int)) (l2.length : Int) : Int).toNat ≤ 281474976710656 then ((some (List.replicate (mn (mn (l0.length : Int) (l1.length : Int)) (l2.length : Int) : Int).toNat 0 : List Int)).bind fun y122 => (rollbacknetlaw09_CrcXors.l0 k l0 l1 l2 (mn (mn (l0.length : Int) (l1.length : Int)) (l2.length : Int)) y122 (y122.length : Int) 0)) else (none)) else (none))) else (some false))
theorem rollbacknetlaw09_CrcXors.mono_l : ∀ k, (∀ y0 y1 y2 y3 y4 y5 y6, LeO (rollbacknetlaw09_CrcXors.l0 k y0 y1 y2 y3 y4 y5 y6) (rollbacknetlaw09_CrcXors.l0 (k + 1) y0 y1 y2 y3 y4 y5 y6))
  | 0 => fun _ _ _ _ _ _ _ r h => by simp [rollbacknetlaw09_CrcXors.l0] at h
  | k + 1 => by
    have ih0 := rollbacknetlaw09_CrcXors.mono_l k
    · intro y0 y1 y2 y3 y4 y5 y6
      unfold rollbacknetlaw09_CrcXors.l0
      repeat' first
      | (with_reducible exact ih0 _ _ _ _ _ _ _)
      | (with_reducible exact LeO.refl _)
      | (with_reducible exact LeO.none _)
      | (with_reducible refine LeO.ite ?_ ?_)
      | (with_reducible refine LeO.bind ?_ (fun _ => ?_))
      | exact ih0 _ _ _ _ _ _ _
      | exact LeO.none _
      | refine LeO.ite ?_ ?_
      | refine LeO.bind ?_ (fun _ => ?_)
theorem rollbacknetlaw09_CrcXors.mono : ∀ a0 a1 a2 k, LeO (rollbacknetlaw09_CrcXors.f k a0 a1 a2) (rollbacknetlaw09_CrcXors.f (k + 1) a0 a1 a2) := by
  intro a0 a1 a2 k
  have ih0 := rollbacknetlaw09_CrcXors.mono_l k
  unfold rollbacknetlaw09_CrcXors.f
  repeat' first
      | (with_reducible exact ih0 _ _ _ _ _ _ _)
      | (with_reducible exact LeO.refl _)
      | (with_reducible exact LeO.none _)
      | (with_reducible refine LeO.ite ?_ ?_)
      | (with_reducible refine LeO.bind ?_ (fun _ => ?_))
      | exact ih0 _ _ _ _ _ _ _
      | exact LeO.none _
      | refine LeO.ite ?_ ?_
      | refine LeO.bind ?_ (fun _ => ?_)
def rollbacknetlaw09_CrcXors.T10 : Bool × List (List Nat × List Nat) := (true, [([], []), ([], []), ([], []), ([], []), ([2, 3], [2, 3]), ([4], [4]), ([], []), ([], []), ([6, 7], [6, 7]), ([8], [8]), ([5, 9], [5, 9]), ([], []), ([], []), ([11, 12], [11, 12]), ([13], [13]), ([10, 14], [10, 14]), ([0, 1, 0, 1, 2, 3, 4, 5, 6, 7, 8, 9, 10, 11, 12, 13, 14, 15], [0, 1]), ([16, 15, 0, 1, 2, 3, 4, 5, 6, 7, 8, 9, 10, 11, 12, 13, 14, 15], [15, 16])])
def rollbacknetlaw09_CrcXors.B10 : List Nat := [0, 0, 0, 0, 12, 28, 0, 0, 192, 448, 1020, 0, 0, 6144, 14336, 32764, 65535, 131071]
theorem rollbacknetlaw09_CrcXors.tab10 : rtab .any (opsOf Try.f7 10) = rollbacknetlaw09_CrcXors.T10 := by kernel_rfl
theorem rollbacknetlaw09_CrcXors.bits10 : waitsOk rollbacknetlaw09_CrcXors.T10.2 rollbacknetlaw09_CrcXors.B10 = true := by kernel_rfl
def rollbacknetlaw09_CrcXors.T12 : Bool × List (List Nat × List Nat) := (true, [([], []), ([0], [0]), ([], []), ([], []), ([2, 3], [2, 3]), ([4, 1], [4]), ([], []), ([], []), ([6, 7], [6, 7]), ([8, 5], [8]), ([5, 9], [5, 9]), ([], []), ([], []), ([11, 12], [11, 12]), ([13, 9], [13]), ([10, 14], [10, 14]), ([1, 15], [1, 15]), ([16, 14, 0, 1, 2, 3, 4, 5, 6, 7, 8, 9, 10, 11, 12, 13, 14, 15, 16], [16])])
def rollbacknetlaw09_CrcXors.B12 : List Nat := [0, 1, 0, 0, 12, 31, 0, 0, 192, 511, 1023, 0, 0, 6144, 15359, 32767, 65535, 131071]
theorem rollbacknetlaw09_CrcXors.tab12 : rtab .any (opsOf Try.f7 12) = rollbacknetlaw09_CrcXors.T12 := by kernel_rfl
theorem rollbacknetlaw09_CrcXors.bits12 : waitsOk rollbacknetlaw09_CrcXors.T12.2 rollbacknetlaw09_CrcXors.B12 = true := by kernel_rfl
set_option maxHeartbeats 8000000 in
set_option maxRecDepth 100000 in
theorem rollbacknetlaw09_CrcXors.calls (k : Nat) (A0 : Option Addr) (c0 : Nat) (l0 : List Int) (A1 : Option Addr) (c1 : Nat) (l1 : List Int) (A2 : Option Addr) (c2 : Nat) (l2 : List Int) (r : Bool) (w : World) (hr0 : Kd.C (Kd.int .u8) w A0 l0.length l0) (hc0 : l0.length ≤ c0) (hr1 : Kd.C (Kd.int .u8) w A1 l1.length l1) (hc1 : l1.length ≤ c1) (hr2 : Kd.C (Kd.int .u8) w A2 l2.length l2) (hc2 : l2.length ≤ c2) (h : rollbacknetlaw09_CrcXors.f k l0 l1 l2 = some r) :
    Calls Try.prog 7 #[.slice A0 l0.length c0, .slice A1 l1.length c1, .slice A2 l2.length c2] w fun e w' => e = .returned (.bool r) ∧ Below w.heap.size w w' := by
  have HR0 := Aside0.mk hr0
  have HC0 := Aside0.mk hc0
  clear hr0 hc0
  have HR1 := Aside0.mk hr1
  have HC1 := Aside0.mk hc1
  clear hr1 hc1
  have HR2 := Aside0.mk hr2
  have HC2 := Aside0.mk hc2
  clear hr2 hc2
  have HB := Aside0.mk (Below.refl w.heap.size w)
  have H : ((rollbacknetlaw09_awake.f).bind fun t121 => (if t121 = true then (if (mn (mn (l0.length : Int) (l1.length : Int)) (l2.length : Int)) > 1000 then (some true) else (if 0 ≤ (mn (mn (l0.length : Int) (l1.length : Int)) (l2.length : Int)) then (if (mn (mn (l0.length : Int) (l1.length : Int)) (l2.length : Int) : Int).toNat ≤ 281474976710656 then ((some (List.replicate (mn (mn (l0.length : Int) (l1.length : Int)) (l2.length : Int) : Int).toNat 0 : List Int)).bind fun y122 => (rollbacknetlaw09_CrcXors.l0 k l0 l1 l2 (mn (mn (l0.length : Int) (l1.length : Int)) (l2.length : Int)) y122 (y122.length : Int) 0)) else (none)) else (none))) else (some false))) = some r := h
  clear h
  replace H := Option.bind_eq_some_iff.mp H
  obtain ⟨t121, A40, H⟩ := H
  replace H : (if t121 = true then (if (mn (mn (l0.length : Int) (l1.length : Int)) (l2.length : Int)) > 1000 then (some true) else (if 0 ≤ (mn (mn (l0.length : Int) (l1.length : Int)) (l2.length : Int)) then (if (mn (mn (l0.length : Int) (l1.length : Int)) (l2.length : Int) : Int).toNat ≤ 281474976710656 then ((some (List.replicate (mn (mn (l0.length : Int) (l1.length : Int)) (l2.length : Int) : Int).toNat 0 : List Int)).bind fun y122 => (rollbacknetlaw09_CrcXors.l0 k l0 l1 l2 (mn (mn (l0.length : Int) (l1.length : Int)) (l2.length : Int)) y122 (y122.length : Int) 0)) else (none)) else (none))) else (some false)) = some r := H
  have A4 := Aside0.mk A40
  clear A40
  by_cases c5 : t121 = true
  · subst c5
    have H1 : (if (mn (mn (l0.length : Int) (l1.length : Int)) (l2.length : Int)) > 1000 then (some true) else (if 0 ≤ (mn (mn (l0.length : Int) (l1.length : Int)) (l2.length : Int)) then (if (mn (mn (l0.length : Int) (l1.length : Int)) (l2.length : Int) : Int).toNat ≤ 281474976710656 then ((some (List.replicate (mn (mn (l0.length : Int) (l1.length : Int)) (l2.length : Int) : Int).toNat 0 : List Int)).bind fun y122 => (rollbacknetlaw09_CrcXors.l0 k l0 l1 l2 (mn (mn (l0.length : Int) (l1.length : Int)) (l2.length : Int)) y122 (y122.length : Int) 0)) else (none)) else (none))) = some r := by rw [if_pos rfl] at H; exact H
    clear H
    have H := H1
    clear H1
    obtain ⟨ji6, hji6⟩ : ∃ j_ : Int, (mn (l0.length : Int) (l1.length : Int)) = j_ := ⟨_, rfl⟩
    replace H : (if (mn (ji6) (l2.length : Int)) > 1000 then (some true) else (if 0 ≤ (mn (ji6) (l2.length : Int)) then (if (mn (ji6) (l2.length : Int) : Int).toNat ≤ 281474976710656 then ((some (List.replicate (mn (ji6) (l2.length : Int) : Int).toNat 0 : List Int)).bind fun y122 => (rollbacknetlaw09_CrcXors.l0 k l0 l1 l2 (mn (ji6) (l2.length : Int)) y122 (y122.length : Int) 0)) else (none)) else (none))) = some r := by first | (rw [hji6] at H; exact H) | (simp only [hji6] at H ⊢; exact H)
    (try rw [hji6] at A4)
    (try (have hji6l : 0 ≤ ji6 := by (rw [← hji6]; unfold mn; (repeat' split) <;> omega)))
    (try (have hji6m : 0 ≤ ji6 := by omega))
    have hji6_ : (if (l1.length : Int) < (l0.length : Int) then (l1.length : Int) else (l0.length : Int)) = ji6 := hji6
    have hji6n_ : (if l1.length < l0.length then (l1.length : Int) else (l0.length : Int)) = ji6 := by (rw [← hji6_]; split <;> split <;> first | rfl | omega)
    obtain ⟨ji7, hji7⟩ : ∃ j_ : Int, (mn (ji6) (l2.length : Int)) = j_ := ⟨_, rfl⟩
    replace H : (if (ji7) > 1000 then (some true) else (if 0 ≤ (ji7) then (if (ji7 : Int).toNat ≤ 281474976710656 then ((some (List.replicate (ji7 : Int).toNat 0 : List Int)).bind fun y122 => (rollbacknetlaw09_CrcXors.l0 k l0 l1 l2 ji7 y122 (y122.length : Int) 0)) else (none)) else (none))) = some r := by first | (rw [hji7] at H; exact H) | (simp only [hji7] at H ⊢; exact H)
    (try rw [hji7] at A4)
    have hji7_ : (if (l2.length : Int) < (ji6) then (l2.length : Int) else (ji6)) = ji7 := hji7
    by_cases c8 : (ji7) > 1000
    · rw [if_pos c8] at H
      have c8b0 : decide (1000 < (ji7)) = true := decide_eq_true c8
      clear c8
      obtain rfl := Option.some.inj H
      go_enter Try.func7, Try.ntmps7
      go_wp2_with (first | ((with_reducible refine gate_callee (f := 22) rfl ?_); refine goesL_ (some 10) rfl rfl Try.func22 (by kernel_rfl) rfl #[] rfl (by (try simp only [List.map_toArray, List.map_cons, List.map_nil]); first | done | rfl | (simp only [List.length_drop, List.length_take]; rfl)) ?_; (with_reducible refine (rollbacknetlaw09_awake.calls  true _ A4.out).mono ?_); rintro e w9 ⟨rfl, hb⟩; refine ⟨_, rfl, ?_⟩; have n0_ := Aside0.mk (below_step (by repeat (first | (with_reducible first | exact HB.out | apply below_alloc | apply pw_below_drewN | apply below_drew1) | exact HB.out)) hb); clear HB; have HB := n0_; clear n0_; (try clear hb); (try clear hb2); (try clear hk); (try clear hi)))
      go_ret
      exact ⟨by first | rfl | (simp [errW_none, errW_some] <;> rfl) | (simp only [← hji6, ← hji7]; first | rfl | (simp [errW_none, errW_some] <;> rfl)) | (simp [*, errW_none, errW_some] <;> rfl), by repeat (first | (with_reducible first | exact HB.out | apply below_alloc | apply pw_below_drewN | apply below_drew1) | exact HB.out)⟩
    · rw [if_neg c8] at H
      have c8b0 : decide (1000 < (ji7)) = false := decide_eq_false c8
      clear c8
      by_cases c10 : 0 ≤ (ji7)
      · rw [if_pos c10] at H
        have c10b0 := eq_true c10
        have c10b1 : decide (0 ≤ (ji7)) = true := decide_eq_true c10
        clear c10
        by_cases c11 : (ji7 : Int).toNat ≤ 281474976710656
        · rw [if_pos c11] at H
          have c11b0 := eq_true c11
          have c11b1 : decide ((ji7 : Int).toNat ≤ 281474976710656) = true := decide_eq_true c11
          clear c11
          obtain ⟨y122, hy122⟩ : ∃ y_ : List Int, y_ = (List.replicate (ji7 : Int).toNat 0) := ⟨_, rfl⟩
          replace H : (rollbacknetlaw09_CrcXors.l0 k l0 l1 l2 ji7 y122 (y122.length : Int) 0) = some r := by first | (rw [hy122]; with_reducible exact H) | (have H2_ := (Option.bind_some _ _).symm.trans H; rw [hy122]; with_reducible exact H2_) | (have H2_ := (Option.bind_some _ _).symm.trans H; with_reducible exact H2_) | with_reducible exact H | (rw [hy122]; exact H) | exact H
          have Ny122 := Aside0.mk hy122
          clear hy122
          have H' := Aside0.mk H
          clear H
          go_enter Try.func7, Try.ntmps7
          go_wp2_with (first | ((with_reducible refine gate_callee (f := 22) rfl ?_); refine goesL_ (some 10) rfl rfl Try.func22 (by kernel_rfl) rfl #[] rfl (by (try simp only [List.map_toArray, List.map_cons, List.map_nil]); first | done | rfl | (simp only [List.length_drop, List.length_take]; rfl)) ?_; (with_reducible refine (rollbacknetlaw09_awake.calls  true _ A4.out).mono ?_); rintro e w12 ⟨rfl, hb⟩; refine ⟨_, rfl, ?_⟩; have n0_ := Aside0.mk (below_step (by repeat (first | (with_reducible first | exact HB.out | apply below_alloc | apply pw_below_drewN | apply below_drew1) | exact HB.out)) hb); clear HB; have HB := n0_; clear n0_; (try clear hb); (try clear hb2); (try clear hk); (try clear hi)) | ((with_reducible refine gate_dst (N := 22) rfl ?_); refine Kd.R_make (Kd.int .u8) _ 5 rfl (N := 22) rfl 23 _ _ rfl ji7 rfl rfl Try.underlying23 (.int .u8 0) 1 info5 rfl (by decide) (by omega) 0 (ok := fun _ => True) (okp := fun _ => True) rfl (fun _ hk => hk) trivial (of_decide_eq_true (by first | (with_reducible assumption) | assumption)) (Nat.le_trans (Nat.mul_le_mul_right _ (of_decide_eq_true (by first | (with_reducible assumption) | assumption) : ji7.toNat ≤ 281474976710656)) (by omega)) (Below.refl _ _) (Nat.le_refl _) ?_; intro v123 w13 ho14 hb hg_ hnew_; clear hg_ hnew_; (first | rw [← Ny122.out] at ho14 | (simp only [Int.reduceToNat] at ho14; rw [← Ny122.out] at ho14)); have n0_ := Aside0.mk (Kd.R_lower ho14 (below_size (by repeat (first | (with_reducible first | exact HB.out | apply below_alloc | apply pw_below_drewN | apply below_drew1) | exact HB.out)))); have n1_ := Aside0.mk (below_step (by repeat (first | (with_reducible first | exact HB.out | apply below_alloc | apply pw_below_drewN | apply below_drew1) | exact HB.out)) hb); clear HB; have HO124 := n0_; have HB := n1_; clear n0_ n1_; clear hb ho14; obtain ⟨Ao15, co15, eo15⟩ := Kd.R_slice HO124.out; subst eo15))
          go_loopg [25] k (fun kq v25 w' => ∃ (x8_1 : List Int) (x25_1 : Int), v25 = .int .i64 x25_1 ∧ Aside0 (rollbacknetlaw09_CrcXors.l0 kq l0 l1 l2 ji7 x8_1 (y122.length : Int) x25_1 = some r) ∧ Aside0 (kq ≤ k) ∧ Aside0 (Kd.R (Kd.int .u8) 5 w' w.heap.size (fun _ => True) (.slice Ao15 y122.length co15) x8_1) ∧ Aside0 (Below w.heap.size w w'))
          case atStart => exact ⟨(y122), (0), (by first | rfl | (simp; done) | (simp [*]; done)), H', ⟨Nat.le_refl _⟩, ⟨by (with_reducible repeat (first | apply Kd.R_alloc | apply Kd.R_drewN | apply Kd.R_drew)); exact HO124.out⟩, ⟨by repeat (first | (with_reducible first | exact HB.out | apply below_alloc | apply pw_below_drewN | apply below_drew1) | exact HB.out)⟩⟩
          case round =>
            clear H'
            try clear c1
            try clear c2
            try clear p2
            try clear c5
            try clear c7
            try clear c8
            try clear c8b0
            try clear c10
            try clear c10b0
            try clear c10b1
            try clear c11
            try clear c11b0
            try clear c11b1
            obtain ⟨x8_1, x25_1, rfl, HA, HK1, HO_8, HB⟩ := hrel
            have hl8_1 := (Kd.R_reads' HO_8.out).1
            rw [hl8_1] at HO_8
            (try simp only [hl8_1])
            cases gk with
            | zero => exact absurd HA.out (by simp [rollbacknetlaw09_CrcXors.l0])
            | succ k1 =>
              have H := HA.out
              clear HA
              simp only [rollbacknetlaw09_CrcXors.l0] at H
              by_cases c16 : x25_1 < (y122.length : Int)
              · rw [if_pos c16] at H
                have c16b0 : decide (x25_1 < (y122.length : Int)) = true := decide_eq_true c16
                (try simp only [hl8_1] at c16b0)
                clear c16
                by_cases c17 : 0 ≤ x25_1
                · rw [if_pos c17] at H
                  have c17b0 : decide (0 ≤ x25_1) = true := decide_eq_true c17
                  (try simp only [hl8_1] at c17b0)
                  clear c17
                  by_cases c18 : x25_1 < (l0.length : Int)
                  · rw [if_pos c18] at H
                    have c18b0 : decide (x25_1 < (l0.length : Int)) = true := decide_eq_true c18
                    (try simp only [hl8_1] at c18b0)
                    clear c18
                    by_cases c19 : x25_1 < (l1.length : Int)
                    · rw [if_pos c19] at H
                      have c19b0 : decide (x25_1 < (l1.length : Int)) = true := decide_eq_true c19
                      (try simp only [hl8_1] at c19b0)
                      clear c19
                      by_cases c20 : x25_1 < (l2.length : Int)
                      · rw [if_pos c20] at H
                        have c20b0 : decide (x25_1 < (l2.length : Int)) = true := decide_eq_true c20
                        (try simp only [hl8_1] at c20b0)
                        clear c20
                        by_cases c21 : x25_1 < (x8_1.length : Int)
                        · rw [if_pos c21] at H
                          have c21b0 : decide (x25_1 < (x8_1.length : Int)) = true := decide_eq_true c21
                          (try simp only [hl8_1] at c21b0)
                          clear c21
                          obtain ⟨y128, hy128⟩ : ∃ y_ : List Int, y_ = (x8_1.set (x25_1 : Int).toNat (Go.bits .xor .u8 (Go.bits .xor .u8 (rd l0 x25_1) (rd l1 x25_1)) (rd l2 x25_1))) := ⟨_, rfl⟩
                          replace H : (rollbacknetlaw09_CrcXors.l0 k1 l0 l1 l2 ji7 y128 (y122.length : Int) (wrap64 (x25_1 + 1))) = some r := by first | (rw [hy128]; with_reducible exact H) | (have H2_ := (Option.bind_some _ _).symm.trans H; rw [hy128]; with_reducible exact H2_) | (have H2_ := (Option.bind_some _ _).symm.trans H; with_reducible exact H2_) | with_reducible exact H | (rw [hy128]; exact H) | exact H
                          have Ny128 := Aside0.mk hy128
                          clear hy128
                          have H' := Aside0.mk H
                          clear H
                          try go_wp2
                          have n0_ := Aside0.mk (Kd.R_drew HO_8.out)
                          have n1_ := Aside0.mk (below_drew1 HB.out)
                          clear HO_8
                          clear HB
                          have HO_8 := n0_
                          have HB := n1_
                          clear n0_ n1_
                          have p125 : 0 ≤ (x25_1 : Int) := of_decide_eq_true (by first | (with_reducible assumption) | assumption)
                          have q125 : x25_1 < (l0.length : Int) := of_decide_eq_true (by first | (with_reducible assumption) | assumption)
                          obtain ⟨ad125, e125, hx125_0⟩ := Kd.at_int HR0.out x25_1 p125 q125
                          have hw125_0 := hx125_0
                          cases e125
                          replace hx125_0 := (HB.out.cell (World.block_lt_of_cell? w _ hx125_0)).trans hx125_0
                          replace p125 := eq_true p125
                          replace q125 := eq_true q125
                          have p126 : 0 ≤ (x25_1 : Int) := of_decide_eq_true (by first | (with_reducible assumption) | assumption)
                          have q126 : x25_1 < (l1.length : Int) := of_decide_eq_true (by first | (with_reducible assumption) | assumption)
                          obtain ⟨ad126, e126, hx126_0⟩ := Kd.at_int HR1.out x25_1 p126 q126
                          have hw126_0 := hx126_0
                          cases e126
                          replace hx126_0 := (HB.out.cell (World.block_lt_of_cell? w _ hx126_0)).trans hx126_0
                          replace p126 := eq_true p126
                          replace q126 := eq_true q126
                          have p127 : 0 ≤ (x25_1 : Int) := of_decide_eq_true (by first | (with_reducible assumption) | assumption)
                          have q127 : x25_1 < (l2.length : Int) := of_decide_eq_true (by first | (with_reducible assumption) | assumption)
                          obtain ⟨ad127, e127, hx127_0⟩ := Kd.at_int HR2.out x25_1 p127 q127
                          have hw127_0 := hx127_0
                          cases e127
                          replace hx127_0 := (HB.out.cell (World.block_lt_of_cell? w _ hx127_0)).trans hx127_0
                          replace p127 := eq_true p127
                          replace q127 := eq_true q127
                          have p22 : 0 ≤ (x25_1 : Int) := of_decide_eq_true (by first | (with_reducible assumption) | assumption)
                          have q22 : (x25_1 : Int) < ((x8_1.length : Int) : Int) := of_decide_eq_true (by first | (with_reducible assumption) | assumption)
                          obtain ⟨go22, co22, eo22, gb22, gl22, cl22, HG22⟩ := Kd.R_form HO_8.out (by omega)
                          (first | cases eo22 | (injection eo22 with ea_ en_ ec_; (first | subst ea_ | (injection ea_ with ea_; subst ea_)); subst ec_; clear en_))
                          have GB22 := Aside0.mk gb22
                          have GG22 := Aside0.mk HG22
                          clear gb22 gl22 HG22
                          obtain ⟨hx22_0, hf22_0⟩ := Kd.R_celln 0 HO_8.out (x25_1 : Int) p22 q22
                          replace p22 := eq_true p22
                          replace q22 := eq_true q22
                          have HP24 := Kd.R_putn HO_8.out (x25_1 : Int) (Go.bits .xor .u8 (Go.bits .xor .u8 (rd l0 x25_1) (rd l1 x25_1)) (rd l2 x25_1))
                          rw [← Ny128.out] at HP24
                          have HQ24 := Aside0.mk HP24
                          clear HP24
                          refine start_ (n := 18) (S := fun w' => w'.cell? (ad125.add (x25_1).toNat) = some (.int .u8 (rd l0 x25_1)) ∧ w'.cell? (ad126.add (x25_1).toNat) = some (.int .u8 (rd l1 x25_1)) ∧ w'.cell? (ad127.add (x25_1).toNat) = some (.int .u8 (rd l2 x25_1))) (ds := [17]) #[false, false, false, false, false, false, false, false, false, false, false, false, false, false, false, false, false, false] (by kernel_rfl) rfl rfl ⟨((HB.out.cell (World.block_lt_of_cell? w _ hw125_0)).trans hw125_0), ((HB.out.cell (World.block_lt_of_cell? w _ hw126_0)).trans hw126_0), ((HB.out.cell (World.block_lt_of_cell? w _ hw127_0)).trans hw127_0)⟩ (fun hHeld => ?_); refine with_tabW rollbacknetlaw09_CrcXors.tab10 rollbacknetlaw09_CrcXors.bits10 (fun HT_ HW_ => ?_)
                          generalize wr.drew = w23 at HO_8 HB GG22 HQ24 hf22_0 hx125_0 hx126_0 hx127_0 hx22_0 hHeld ⊢
                          refine pure_ (i := 0) (N := some 28) (v := ?_) (a' := ?_) #[true, false, false, false, false, false, false, false, false, false, false, false, false, false, false, false, false, false] rfl rfl (any_of HT_.out (by kernel_rfl)) (fun _ _ _ h => h) (Or.inl ⟨by rfl, ?_⟩) ?_ ?_
                          rotate_left
                          · intro w'
                            go_simp
                            with_reducible rfl
                          rotate_left
                          · simp only [Act.put, List.setIfInBounds_toArray, List.set_cons_zero, List.set_cons_succ, i64_w, i32_w]
                            rfl
                          refine pure_ (i := 1) (N := some 29) (v := ?_) (a' := ?_) #[true, true, false, false, false, false, false, false, false, false, false, false, false, false, false, false, false, false] rfl rfl (any_of HT_.out (by kernel_rfl)) (fun _ _ _ h => h) (Or.inl ⟨by rfl, ?_⟩) ?_ ?_
                          rotate_left
                          · intro w'
                            go_simp
                            with_reducible rfl
                          rotate_left
                          · simp only [Act.put, List.setIfInBounds_toArray, List.set_cons_zero, List.set_cons_succ, i64_w, i32_w]
                            rfl
                          refine pure_ (i := 2) (N := some 30) (v := ?_) (a' := ?_) #[true, true, true, false, false, false, false, false, false, false, false, false, false, false, false, false, false, false] rfl rfl (any_of HT_.out (by kernel_rfl)) (fun _ _ _ h => h) (Or.inl ⟨by rfl, ?_⟩) ?_ ?_
                          rotate_left
                          · intro w'
                            go_simp
                            with_reducible rfl
                          rotate_left
                          · simp only [Act.put, List.setIfInBounds_toArray, List.set_cons_zero, List.set_cons_succ, i64_w, i32_w]
                            rfl
                          refine pure_ (i := 3) (N := some 31) (v := ?_) (a' := ?_) #[true, true, true, true, false, false, false, false, false, false, false, false, false, false, false, false, false, false] rfl rfl (any_of HT_.out (by kernel_rfl)) (fun _ _ _ h => h) (Or.inl ⟨by rfl, ?_⟩) ?_ ?_
                          rotate_left
                          · intro w'
                            go_simp
                            with_reducible rfl
                          rotate_left
                          · simp only [Act.put, List.setIfInBounds_toArray, List.set_cons_zero, List.set_cons_succ, i64_w, i32_w]
                            rfl
                          refine pure_ (i := 4) (N := some 32) (v := ?_) (a' := ?_) #[true, true, true, true, true, false, false, false, false, false, false, false, false, false, false, false, false, false] rfl rfl (any_of HT_.out (by kernel_rfl)) (fun _ _ _ h => h) (Or.inl ⟨by rfl, ?_⟩) ?_ ?_
                          rotate_left
                          · intro w'
                            go_simp
                            with_reducible rfl
                          rotate_left
                          · simp only [Act.put, List.setIfInBounds_toArray, List.set_cons_zero, List.set_cons_succ, i64_w, i32_w]
                            rfl
                          refine pure_ (i := 6) (N := some 34) (v := ?_) (a' := ?_) #[true, true, true, true, true, false, true, false, false, false, false, false, false, false, false, false, false, false] rfl rfl (any_of HT_.out (by kernel_rfl)) (fun _ _ _ h => h) (Or.inl ⟨by rfl, ?_⟩) ?_ ?_
                          rotate_left
                          · intro w'
                            go_simp
                            with_reducible rfl
                          rotate_left
                          · simp only [Act.put, List.setIfInBounds_toArray, List.set_cons_zero, List.set_cons_succ, i64_w, i32_w]
                            rfl
                          refine pure_ (i := 7) (N := some 35) (v := ?_) (a' := ?_) #[true, true, true, true, true, false, true, true, false, false, false, false, false, false, false, false, false, false] rfl rfl (any_of HT_.out (by kernel_rfl)) (fun _ _ _ h => h) (Or.inl ⟨by rfl, ?_⟩) ?_ ?_
                          rotate_left
                          · intro w'
                            go_simp
                            with_reducible rfl
                          rotate_left
                          · simp only [Act.put, List.setIfInBounds_toArray, List.set_cons_zero, List.set_cons_succ, i64_w, i32_w]
                            rfl
                          refine pure_ (i := 8) (N := some 36) (v := ?_) (a' := ?_) #[true, true, true, true, true, false, true, true, true, false, false, false, false, false, false, false, false, false] rfl rfl (any_of HT_.out (by kernel_rfl)) (fun _ _ _ h => h) (Or.inl ⟨by rfl, ?_⟩) ?_ ?_
                          rotate_left
                          · intro w'
                            go_simp
                            with_reducible rfl
                          rotate_left
                          · simp only [Act.put, List.setIfInBounds_toArray, List.set_cons_zero, List.set_cons_succ, i64_w, i32_w]
                            rfl
                          refine pure_ (i := 11) (N := some 39) (v := ?_) (a' := ?_) #[true, true, true, true, true, false, true, true, true, false, false, true, false, false, false, false, false, false] rfl rfl (any_of HT_.out (by kernel_rfl)) (fun _ _ _ h => h) (Or.inl ⟨by rfl, ?_⟩) ?_ ?_
                          rotate_left
                          · intro w'
                            go_simp
                            with_reducible rfl
                          rotate_left
                          · simp only [Act.put, List.setIfInBounds_toArray, List.set_cons_zero, List.set_cons_succ, i64_w, i32_w]
                            rfl
                          refine pure_ (i := 12) (N := some 40) (v := ?_) (a' := ?_) #[true, true, true, true, true, false, true, true, true, false, false, true, true, false, false, false, false, false] rfl rfl (any_of HT_.out (by kernel_rfl)) (fun _ _ _ h => h) (Or.inl ⟨by rfl, ?_⟩) ?_ ?_
                          rotate_left
                          · intro w'
                            go_simp
                            with_reducible rfl
                          rotate_left
                          · simp only [Act.put, List.setIfInBounds_toArray, List.set_cons_zero, List.set_cons_succ, i64_w, i32_w]
                            rfl
                          refine pure_ (i := 13) (N := some 41) (v := ?_) (a' := ?_) #[true, true, true, true, true, false, true, true, true, false, false, true, true, true, false, false, false, false] rfl rfl (any_of HT_.out (by kernel_rfl)) (fun _ _ _ h => h) (Or.inl ⟨by rfl, ?_⟩) ?_ ?_
                          rotate_left
                          · intro w'
                            go_simp
                            with_reducible rfl
                          rotate_left
                          · simp only [Act.put, List.setIfInBounds_toArray, List.set_cons_zero, List.set_cons_succ, i64_w, i32_w]
                            rfl
                          refine take_ (i := 5) (N := some 33) (v := ?_) (a' := ?_) #[true, true, true, true, true, true, true, true, true, false, false, true, true, true, false, false, false, false] rfl rfl (take_ofW HT_.out HW_.out (by kernel_rfl)) (fun _ _ _ h => h) (Or.inl ⟨by rfl, ?_⟩) hHeld ?_ ?_
                          rotate_left
                          · rintro w' ⟨s0, s1, s2⟩
                            go_simp
                            with_reducible rfl
                          rotate_left
                          · simp only [Act.put, List.setIfInBounds_toArray, List.set_cons_zero, List.set_cons_succ, i64_w, i32_w]
                            rfl
                          refine take_ (i := 9) (N := some 37) (v := ?_) (a' := ?_) #[true, true, true, true, true, true, true, true, true, true, false, true, true, true, false, false, false, false] rfl rfl (take_ofW HT_.out HW_.out (by kernel_rfl)) (fun _ _ _ h => h) (Or.inl ⟨by rfl, ?_⟩) hHeld ?_ ?_
                          rotate_left
                          · rintro w' ⟨s0, s1, s2⟩
                            go_simp
                            with_reducible rfl
                          rotate_left
                          · simp only [Act.put, List.setIfInBounds_toArray, List.set_cons_zero, List.set_cons_succ, i64_w, i32_w]
                            rfl
                          refine pure_ (i := 10) (N := some 38) (v := ?_) (a' := ?_) #[true, true, true, true, true, true, true, true, true, true, true, true, true, true, false, false, false, false] rfl rfl (any_of HT_.out (by kernel_rfl)) (fun _ _ _ h => h) (Or.inl ⟨by rfl, ?_⟩) ?_ ?_
                          rotate_left
                          · intro w'
                            go_simp
                            with_reducible rfl
                          rotate_left
                          · simp only [Act.put, List.setIfInBounds_toArray, List.set_cons_zero, List.set_cons_succ, i64_w, i32_w]
                            rfl
                          refine take_ (i := 14) (N := some 42) (v := ?_) (a' := ?_) #[true, true, true, true, true, true, true, true, true, true, true, true, true, true, true, false, false, false] rfl rfl (take_ofW HT_.out HW_.out (by kernel_rfl)) (fun _ _ _ h => h) (Or.inl ⟨by rfl, ?_⟩) hHeld ?_ ?_
                          rotate_left
                          · rintro w' ⟨s0, s1, s2⟩
                            go_simp
                            with_reducible rfl
                          rotate_left
                          · simp only [Act.put, List.setIfInBounds_toArray, List.set_cons_zero, List.set_cons_succ, i64_w, i32_w]
                            rfl
                          refine pure_ (i := 15) (N := some 43) (v := ?_) (a' := ?_) #[true, true, true, true, true, true, true, true, true, true, true, true, true, true, true, true, false, false] rfl rfl (any_of HT_.out (by kernel_rfl)) (fun _ _ _ h => h) (Or.inl ⟨by rfl, ?_⟩) ?_ ?_
                          rotate_left
                          · intro w'
                            go_simp
                            with_reducible rfl
                          rotate_left
                          · simp only [Act.put, List.setIfInBounds_toArray, List.set_cons_zero, List.set_cons_succ, i64_w, i32_w]
                            rfl
                          refine pure_ (i := 16) (N := some 44) (v := ?_) (a' := ?_) #[true, true, true, true, true, true, true, true, true, true, true, true, true, true, true, true, true, false] rfl rfl (any_of HT_.out (by kernel_rfl)) (fun _ _ _ h => h) (Or.inl ⟨by rfl, ?_⟩) ?_ ?_
                          rotate_left
                          · intro w'
                            go_simp
                            with_reducible rfl
                          rotate_left
                          · simp only [Act.put, List.setIfInBounds_toArray, List.set_cons_zero, List.set_cons_succ, i64_w, i32_w]
                            rfl
                          refine last_ (i := 17) (N := none) #[true, true, true, true, true, true, true, true, true, true, true, true, true, true, true, true, true, true] rfl rfl (one_of HT_.out (by kernel_rfl)) (by decide) (fun K hK => ?_)
                          refine skip_ (w1 := ?_) (by rfl) rfl ?_ ?_
                          rotate_left
                          · go_simp
                            rfl
                          refine hK.out _ _ ?_
                          clear hK K
                          refine done_ (done_of HT_.out (by kernel_rfl)) ?_
                          try go_wp2
                          (try simp only [← hl8_1])
                          go_roundg k1
                          case measure => have := HK1.out; omega
                          case rel => exact ⟨(y128), (wrap64 (x25_1 + 1)), (by first | rfl | (simp; done) | (simp [*]; done)), H', ⟨by have := HK1.out; omega⟩, ⟨by (try simp only [hl8_1]); (with_reducible repeat (first | apply Kd.R_alloc | apply Kd.R_drewN | apply Kd.R_drew)); exact HQ24.out⟩, ⟨by repeat (first | (with_reducible first | exact HB.out | apply below_alloc | apply pw_below_drewN | apply below_drew1 | refine below_set ?_ GB22.out) | exact HB.out)⟩⟩
                        · rw [if_neg c21] at H
                          exact absurd H (by simp)
                      · rw [if_neg c20] at H
                        exact absurd H (by simp)
                    · rw [if_neg c19] at H
                      exact absurd H (by simp)
                  · rw [if_neg c18] at H
                    exact absurd H (by simp)
                · rw [if_neg c17] at H
                  exact absurd H (by simp)
              · rw [if_neg c16] at H
                have c16b0 : decide (x25_1 < (y122.length : Int)) = false := decide_eq_false c16
                (try simp only [hl8_1] at c16b0)
                clear c16
                replace H := Option.bind_eq_some_iff.mp H
                obtain ⟨t129, A250, H⟩ := H
                replace H : (if 0 ≤ ji7 then (if ji7 ≤ (l0.length : Int) then ((crc_Of.f (l0.take (ji7 : Int).toNat)).bind fun t131 => (if ji7 ≤ (l1.length : Int) then ((crc_Of.f (l1.take (ji7 : Int).toNat)).bind fun t133 => (if ji7 ≤ (l2.length : Int) then ((crc_Of.f (l2.take (ji7 : Int).toNat)).bind fun t135 => (some (t129 == (Go.bits .xor .u32 (Go.bits .xor .u32 t131 t133) t135)))) else (none))) else (none))) else (none)) else (none)) = some r := H
                have A25 := Aside0.mk A250
                clear A250
                by_cases c26 : 0 ≤ ji7
                · rw [if_pos c26] at H
                  have c26b0 := eq_true c26
                  have c26b1 : decide (0 ≤ ji7) = true := decide_eq_true c26
                  clear c26
                  by_cases c27 : ji7 ≤ (l0.length : Int)
                  · rw [if_pos c27] at H
                    have c27b0 := eq_true c27
                    have c27b1 : decide (ji7 ≤ (l0.length : Int)) = true := decide_eq_true c27
                    clear c27
                    replace H := Option.bind_eq_some_iff.mp H
                    obtain ⟨t131, A280, H⟩ := H
                    replace H : (if ji7 ≤ (l1.length : Int) then ((crc_Of.f (l1.take (ji7 : Int).toNat)).bind fun t133 => (if ji7 ≤ (l2.length : Int) then ((crc_Of.f (l2.take (ji7 : Int).toNat)).bind fun t135 => (some (t129 == (Go.bits .xor .u32 (Go.bits .xor .u32 t131 t133) t135)))) else (none))) else (none)) = some r := H
                    have A28 := Aside0.mk A280
                    clear A280
                    have c29b0 := eq_true (of_decide_eq_true (by first | (with_reducible assumption) | assumption) : 0 ≤ ji7)
                    by_cases c30 : ji7 ≤ (l1.length : Int)
                    · rw [if_pos c30] at H
                      have c30b0 := eq_true c30
                      have c30b1 : decide (ji7 ≤ (l1.length : Int)) = true := decide_eq_true c30
                      clear c30
                      replace H := Option.bind_eq_some_iff.mp H
                      obtain ⟨t133, A310, H⟩ := H
                      replace H : (if ji7 ≤ (l2.length : Int) then ((crc_Of.f (l2.take (ji7 : Int).toNat)).bind fun t135 => (some (t129 == (Go.bits .xor .u32 (Go.bits .xor .u32 t131 t133) t135)))) else (none)) = some r := H
                      have A31 := Aside0.mk A310
                      clear A310
                      have c32b0 := eq_true (of_decide_eq_true (by first | (with_reducible assumption) | assumption) : 0 ≤ ji7)
                      by_cases c33 : ji7 ≤ (l2.length : Int)
                      · rw [if_pos c33] at H
                        have c33b0 := eq_true c33
                        have c33b1 : decide (ji7 ≤ (l2.length : Int)) = true := decide_eq_true c33
                        clear c33
                        replace H := Option.bind_eq_some_iff.mp H
                        obtain ⟨t135, A340, H⟩ := H
                        replace H : (some (t129 == (Go.bits .xor .u32 (Go.bits .xor .u32 t131 t133) t135))) = some r := H
                        have A34 := Aside0.mk A340
                        clear A340
                        obtain rfl := Option.some.inj H
                        try go_wp2
                        have n0_ := Aside0.mk (Kd.R_drew HO_8.out)
                        have n1_ := Aside0.mk (below_drew1 HB.out)
                        clear HO_8
                        clear HB
                        have HO_8 := n0_
                        have HB := n1_
                        clear n0_ n1_
                        obtain ⟨i036, hi036, _, hsz36, _⟩ := info_parts info5
                        obtain ⟨hcut36, hA36, hC36⟩ := print_take_of (P := Try.prog) (Value.int .u8) 0 23 5 .i64 Try.underlying23 hi036 hsz36 A0 c0 l0 ji7 (of_decide_eq_true (by first | (with_reducible assumption) | assumption)) (of_decide_eq_true (by first | (with_reducible assumption) | assumption)) HC0.out
                        have HR130 := Aside0.mk (Kd.C_of_reads (h1 := fun _ => rfl) (hA36 _ (Kd.reads_of_C HR0.out)))
                        have HC130 := Aside0.mk hC36
                        clear hA36 hC36 hi036 hsz36
                        obtain ⟨i037, hi037, _, hsz37, _⟩ := info_parts info5
                        obtain ⟨hcut37, hA37, hC37⟩ := print_take_of (P := Try.prog) (Value.int .u8) 0 23 5 .i64 Try.underlying23 hi037 hsz37 A1 c1 l1 ji7 (of_decide_eq_true (by first | (with_reducible assumption) | assumption)) (of_decide_eq_true (by first | (with_reducible assumption) | assumption)) HC1.out
                        have HR132 := Aside0.mk (Kd.C_of_reads (h1 := fun _ => rfl) (hA37 _ (Kd.reads_of_C HR1.out)))
                        have HC132 := Aside0.mk hC37
                        clear hA37 hC37 hi037 hsz37
                        obtain ⟨i038, hi038, _, hsz38, _⟩ := info_parts info5
                        obtain ⟨hcut38, hA38, hC38⟩ := print_take_of (P := Try.prog) (Value.int .u8) 0 23 5 .i64 Try.underlying23 hi038 hsz38 A2 c2 l2 ji7 (of_decide_eq_true (by first | (with_reducible assumption) | assumption)) (of_decide_eq_true (by first | (with_reducible assumption) | assumption)) HC2.out
                        have HR134 := Aside0.mk (Kd.C_of_reads (h1 := fun _ => rfl) (hA38 _ (Kd.reads_of_C HR2.out)))
                        have HC134 := Aside0.mk hC38
                        clear hA38 hC38 hi038 hsz38
                        refine start_ (n := 18) (S := fun w' => True) (ds := []) #[false, false, false, false, false, false, false, false, false, false, false, false, false, false, false, false, false, false] (by kernel_rfl) rfl rfl trivial (fun hHeld => ?_); refine with_tabW rollbacknetlaw09_CrcXors.tab12 rollbacknetlaw09_CrcXors.bits12 (fun HT_ HW_ => ?_)
                        generalize wr.drew = w35 at HO_8 HB HR130 HR132 HR134 hHeld ⊢
                        refine pure_ (i := 0) (N := some 46) (v := ?_) (a' := ?_) #[true, false, false, false, false, false, false, false, false, false, false, false, false, false, false, false, false, false] rfl rfl (any_of HT_.out (by kernel_rfl)) (fun _ _ _ h => h) (Or.inl ⟨by rfl, ?_⟩) ?_ ?_
                        rotate_left
                        · intro w'
                          go_simp
                          with_reducible rfl
                        rotate_left
                        · simp only [Act.put, List.setIfInBounds_toArray, List.set_cons_zero, List.set_cons_succ, i64_w, i32_w]
                          rfl
                        refine pure_ (i := 2) (N := some 48) (v := ?_) (a' := ?_) #[true, false, true, false, false, false, false, false, false, false, false, false, false, false, false, false, false, false] rfl rfl (any_of HT_.out (by kernel_rfl)) (fun _ _ _ h => h) (Or.inl ⟨by rfl, ?_⟩) ?_ ?_
                        rotate_left
                        · intro w'
                          go_simp
                          with_reducible rfl
                        rotate_left
                        · simp only [Act.put, List.setIfInBounds_toArray, List.set_cons_zero, List.set_cons_succ, i64_w, i32_w]
                          rfl
                        refine pure_ (i := 3) (N := some 49) (v := ?_) (a' := ?_) #[true, false, true, true, false, false, false, false, false, false, false, false, false, false, false, false, false, false] rfl rfl (any_of HT_.out (by kernel_rfl)) (fun _ _ _ h => h) (Or.inl ⟨by rfl, ?_⟩) ?_ ?_
                        rotate_left
                        · intro w'
                          go_simp
                          with_reducible rfl
                        rotate_left
                        · simp only [Act.put, List.setIfInBounds_toArray, List.set_cons_zero, List.set_cons_succ, i64_w, i32_w]
                          rfl
                        refine pure_ (i := 4) (N := some 50) (v := ?_) (a' := ?_) #[true, false, true, true, true, false, false, false, false, false, false, false, false, false, false, false, false, false] rfl rfl (any_of HT_.out (by kernel_rfl)) (fun _ _ _ h => h) (Or.inl ⟨by rfl, ?_⟩) ?_ ?_
                        rotate_left
                        · intro w'
                          go_simp
                          with_reducible rfl
                        rotate_left
                        · simp only [Act.put, List.setIfInBounds_toArray, List.set_cons_zero, List.set_cons_succ, i64_w, i32_w]
                          rfl
                        refine pure_ (i := 6) (N := some 52) (v := ?_) (a' := ?_) #[true, false, true, true, true, false, true, false, false, false, false, false, false, false, false, false, false, false] rfl rfl (any_of HT_.out (by kernel_rfl)) (fun _ _ _ h => h) (Or.inl ⟨by rfl, ?_⟩) ?_ ?_
                        rotate_left
                        · intro w'
                          go_simp
                          with_reducible rfl
                        rotate_left
                        · simp only [Act.put, List.setIfInBounds_toArray, List.set_cons_zero, List.set_cons_succ, i64_w, i32_w]
                          rfl
                        refine pure_ (i := 7) (N := some 53) (v := ?_) (a' := ?_) #[true, false, true, true, true, false, true, true, false, false, false, false, false, false, false, false, false, false] rfl rfl (any_of HT_.out (by kernel_rfl)) (fun _ _ _ h => h) (Or.inl ⟨by rfl, ?_⟩) ?_ ?_
                        rotate_left
                        · intro w'
                          go_simp
                          with_reducible rfl
                        rotate_left
                        · simp only [Act.put, List.setIfInBounds_toArray, List.set_cons_zero, List.set_cons_succ, i64_w, i32_w]
                          rfl
                        refine pure_ (i := 8) (N := some 54) (v := ?_) (a' := ?_) #[true, false, true, true, true, false, true, true, true, false, false, false, false, false, false, false, false, false] rfl rfl (any_of HT_.out (by kernel_rfl)) (fun _ _ _ h => h) (Or.inl ⟨by rfl, ?_⟩) ?_ ?_
                        rotate_left
                        · intro w'
                          go_simp
                          with_reducible rfl
                        rotate_left
                        · simp only [Act.put, List.setIfInBounds_toArray, List.set_cons_zero, List.set_cons_succ, i64_w, i32_w]
                          rfl
                        refine pure_ (i := 11) (N := some 57) (v := ?_) (a' := ?_) #[true, false, true, true, true, false, true, true, true, false, false, true, false, false, false, false, false, false] rfl rfl (any_of HT_.out (by kernel_rfl)) (fun _ _ _ h => h) (Or.inl ⟨by rfl, ?_⟩) ?_ ?_
                        rotate_left
                        · intro w'
                          go_simp
                          with_reducible rfl
                        rotate_left
                        · simp only [Act.put, List.setIfInBounds_toArray, List.set_cons_zero, List.set_cons_succ, i64_w, i32_w]
                          rfl
                        refine pure_ (i := 12) (N := some 58) (v := ?_) (a' := ?_) #[true, false, true, true, true, false, true, true, true, false, false, true, true, false, false, false, false, false] rfl rfl (any_of HT_.out (by kernel_rfl)) (fun _ _ _ h => h) (Or.inl ⟨by rfl, ?_⟩) ?_ ?_
                        rotate_left
                        · intro w'
                          go_simp
                          with_reducible rfl
                        rotate_left
                        · simp only [Act.put, List.setIfInBounds_toArray, List.set_cons_zero, List.set_cons_succ, i64_w, i32_w]
                          rfl
                        refine pure_ (i := 13) (N := some 59) (v := ?_) (a' := ?_) #[true, false, true, true, true, false, true, true, true, false, false, true, true, true, false, false, false, false] rfl rfl (any_of HT_.out (by kernel_rfl)) (fun _ _ _ h => h) (Or.inl ⟨by rfl, ?_⟩) ?_ ?_
                        rotate_left
                        · intro w'
                          go_simp
                          with_reducible rfl
                        rotate_left
                        · simp only [Act.put, List.setIfInBounds_toArray, List.set_cons_zero, List.set_cons_succ, i64_w, i32_w]
                          rfl
                        refine one_ (i := 1) (N := some 47) #[true, true, true, true, true, false, true, true, true, false, false, true, true, true, false, false, false, false] rfl rfl (one_of HT_.out (by kernel_rfl)) (by decide) (fun K hK => ?_)
                        refine goes_ Try.func23 (by kernel_rfl) rfl #[.slice Ao15 x8_1.length co15] (by rfl) rfl rfl (by (try simp only [List.map_toArray, List.map_cons, List.map_nil]); first | done | rfl | (simp only [List.length_drop, List.length_take]; rfl)) ?_
                        with_reducible refine (crc_Of.calls _ _ x8_1 t129 _ ?side1 ?side2 A25.out).mono ?_
                        (case side1 => repeat (first | exact (Kd.R_reads' HO_8.out).2.2 | (with_reducible refine Kd.C_alloc ?_ _) | (with_reducible refine Kd.C_drewN ?_ _) | (with_reducible refine Kd.C_drew ?_)))
                        (case side2 => exact (Kd.R_reads' HO_8.out).2.1)
                        rintro e w39 ⟨rfl, hb⟩
                        refine ⟨_, rfl, ?_⟩
                        have n0_ := Aside0.mk (Kd.R_below (by (with_reducible repeat (first | apply Kd.R_alloc | apply Kd.R_drewN | apply Kd.R_drew)); exact HO_8.out) hb)
                        have n1_ := Aside0.mk (below_step (by repeat (first | (with_reducible first | exact HB.out | apply below_alloc | apply pw_below_drewN | apply below_drew1) | exact HB.out)) hb)
                        clear HO_8
                        clear HB
                        have HO_8 := n0_
                        have HB := n1_
                        clear n0_ n1_
                        (try clear hb)
                        (try clear hb2)
                        (try clear hk)
                        (try clear hi)
                        refine hK.out _ _ trivial (fun hHeld => ?_)
                        clear hK K
                        refine norm_ (a' := ?_) ?_ ?_
                        rotate_left
                        · show Act.put _ (some 47) _ = _
                          simp only [Act.put, List.setIfInBounds_toArray, List.set_cons_zero, List.set_cons_succ, i64_w, i32_w]
                          rfl
                        refine one_ (i := 5) (N := some 51) #[true, true, true, true, true, true, true, true, true, false, false, true, true, true, false, false, false, false] rfl rfl (one_of HT_.out (by kernel_rfl)) (by decide) (fun K hK => ?_)
                        refine goes_ Try.func23 (by kernel_rfl) rfl #[.slice A0 (l0.take (ji7 : Int).toNat).length c0] (by rfl) rfl rfl (by (try simp only [List.map_toArray, List.map_cons, List.map_nil]); first | done | (rw [show (l0.take (ji7 : Int).toNat).length = ji7.toNat from (by rw [List.length_take]; have h_ : (ji7 : Int) ≤ (l0.length : Int) := of_decide_eq_true (by first | (with_reducible assumption) | assumption); omega)] <;> rfl) | (simp only [hji7]; rfl) | rfl | (simp only [List.length_drop, List.length_take]; rfl)) ?_
                        with_reducible refine (crc_Of.calls _ _ (l0.take (ji7 : Int).toNat) t131 _ ?side1 ?side2 A28.out).mono ?_
                        (case side1 => repeat (first | exact (Kd.C_below HR130.out HB.out) | (with_reducible refine Kd.C_alloc ?_ _) | (with_reducible refine Kd.C_drewN ?_ _) | (with_reducible refine Kd.C_drew ?_)))
                        (case side2 => exact HC130.out)
                        rintro e w40 ⟨rfl, hb⟩
                        refine ⟨_, rfl, ?_⟩
                        have n0_ := Aside0.mk (Kd.R_below (by (with_reducible repeat (first | apply Kd.R_alloc | apply Kd.R_drewN | apply Kd.R_drew)); exact HO_8.out) hb)
                        have n1_ := Aside0.mk (below_step (by repeat (first | (with_reducible first | exact HB.out | apply below_alloc | apply pw_below_drewN | apply below_drew1) | exact HB.out)) hb)
                        clear HO_8
                        clear HB
                        have HO_8 := n0_
                        have HB := n1_
                        clear n0_ n1_
                        (try clear hb)
                        (try clear hb2)
                        (try clear hk)
                        (try clear hi)
                        refine hK.out _ _ trivial (fun hHeld => ?_)
                        clear hK K
                        refine norm_ (a' := ?_) ?_ ?_
                        rotate_left
                        · show Act.put _ (some 51) _ = _
                          simp only [Act.put, List.setIfInBounds_toArray, List.set_cons_zero, List.set_cons_succ, i64_w, i32_w]
                          rfl
                        refine one_ (i := 9) (N := some 55) #[true, true, true, true, true, true, true, true, true, true, false, true, true, true, false, false, false, false] rfl rfl (one_of HT_.out (by kernel_rfl)) (by decide) (fun K hK => ?_)
                        refine goes_ Try.func23 (by kernel_rfl) rfl #[.slice A1 (l1.take (ji7 : Int).toNat).length c1] (by rfl) rfl rfl (by (try simp only [List.map_toArray, List.map_cons, List.map_nil]); first | done | (rw [show (l1.take (ji7 : Int).toNat).length = ji7.toNat from (by rw [List.length_take]; have h_ : (ji7 : Int) ≤ (l1.length : Int) := of_decide_eq_true (by first | (with_reducible assumption) | assumption); omega)] <;> rfl) | (simp only [hji7]; rfl) | rfl | (simp only [List.length_drop, List.length_take]; rfl)) ?_
                        with_reducible refine (crc_Of.calls _ _ (l1.take (ji7 : Int).toNat) t133 _ ?side1 ?side2 A31.out).mono ?_
                        (case side1 => repeat (first | exact (Kd.C_below HR132.out HB.out) | (with_reducible refine Kd.C_alloc ?_ _) | (with_reducible refine Kd.C_drewN ?_ _) | (with_reducible refine Kd.C_drew ?_)))
                        (case side2 => exact HC132.out)
                        rintro e w41 ⟨rfl, hb⟩
                        refine ⟨_, rfl, ?_⟩
                        have n0_ := Aside0.mk (Kd.R_below (by (with_reducible repeat (first | apply Kd.R_alloc | apply Kd.R_drewN | apply Kd.R_drew)); exact HO_8.out) hb)
                        have n1_ := Aside0.mk (below_step (by repeat (first | (with_reducible first | exact HB.out | apply below_alloc | apply pw_below_drewN | apply below_drew1) | exact HB.out)) hb)
                        clear HO_8
                        clear HB
                        have HO_8 := n0_
                        have HB := n1_
                        clear n0_ n1_
                        (try clear hb)
                        (try clear hb2)
                        (try clear hk)
                        (try clear hi)
                        refine hK.out _ _ trivial (fun hHeld => ?_)
                        clear hK K
                        refine norm_ (a' := ?_) ?_ ?_
                        rotate_left
                        · show Act.put _ (some 55) _ = _
                          simp only [Act.put, List.setIfInBounds_toArray, List.set_cons_zero, List.set_cons_succ, i64_w, i32_w]
                          rfl
                        refine pure_ (i := 10) (N := some 56) (v := ?_) (a' := ?_) #[true, true, true, true, true, true, true, true, true, true, true, true, true, true, false, false, false, false] rfl rfl (any_of HT_.out (by kernel_rfl)) (fun _ _ _ h => h) (Or.inl ⟨by rfl, ?_⟩) ?_ ?_
                        rotate_left
                        · intro w'
                          go_simp
                          with_reducible rfl
                        rotate_left
                        · simp only [Act.put, List.setIfInBounds_toArray, List.set_cons_zero, List.set_cons_succ, i64_w, i32_w]
                          rfl
                        refine one_ (i := 14) (N := some 60) #[true, true, true, true, true, true, true, true, true, true, true, true, true, true, true, false, false, false] rfl rfl (one_of HT_.out (by kernel_rfl)) (by decide) (fun K hK => ?_)
                        refine goes_ Try.func23 (by kernel_rfl) rfl #[.slice A2 (l2.take (ji7 : Int).toNat).length c2] (by rfl) rfl rfl (by (try simp only [List.map_toArray, List.map_cons, List.map_nil]); first | done | (rw [show (l2.take (ji7 : Int).toNat).length = ji7.toNat from (by rw [List.length_take]; have h_ : (ji7 : Int) ≤ (l2.length : Int) := of_decide_eq_true (by first | (with_reducible assumption) | assumption); omega)] <;> rfl) | (simp only [hji7]; rfl) | rfl | (simp only [List.length_drop, List.length_take]; rfl)) ?_
                        with_reducible refine (crc_Of.calls _ _ (l2.take (ji7 : Int).toNat) t135 _ ?side1 ?side2 A34.out).mono ?_
                        (case side1 => repeat (first | exact (Kd.C_below HR134.out HB.out) | (with_reducible refine Kd.C_alloc ?_ _) | (with_reducible refine Kd.C_drewN ?_ _) | (with_reducible refine Kd.C_drew ?_)))
                        (case side2 => exact HC134.out)
                        rintro e w42 ⟨rfl, hb⟩
                        refine ⟨_, rfl, ?_⟩
                        have n0_ := Aside0.mk (Kd.R_below (by (with_reducible repeat (first | apply Kd.R_alloc | apply Kd.R_drewN | apply Kd.R_drew)); exact HO_8.out) hb)
                        have n1_ := Aside0.mk (below_step (by repeat (first | (with_reducible first | exact HB.out | apply below_alloc | apply pw_below_drewN | apply below_drew1) | exact HB.out)) hb)
                        clear HO_8
                        clear HB
                        have HO_8 := n0_
                        have HB := n1_
                        clear n0_ n1_
                        (try clear hb)
                        (try clear hb2)
                        (try clear hk)
                        (try clear hi)
                        refine hK.out _ _ trivial (fun hHeld => ?_)
                        clear hK K
                        refine norm_ (a' := ?_) ?_ ?_
                        rotate_left
                        · show Act.put _ (some 60) _ = _
                          simp only [Act.put, List.setIfInBounds_toArray, List.set_cons_zero, List.set_cons_succ, i64_w, i32_w]
                          rfl
                        refine pure_ (i := 15) (N := some 61) (v := ?_) (a' := ?_) #[true, true, true, true, true, true, true, true, true, true, true, true, true, true, true, true, false, false] rfl rfl (any_of HT_.out (by kernel_rfl)) (fun _ _ _ h => h) (Or.inl ⟨by rfl, ?_⟩) ?_ ?_
                        rotate_left
                        · intro w'
                          go_simp
                          with_reducible rfl
                        rotate_left
                        · simp only [Act.put, List.setIfInBounds_toArray, List.set_cons_zero, List.set_cons_succ, i64_w, i32_w]
                          rfl
                        refine pure_ (i := 16) (N := some 62) (v := ?_) (a' := ?_) #[true, true, true, true, true, true, true, true, true, true, true, true, true, true, true, true, true, false] rfl rfl (any_of HT_.out (by kernel_rfl)) (fun _ _ _ h => h) (Or.inl ⟨by rfl, ?_⟩) ?_ ?_
                        rotate_left
                        · intro w'
                          go_simp
                          with_reducible rfl
                        rotate_left
                        · simp only [Act.put, List.setIfInBounds_toArray, List.set_cons_zero, List.set_cons_succ, i64_w, i32_w]
                          rfl
                        refine pure_ (i := 17) (N := some 6) (v := ?_) (a' := ?_) #[true, true, true, true, true, true, true, true, true, true, true, true, true, true, true, true, true, true] rfl rfl (any_of HT_.out (by kernel_rfl)) (fun _ _ _ h => h) (Or.inl ⟨by rfl, ?_⟩) ?_ ?_
                        rotate_left
                        · intro w'
                          go_simp
                          with_reducible rfl
                        rotate_left
                        · simp only [Act.put, List.setIfInBounds_toArray, List.set_cons_zero, List.set_cons_succ, i64_w, i32_w]
                          rfl
                        refine done_ (done_of HT_.out (by kernel_rfl)) ?_
                        try go_wp2
                        go_ret
                        exact ⟨by first | rfl | (simp [errW_none, errW_some] <;> rfl) | (simp only [← hji6, ← hji7]; first | rfl | (simp [errW_none, errW_some] <;> rfl)) | (simp [*, errW_none, errW_some] <;> rfl), by repeat (first | (with_reducible first | exact HB.out | apply below_alloc | apply pw_below_drewN | apply below_drew1) | exact HB.out)⟩
                      · rw [if_neg c33] at H
                        exact absurd H (by simp)
                    · rw [if_neg c30] at H
                      exact absurd H (by simp)
                  · rw [if_neg c27] at H
                    exact absurd H (by simp)
                · rw [if_neg c26] at H
                  exact absurd H (by simp)
        · rw [if_neg c11] at H
          exact absurd H (by simp)
      · rw [if_neg c10] at H
        exact absurd H (by simp)
  · replace c5 := Bool.eq_false_iff.mpr c5
    subst c5
    have H1 : (some false) = some r := by rw [if_neg (show ¬ (false = true) by decide)] at H; exact H
    clear H
    have H := H1
    clear H1
    obtain rfl := Option.some.inj H
    go_enter Try.func7, Try.ntmps7
    go_wp2_with (first | ((with_reducible refine gate_callee (f := 22) rfl ?_); refine goesL_ (some 10) rfl rfl Try.func22 (by kernel_rfl) rfl #[] rfl (by (try simp only [List.map_toArray, List.map_cons, List.map_nil]); first | done | rfl | (simp only [List.length_drop, List.length_take]; rfl)) ?_; (with_reducible refine (rollbacknetlaw09_awake.calls  false _ A4.out).mono ?_); rintro e w43 ⟨rfl, hb⟩; refine ⟨_, rfl, ?_⟩; have n0_ := Aside0.mk (below_step (by repeat (first | (with_reducible first | exact HB.out | apply below_alloc | apply pw_below_drewN | apply below_drew1) | exact HB.out)) hb); clear HB; have HB := n0_; clear n0_; (try clear hb); (try clear hb2); (try clear hk); (try clear hi)))
    go_ret
    exact ⟨by first | rfl | (simp [errW_none, errW_some] <;> rfl) | (simp [*, errW_none, errW_some] <;> rfl), by repeat (first | (with_reducible first | exact HB.out | apply below_alloc | apply pw_below_drewN | apply below_drew1) | exact HB.out)⟩

end Go.Proofs.Ytpcfgpghfegjkaa.PCr
