-- Laid by wip/tools/xprint.py, a program of this session over the kit's print: functions as Lean functions, each with its contract.
import Derived.Test.YtkjnledamamniaaPImx0
namespace Go.Proofs.Ytkjnledamamniaa.PIm
open Go.RowKit Go.Proofs.YtkjnledamamniaaW.PrintWords Go.Proofs.YtkjnledamamniaaW.PrintLast Go.Proofs.YtkjnledamamniaaW.PrintMore
attribute [local go_sem] max2_int min2_int max_two min_two max_three min_three max_four min_four   -- for this text's walks alone
set_option linter.unusedVariables false
set_option linter.unusedSimpArgs false

/-! ### image_page: function 26 -/
def image_page.f (l0 : List Int) (a1 : Int) : Option (List Int) := if 0 ≤ (wrap64 (a1 * 4)) then (if (wrap64 (a1 * 4)) ≤ (mn (wrap64 ((wrap64 (a1 * 4)) + 4)) (l0.length : Int)) then (if (mn (wrap64 ((wrap64 (a1 * 4)) + 4)) (l0.length : Int)) ≤ (l0.length : Int) then (some ((l0.take ((mn (wrap64 ((wrap64 (a1 * 4)) + 4)) (l0.length : Int)) : Int).toNat).drop ((wrap64 (a1 * 4)) : Int).toNat)) else (none)) else (none)) else (none)
set_option maxHeartbeats 8000000 in
set_option maxRecDepth 100000 in
theorem image_page.calls (P0_ : Nat → Prop) (A0 : Option Addr) (c0 : Nat) (l0 : List Int) (a1 : Int) (r : List Int) (w : World) (hs0 : Kd.V (Kd.int .i64) 3 w w.heap.size (fun k_ => P0_ k_) (.slice A0 l0.length c0) l0) (h : image_page.f l0 a1 = some r) :
  Calls Try.prog 26 #[.slice A0 l0.length c0, .int .i64 a1] w fun e w' => ∃ v0_ : Value, e = .returned (v0_) ∧ Kd.V (Kd.int .i64) 3 w' w.heap.size (fun k_ => (P0_ k_ ∨ w.heap.size ≤ k_)) v0_ r ∧ Below w.heap.size w w' := by
 have HO0 := aM (show Kd.V (Kd.int .i64) 3 w w.heap.size (fun k_ => (P0_ k_ ∨ w.heap.size ≤ k_)) (.slice A0 l0.length c0) l0 from Kd.V_mono hs0 (fun k_ hk => .inl hk))
 have HB := aM (Below.refl w.heap.size w)
 have H : (if 0 ≤ (wrap64 (a1 * 4)) then (if (wrap64 (a1 * 4)) ≤ (mn (wrap64 ((wrap64 (a1 * 4)) + 4)) (l0.length : Int)) then (if (mn (wrap64 ((wrap64 (a1 * 4)) + 4)) (l0.length : Int)) ≤ (l0.length : Int) then (some ((l0.take ((mn (wrap64 ((wrap64 (a1 * 4)) + 4)) (l0.length : Int)) : Int).toNat).drop ((wrap64 (a1 * 4)) : Int).toNat)) else (none)) else (none)) else (none)) = some r := h
 clear h
 obtain ⟨ji3, hji3⟩ : ∃ j_ : Int, (mn (wrap64 ((wrap64 (a1 * 4)) + 4)) (l0.length : Int)) = j_ := ⟨_, rfl⟩
 replace H : (if 0 ≤ (wrap64 (a1 * 4)) then (if (wrap64 (a1 * 4)) ≤ (ji3) then (if (ji3) ≤ (l0.length : Int) then (some ((l0.take ((ji3) : Int).toNat).drop ((wrap64 (a1 * 4)) : Int).toNat)) else (none)) else (none)) else (none)) = some r := by first | (rw [hji3] at H; exact H) | (simp only [hji3] at H ⊢; exact H)
 have hji3_ : (if (l0.length : Int) < (wrap64 ((wrap64 (a1 * 4)) + 4)) then (l0.length : Int) else (wrap64 ((wrap64 (a1 * 4)) + 4))) = ji3 := hji3
 obtain ⟨ji4, hji4⟩ : ∃ j_ : Int, (wrap64 (a1 * 4)) = j_ := ⟨_, rfl⟩
 (try rw [hji4] at hji3_)
 replace H : (if 0 ≤ (ji4) then (if (ji4) ≤ (ji3) then (if (ji3) ≤ (l0.length : Int) then (some ((l0.take ((ji3) : Int).toNat).drop ((ji4) : Int).toNat)) else (none)) else (none)) else (none)) = some r := by first | (rw [hji4] at H; exact H) | (simp only [hji4] at H ⊢; exact H)
 have hji4w : (IntKind.i64.wrap (a1 * 4)) = ji4 := (i64_w _).trans hji4
 by_cases c5 : 0 ≤ (ji4)
 ·rw [if_pos c5] at H
  have c5b0 := eq_true c5
  have c5b1 : decide (0 ≤ (ji4)) = true := decide_eq_true c5
  clear c5
  by_cases c6 : (ji4) ≤ (ji3)
  ·rw [if_pos c6] at H
   have c6b0 := eq_true c6
   have c6b1 : decide ((ji4) ≤ (ji3)) = true := decide_eq_true c6
   clear c6
   by_cases c7 : (ji3) ≤ (l0.length : Int)
   ·rw [if_pos c7] at H
    have c7b0 := eq_true c7
    have c7b1 : decide ((ji3) ≤ (l0.length : Int)) = true := decide_eq_true c7
    clear c7
    obtain ⟨y103, hy103⟩ : ∃ y_ : List Int, y_ = ((l0.take ((ji3) : Int).toNat).drop ((ji4) : Int).toNat) := ⟨_, rfl⟩
    replace H : (some y103) = some r := by first | (rw [hy103]; with_reducible exact H) | (have H2_ := (Option.bind_some _ _).symm.trans H; rw [hy103]; with_reducible exact H2_) | (have H2_ := (Option.bind_some _ _).symm.trans H; with_reducible exact H2_) | with_reducible exact H | (rw [hy103]; exact H) | exact H
    have Ny103 := aM hy103
    clear hy103
    obtain rfl := Option.some.inj H
    have q8 : ((ji3) : Int) ≤ ((l0.length : Int) : Int) := of_decide_eq_true (by first | (with_reducible assumption) | assumption)
    obtain ⟨i08, hi08, _, hsz8, _⟩ := info_parts info3
    have hroom8 : l0.length ≤ c0 := (Kd.V_reads' HO0.out).2.1
    have hC8 : Kd.F (Kd.int .i64) _ _ A0 l0.length l0 := (Kd.V_at (base := w.heap.size) HO0.out).2.2
    have ql8 : ((ji4) : Int) ≤ ((ji3) : Int) := of_decide_eq_true (by first | (with_reducible assumption) | assumption)
    have q08 : (0 : Int) ≤ ((ji4) : Int) := of_decide_eq_true (by first | (with_reducible assumption) | assumption)
    have hcut8 := cut_mid3 (P := Try.prog) 22 3 .i64 .i64 .i64 Try.underlying22 hi08 1 hsz8 A0 l0.length c0 (ji4) (ji3) q08 ql8 q8 hroom8
    have hr8 := Kd.F_mid3 (lo := ((ji4) : Int).toNat) (hi := ((ji3) : Int).toNat) hC8 (by omega) (by omega)
    obtain ⟨A8, hA8⟩ : ∃ A1, A1 = (if (((ji3) : Int).toNat) = ((ji4) : Int).toNat then A0 else (A0 : Option Addr).map (·.add (((ji4) : Int).toNat * 1))) := ⟨_, rfl⟩
    obtain ⟨c8, hc8⟩ : ∃ c1, c1 = (((ji3) : Int).toNat) - ((ji4) : Int).toNat := ⟨_, rfl⟩
    have hy8 : y103.length = ((ji3) : Int).toNat - ((ji4) : Int).toNat := (by rw [Ny103.out, List.length_drop, List.length_take] <;> omega)
    rw [show ((l0).take ((ji3) : Int).toNat).drop ((ji4) : Int).toNat = y103 from Ny103.out.symm] at hr8
    replace hr8 : Kd.F (Kd.int .i64) _ _ A8 y103.length y103 := (by rw [hA8]; exact hr8)
    replace hcut8 := cut_as3 hcut8 hA8 hy8 hc8
    have HO107 := aM (show Kd.V (Kd.int .i64) 3 _ w.heap.size _ (.slice A8 y103.length c8) y103 from Kd.V_mk (by rw [hy8, hc8]; exact Nat.sub_le_sub_right (Nat.le_refl _) _) hr8)
    have HC107 := aM (show y103.length ≤ c8 from by rw [hy8, hc8]; exact Nat.sub_le_sub_right (Nat.le_refl _) _)
    clear hr8 hC8 hroom8 hi08 hsz8 hc8
    have KY8 := aM hy8
    have KA8 := aM hA8
    clear hy8 hA8
    replace q8 := eq_true q8
    go_enter Try.func26, Try.ntmps26
    go_wp2
    go_ret
    exact ⟨_, by first | rfl | (simp [errW_none, errW_some] <;> rfl) | (simp only [← hji3, ← hji4]; first | rfl | (simp [errW_none, errW_some] <;> rfl)) | (simp [*, errW_none, errW_some] <;> rfl), by (with_reducible repeat (first | apply Kd.V_alloc | apply Kd.V_drewN | apply Kd.V_drew)); exact HO107.out, by repeat (first | (with_reducible first | exact HB.out | apply wA | apply wN | apply wD) | exact HB.out)⟩
   ·rw [if_neg c7] at H
    exact absurd H (by simp)
  ·rw [if_neg c6] at H
   exact absurd H (by simp)
 ·rw [if_neg c5] at H
  exact absurd H (by simp)

/-! ### slices_Clone_int_int: function 27, by hand -/
def slices_Clone_int_int.f (l0 : List Int) : Option (List Int) := if l0.length < 17592186044416 then some l0 else none
set_option maxHeartbeats 4000000 in
set_option maxRecDepth 100000 in
theorem slices_Clone_int_int.calls (A0 : Option Addr) (c0 : Nat) (l0 : List Int) (r : List Int) (w : World) (hr0 : Kd.C (Kd.int .i64) w A0 l0.length l0) (hc0 : l0.length ≤ c0) (h : slices_Clone_int_int.f l0 = some r) :
    Calls Try.prog 27 #[.slice A0 l0.length c0] w fun e w' => ∃ v0_ : Value, e = .returned (v0_) ∧ Kd.R (Kd.int .i64) 3 w' w.heap.size (fun _ => True) v0_ r ∧ Below w.heap.size w w' := by
  have hnil := fun W n c => Lib.run_eql_slice_nil (P := Try.prog) W 22 3 A0 n c 0 0 Try.underlying22
  unfold slices_Clone_int_int.f at h
  by_cases hlim : l0.length < 17592186044416
  · rw [if_pos hlim] at h
    obtain rfl := Option.some.inj h
    clear h
    cases A0 with
    | none =>
      have hz : l0 = [] := by
        cases l0 with
        | nil => rfl
        | cons x xs => obtain ⟨ad, e, _⟩ := hr0.2.2 (by simp); cases e
      subst hz
      clear hr0
      go_enter Try.func27, Try.ntmps27
      go_wp2
      go_ret
      exact ⟨_, rfl, Kd.R_nil _ _ _ _ _, Below.refl _ _⟩
    | some ad =>
      have HR0 := Aside0.mk hr0
      have LMc2 := Aside0.mk hlim
      clear hr0 hlim
      have HB := Aside0.mk (Below.refl w.heap.size w)
      go_enter Try.func27, Try.ntmps27
      go_wp2_with (first | ((with_reducible refine gate_dst (N := 5) rfl ?_); refine Kd.R_lit (Kd.int .i64) _ 3 ?hg (N := 5) ?hd (xs := ([] : List Int)) (inner := []) (ok := fun _ => True) (okp := fun _ => True) ?hr ?hp (fun _ hk => hk) trivial (Below.refl _ _) (Nat.le_refl _) (by simp) ?_; (case hd => rfl); (case hg => rfl); (case hr => first | (go_simp; done) | (go_simp; rfl)); (case hp => exact (Reps.none _ _)); intro v103 w3 ho4 hb hg_ hnew_; clear hg_ hnew_; have n0_ := Aside0.mk (Kd.R_lower ho4 (below_size HB.out)); have n1_ := Aside0.mk (below_step HB.out hb); clear HB; have HO104 := n0_; have HB := n1_; clear n0_ n1_; clear hb ho4) | ((with_reducible refine gate_builtin (b := .append) (xs := #[(.tmp 5), .tmp 6]) rfl ?_); at_builtin; refine Kd.R_append_rows (Kd.int .i64) (w0 := w) w.heap.size rfl (.tmp 5) (.tmp 6) 22 3 (.int .i64 0) 8 rfl Try.underlying22 info3 rfl (by decide) (by omega) v103 [] l0 _ _ _ (fun _ => True) (fun _ => False) rfl rfl ?aO ?aR (fun _ _ h => h) (fun _ h => h.elim) ?aF ?aB ?aS ?aL ?_; (case aR => exact (Kd.C_below HR0.out HB.out)); (case aB => exact HB.out); (case aF => exact (fun _ _ => trivial)); (case aO => exact HO104.out); (case aS => exact (below_size HB.out)); (case aL => have := LMc2.out; simp; omega); intro v106 w5 ho hb hg hat; rw [List.nil_append] at ho; have n0_ := Aside0.mk (hb); have n1_ := Aside0.mk (ho); clear HB; clear HO104; have HB := n0_; have HO107 := n1_; clear n0_ n1_; clear ho hb hg hat))
      go_ret
      exact ⟨_, rfl, HO107.out, HB.out⟩
  · rw [if_neg hlim] at h
    exact absurd h (by simp)

end Go.Proofs.Ytkjnledamamniaa.PIm
