/- What pages make of cells (ImageApplies; no condition). -/
import Derived.Test.YtkjnledamamniaaPImpImageApplies
import Derived.Test.YtkjnledamamniaaImApply
namespace Go.Proofs.Ytkjnledamamniaa.Pure
open Go.RowKit Go.Proofs.Ytkjnledamamniaa.PIm Go.Proofs.YtkjnledamamniaaW.PrintWords Go.Proofs.YtkjnledamamniaaW.PrintLast Go.Proofs.Ytkjnledamamniaa.Im
theorem mod_ok {x n : Int} (hx : -9223372036854775808 ≤ x ∧ x ≤ 9223372036854775807) (h0 : 0 < n) (h1 : n ≤ 4611686018427387904) :
    rollbacknetmake_Mod.f x n = some (x % n) := by
  unfold rollbacknetmake_Mod.f
  rw [if_neg (by omega)]
  have e := Int.tmod_eq_emod (a := x) (b := n)
  have a := Int.emod_nonneg x (b := n) (by omega)
  have b := Int.emod_lt_of_pos x h0
  by_cases hn : 0 ≤ x
  · rw [Int.tmod_eq_emod_of_nonneg hn, if_neg (by omega)]
  · by_cases hd : n ∣ x
    · rw [Int.tmod_eq_zero_of_dvd hd, if_neg (by omega), Int.emod_eq_zero_of_dvd hd]
    · rw [if_neg (by simp [hd]; omega)] at e
      have hab : (n.natAbs : Int) = n := by omega
      rw [hab] at e
      have hz : x % n ≠ 0 := fun h => hd (Int.dvd_of_emod_eq_zero h)
      rw [if_pos (by omega), w64 (by omega)]
      congr 1
      omega
theorem applies_step {a : List Int} {t : List Page} {T : List (List Page)} {i k : Nat} (ha : a.length ≤ 200) (ht : t.length ≤ 50) (hi : i < 2) (hT : T.length = 2) (hr : rd_L4 T (i : Int) = t) (hk : 1000 ≤ k) :
    rollbacknetlaw07_ImageApplies.l1 (k + 1) a T 2 (i : Int) = rollbacknetlaw07_ImageApplies.l1 k a T 2 ((i + 1 : Nat) : Int) := by
  have hg := go_len t a
  rw [rollbacknetlaw07_ImageApplies.l1]
  rw [if_pos (by omega), if_pos (by omega), if_pos (by omega), hr, bind_of (apply_f ha t), bind_of (rapply_f ha (t := t) (by omega) (by omega)), if_pos rfl, bind_of (ints_f (by omega) (by omega)), decide_eq_true rfl, if_pos rfl, w64n (by omega)]
theorem applies_l1 {a : List Int} {t u : List Page} (ha : a.length ≤ 200) (ht : t.length ≤ 50) (hu : u.length ≤ 50) {k : Nat} (hk : 1010 ≤ k) : rollbacknetlaw07_ImageApplies.l1 k a [t, u] 2 0 = some true := by
  obtain ⟨k, rfl⟩ : ∃ q, k = q + 3 := ⟨k - 3, by omega⟩
  have s1 := applies_step (a := a) (t := t) (T := [t, u]) (i := 0) (k := k + 2) ha ht (by omega) rfl rfl (by omega)
  have s2 := applies_step (a := a) (t := u) (T := [t, u]) (i := 1) (k := k + 1) ha hu (by omega) rfl rfl (by omega)
  have s3 : rollbacknetlaw07_ImageApplies.l1 (k + 1) a [t, u] 2 2 = some true := by
    rw [rollbacknetlaw07_ImageApplies.l1]
    rw [if_neg (by omega)]
  exact s1.trans (s2.trans s3)
theorem applies_l0 {a : List Int} {t : List Page} (ha : a.length ≤ 200) (ht : t.length ≤ 50) : ∀ (n i k : Nat) (u : List Page), i + n = t.length → 2 * n + 1020 ≤ k → u.length = t.length → (∀ p ∈ u, -9223372036854775808 ≤ p.f0 ∧ p.f0 ≤ 9223372036854775807) →
    rollbacknetlaw07_ImageApplies.l0 k a t u (t.length : Int) (i : Int) = some true := by
  intro n
  induction n with
  | zero =>
    intro i k u hn hk hu hw
    obtain ⟨k, rfl⟩ : ∃ q, k = q + 1 := ⟨k - 1, by omega⟩
    rw [rollbacknetlaw07_ImageApplies.l0]
    rw [if_neg (by omega), bind_of rfl]
    exact applies_l1 ha ht (by omega) (by omega)
  | succ n ih =>
    intro i k u hn hk hu hw
    obtain ⟨k, rfl⟩ : ∃ q, k = q + 2 := ⟨k - 2, by omega⟩
    have plain : rollbacknetlaw07_ImageApplies.j2 (k + 1) a t u (i : Int) (t.length : Int) (i : Int) false = some true := by
      rw [rollbacknetlaw07_ImageApplies.j2]
      rw [if_neg (by simp), w64n (by omega)]
      exact ih (i + 1) k u (by omega) (by omega) hu hw
    rw [rollbacknetlaw07_ImageApplies.l0]
    rw [if_pos (by omega)]
    by_cases h2 : Int.tmod (i : Int) 2 = 0
    · rw [if_pos h2, bind_of (count_f (by omega))]
      by_cases h3 : (cnt a : Int) > 0
      · rw [decide_eq_true h3, rollbacknetlaw07_ImageApplies.j2]
        have hi : i < u.length := by omega
        have hc : cnt a ≤ 60 := by unfold cnt; omega
        have hwi := hw _ (List.getElem_mem hi)
        rw [if_pos rfl, if_pos (by omega), if_pos (by omega), bind_of (count_f (by omega)), rdp_at hi, bind_of (mod_ok hwi h3 (by omega)), w64n (by omega)]
        have m0 := Int.emod_nonneg u[i].f0 (b := (cnt a : Int)) (by omega)
        have m1 := Int.emod_lt_of_pos u[i].f0 h3
        refine ih (i + 1) k _ (by omega) (by omega) (by rw [List.length_set]; exact hu) (fun p hp => ?_)
        rcases List.mem_or_eq_of_mem_set hp with hp | hp
        · exact hw p hp
        · rw [hp]
          simp only []
          omega
      · rw [decide_eq_false h3]
        exact plain
    · rw [if_neg h2]
      exact plain

theorem ImageApplies : rollbacknetlaw07_ImageApplies.Pure := by
  intro a t _ _ _ _ _ ht
  refine ⟨3000, ?_⟩
  unfold rollbacknetlaw07_ImageApplies.f
  rw [bind_of (awake_f (by omega)), if_pos rfl]
  by_cases h1 : (a.length : Int) > 200
  · rw [if_pos h1]
    rfl
  rw [if_neg h1]
  by_cases h2 : (t.length : Int) > 50
  · rw [decide_eq_true h2]
    rfl
  rw [decide_eq_false h2, rollbacknetlaw07_ImageApplies.j0]
  rw [if_neg (by simp), if_pos (by simp; omega), List.nil_append, bind_of rfl]
  exact applies_l0 (by omega) (by omega) t.length 0 2999 t (by omega) (by omega) rfl (fun p hp => wf_i64 (ht p hp).1)
end Go.Proofs.Ytkjnledamamniaa.Pure
