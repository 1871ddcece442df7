/- What the changed image is: of the same length (for the laws of chapter 07; no condition but sizes). -/
import Derived.Test.YtkjnledamamniaaImLib
import Derived.Test.YtkjnledamamniaaPImx8
namespace Go.Proofs.Ytkjnledamamniaa.Im
open Go.RowKit Go.Proofs.Ytkjnledamamniaa.PIm Go.Proofs.YtkjnledamamniaaW.PrintWords Go.Proofs.YtkjnledamamniaaW.PrintLast
theorem int_ok {l : List Int} {p : Int} (h : Ok l p) : ∃ r q, rollbacknetmake_Codes_Int.f l p = some (r, q) ∧ Ok l q := by
  obtain ⟨r, q, e, r1, r2, hq⟩ := next_ok h (n := 6) (by omega) (by omega)
  unfold rollbacknetmake_Codes_Int.f
  rw [bind_of rfl, bind_of e]
  by_cases h5 : r = 5
  · obtain ⟨r', q', e', r1', r2', hq'⟩ := next_ok hq (n := 10) (by omega) (by omega)
    simp only []
    rw [if_pos h5]
    refine ⟨_, _, (bind_of e').trans ((if_pos r1').trans ((if_pos ?_).trans rfl)), hq'⟩
    exact r2'
  · obtain ⟨r', q', e', r1', r2', hq'⟩ := next_ok hq (n := 12) (by omega) (by omega)
    simp only []
    rw [if_neg h5, bind_of e']
    exact ⟨_, _, rfl, hq'⟩
theorem change_l0 (l : List Int) : ∀ (n k : Nat) (d : List Int) (p : Int), d.length ≤ 200 → Ok l p → n ≤ 100 → 2 * n + 2 < k →
    ∃ d' q, rollbacknetlaw07_change.l0 k d (n : Int) l p = some (d', q) ∧ d'.length = d.length ∧ Ok l q := by
  intro n
  induction n with
  | zero =>
    intro k d p hd hp hn hk
    obtain ⟨k, rfl⟩ : ∃ q, k = q + 2 := ⟨k - 2, by omega⟩
    refine ⟨d, p, ?_, rfl, hp⟩
    simp only [rollbacknetlaw07_change.l0, rollbacknetlaw07_change.j1]
    rw [if_neg (by omega), if_neg (by simp)]
  | succ n ih =>
    intro k d p hd hp hn hk
    obtain ⟨k, rfl⟩ : ∃ q, k = q + 2 := ⟨k - 2, by omega⟩
    simp only [rollbacknetlaw07_change.l0, rollbacknetlaw07_change.j1]
    rw [if_pos (by omega)]
    by_cases h0 : (d.length : Int) > 0
    · obtain ⟨r, q, e, r1, r2, hq⟩ := next_ok hp (n := (d.length : Int)) (by omega) (by omega)
      obtain ⟨r', q', e', hq'⟩ := int_ok hq
      obtain ⟨d', q2, e2, hd', hq2⟩ := ih k (d.set r.toNat r') q' (by rw [List.length_set]; exact hd) hq' (by omega) (by omega)
      refine ⟨d', q2, ?_, by rw [hd', List.length_set], hq2⟩
      rw [if_pos (by simpa using h0), bind_of e]
      simp only []
      rw [bind_of e', if_pos r1, if_pos r2, w64 (by omega), show ((n + 1 : Nat) : Int) - 1 = (n : Int) by omega]
      exact e2
    · rw [if_neg (by simpa using h0)]
      exact ⟨d, p, rfl, rfl, hp⟩
theorem change_f {l a : List Int} {p : Int} (hp : Ok l p) (ha : a.length ≤ 200) {k : Nat} (hk : 300 < k) : ∃ d q, rollbacknetlaw07_change.f k l p a = some (d, q) ∧ d.length = a.length ∧ Ok l q := by
  obtain ⟨r, q, e, r1, r2, hq⟩ := next_ok hp (n := 4) (by omega) (by omega)
  obtain ⟨n, rfl⟩ := Int.eq_ofNat_of_zero_le r1
  obtain ⟨d', q2, e2, hd', hq2⟩ := change_l0 l n k a q ha hq (by omega) (by omega)
  refine ⟨d', q2, ?_, hd', hq2⟩
  unfold rollbacknetlaw07_change.f
  rw [if_pos (by simp; omega), bind_of e]
  exact e2
end Go.Proofs.Ytkjnledamamniaa.Im
