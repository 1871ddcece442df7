/- What the maker of tears gives (chapter 10; no condition but sizes). -/
import Derived.Test.YtnfbjdnflifcoaaDkCodes
import Derived.Test.YtnfbjdnflifcoaaPDkx20
namespace Go.Proofs.Ytnfbjdnflifcoaa.Dk
open Go.RowKit Go.Proofs.Ytnfbjdnflifcoaa.PDk Go.Proofs.YtnfbjdnflifcoaaW.PrintWords Go.Proofs.YtnfbjdnflifcoaaW.PrintLast
def Few (L : List Tear) : Prop := ∀ x ∈ L, x.f1.length ≤ 2
theorem mktears_l1 (l : List Int) (a i N : Nat) (x5 : List Tear) (h5 : x5.length = i) (hi : i < 100) (hf : Few x5) (hnext : ∀ (k : Nat) (y : List Tear) (p : Int), N ≤ k → Ok l p → y.length = i + 1 → Few y → ∃ L q, rollbacknetlaw10_tears.l0 k (a : Int) y ((i + 1 : Nat) : Int) l p = some (L, q) ∧ Ok l q ∧ Few L) (keep : Int) :
    ∀ (n k : Nat) (lost : List Int) (p : Int), N + n < k → lost.length + n ≤ 2 → Ok l p → ∃ L q, rollbacknetlaw10_tears.l1 k (a : Int) x5 (i : Int) (n : Int) l p keep lost = some (L, q) ∧ Ok l q ∧ Few L := by
  intro n
  induction n with
  | zero =>
    intro k lost p hk hl h
    obtain ⟨k, rfl⟩ : ∃ q, k = q + 1 := ⟨k - 1, by omega⟩
    obtain ⟨L, q, e, hq, hL⟩ := hnext k (x5 ++ [⟨keep, lost⟩]) p (by omega) h (by simp [h5]) (fun x hx => by
      rcases List.mem_append.1 hx with h1 | h1
      · exact hf x h1
      · rw [List.mem_singleton.1 h1]
        simp only []
        omega)
    refine ⟨L, q, ?_, hq, hL⟩
    simp only [rollbacknetlaw10_tears.l1]
    rw [if_neg (by omega), if_pos (by omega), w64n (by omega)]
    exact e
  | succ n ih =>
    intro k lost p hk hl h
    obtain ⟨k, rfl⟩ : ∃ q, k = q + 1 := ⟨k - 1, by omega⟩
    obtain ⟨r, q, e, h1, h2, hq⟩ := next_ok h (n := 5) (by omega) (by omega)
    obtain ⟨L, q2, e2, hq2, hL⟩ := ih k (lost ++ [wrap64 (r - 1)]) q (by omega) (by simp; omega) hq
    refine ⟨L, q2, ?_, hq2, hL⟩
    simp only [rollbacknetlaw10_tears.l1]
    rw [if_pos (by omega), bind_of e, if_pos (by omega), w64 (x := ((n + 1 : Nat) : Int) - 1) (by omega), show ((n + 1 : Nat) : Int) - 1 = (n : Int) by omega]
    exact e2
theorem mktears_l0 (l : List Int) (a : Nat) (ha : a ≤ 50) : ∀ (d i k : Nat) (x5 : List Tear) (p : Int), a - i ≤ d → d * 5 < k → x5.length = i → i ≤ a → Few x5 → Ok l p → ∃ L q, rollbacknetlaw10_tears.l0 k (a : Int) x5 (i : Int) l p = some (L, q) ∧ Ok l q ∧ Few L := by
  intro d
  induction d with
  | zero =>
    intro i k x5 p hd hk h5 hi hf h
    obtain ⟨k, rfl⟩ : ∃ q, k = q + 1 := ⟨k - 1, by omega⟩
    refine ⟨x5, p, ?_, h, hf⟩
    simp only [rollbacknetlaw10_tears.l0]
    rw [if_neg (by omega)]
  | succ d ih =>
    intro i k x5 p hd hk h5 hi hf h
    obtain ⟨k, rfl⟩ : ∃ q, k = q + 1 := ⟨k - 1, by omega⟩
    by_cases hlt : i < a
    · obtain ⟨r, q, e, h1, h2, hq⟩ := next_ok h (n := 60) (by omega) (by omega)
      obtain ⟨s, q2, e2, s1, s2, hq2⟩ := next_ok hq (n := 3) (by omega) (by omega)
      obtain ⟨m, rfl⟩ := Int.eq_ofNat_of_zero_le s1
      obtain ⟨L, q3, e3, hq3, hL⟩ := mktears_l1 l a i (d * 5 + 1) x5 h5 (by omega) hf (fun k y p hk hp hy hfy => ih (i + 1) k y p (by omega) (by omega) hy (by omega) hfy hp) (wrap64 (r - 2)) m k [] q2 (by omega) (by simp; omega) hq2
      refine ⟨L, q3, ?_, hq3, hL⟩
      simp only [rollbacknetlaw10_tears.l0]
      rw [if_pos (by omega), bind_of e, bind_of e2]
      exact e3
    · refine ⟨x5, p, ?_, h, hf⟩
      simp only [rollbacknetlaw10_tears.l0]
      rw [if_neg (by omega)]
theorem mktears {l : List Int} {p : Int} (h : Ok l p) {n : Int} (h1 : 0 ≤ n) (h2 : n ≤ 50) {k : Nat} (hk : 1000 ≤ k) : ∃ L q, rollbacknetlaw10_tears.f k l p n = some (L, q) ∧ Ok l q ∧ Few L := by
  obtain ⟨m, rfl⟩ := Int.eq_ofNat_of_zero_le h1
  exact mktears_l0 l m (by omega) m 0 k [] p (by omega) (by omega) rfl (by omega) (fun _ hx => by simp at hx) h
end Go.Proofs.Ytnfbjdnflifcoaa.Dk
