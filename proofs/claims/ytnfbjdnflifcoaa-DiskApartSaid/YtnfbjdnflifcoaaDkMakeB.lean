/- What the maker of bytes gives (chapter 10; no condition but sizes). -/
import Derived.Test.YtnfbjdnflifcoaaDkCodes
import Derived.Test.YtnfbjdnflifcoaaPDkx24
namespace Go.Proofs.Ytnfbjdnflifcoaa.Dk
open Go.RowKit Go.Proofs.Ytnfbjdnflifcoaa.PDk Go.Proofs.YtnfbjdnflifcoaaW.PrintWords Go.Proofs.YtnfbjdnflifcoaaW.PrintLast
theorem mkbytes_l0 (l : List Int) : ∀ (n k : Nat) (acc : List Int) (p : Int), Ok l p → n < k → acc.length + n ≤ 1000 →
    ∃ b q, rollbacknetmake_Codes_Bytes.l0 k acc (n : Int) l p = some (b, q) ∧ b.length = acc.length + n ∧ Ok l q := by
  intro n
  induction n with
  | zero =>
    intro k acc p h hk ha
    obtain ⟨k, rfl⟩ : ∃ q, k = q + 1 := ⟨k - 1, by omega⟩
    refine ⟨acc, p, ?_, by omega, h⟩
    simp only [rollbacknetmake_Codes_Bytes.l0]
    rw [if_neg (by omega)]
  | succ n ih =>
    intro k acc p h hk ha
    obtain ⟨k, rfl⟩ : ∃ q, k = q + 1 := ⟨k - 1, by omega⟩
    obtain ⟨r, q, e, h1, h2, hq⟩ := next_ok h (n := 256) (by omega) (by omega)
    obtain ⟨b, q2, e2, hb, hq2⟩ := ih k (acc ++ [r % 256]) q hq (by omega) (by simp; omega)
    refine ⟨b, q2, ?_, by rw [hb]; simp; omega, hq2⟩
    simp only [rollbacknetmake_Codes_Bytes.l0]
    rw [if_pos (by omega), bind_of e, if_pos (by omega), w64 (by omega), show ((n + 1 : Nat) : Int) - 1 = (n : Int) by omega]
    exact e2
theorem mkbytes {l : List Int} {p : Int} (h : Ok l p) {n : Int} (h1 : 0 ≤ n) (h2 : n ≤ 200) {k : Nat} (hk : 1000 ≤ k) : ∃ b q, rollbacknetmake_Codes_Bytes.f k l p n = some (b, q) ∧ (b.length : Int) ≤ n ∧ Ok l q := by
  obtain ⟨r, q, e, r1, r2, hq⟩ := next_ok h (n := n + 1) (by omega) (by omega)
  obtain ⟨m, rfl⟩ := Int.eq_ofNat_of_zero_le r1
  obtain ⟨b, q2, e2, hb, hq2⟩ := mkbytes_l0 l m k [] q hq (by omega) (by simp; omega)
  refine ⟨b, q2, ?_, by rw [hb]; simp; omega, hq2⟩
  unfold rollbacknetmake_Codes_Bytes.f
  rw [w64 (by omega), bind_of e]
  exact e2

end Go.Proofs.Ytnfbjdnflifcoaa.Dk
