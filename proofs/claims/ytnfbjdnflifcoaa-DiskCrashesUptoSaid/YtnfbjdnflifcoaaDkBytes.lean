/- What the disk's functions come to: Bytes (chapter 10; no condition but sizes). -/
import Derived.Test.YtnfbjdnflifcoaaDkLib
import Derived.Test.YtnfbjdnflifcoaaPDkx10
namespace Go.Proofs.Ytnfbjdnflifcoaa.Dk
open Go.RowKit Go.Proofs.Ytnfbjdnflifcoaa.PDk Go.Proofs.YtnfbjdnflifcoaaW.PrintWords Go.Proofs.YtnfbjdnflifcoaaW.PrintLast
theorem bytes_l0 (l : List Int) (hl : l.length ≤ 1099511627776) : ∀ (n i k : Nat), l.length - i ≤ n → n < k → i ≤ l.length → rollbacknetref08_SameBytes.l0 k l l (i : Int) = some true := by
  intro n
  induction n with
  | zero =>
    intro i k hn hk hi
    obtain ⟨k, rfl⟩ : ∃ q, k = q + 1 := ⟨k - 1, by omega⟩
    simp only [rollbacknetref08_SameBytes.l0]
    rw [if_neg (by omega)]
  | succ n ih =>
    intro i k hn hk hi
    obtain ⟨k, rfl⟩ : ∃ q, k = q + 1 := ⟨k - 1, by omega⟩
    simp only [rollbacknetref08_SameBytes.l0]
    by_cases hlt : i < l.length
    · rw [if_pos (by omega), if_pos (by omega), if_pos (by omega), if_pos trivial, w64n (by omega)]
      exact ih (i + 1) k (by omega) (by omega) (by omega)
    · rw [if_neg (by omega)]
theorem bytes_f {l : List Int} (hl : l.length ≤ 1099511627776) {k : Nat} (hk : l.length < k) : rollbacknetref08_SameBytes.f k l l = some true := by
  unfold rollbacknetref08_SameBytes.f
  rw [if_pos rfl]
  exact bytes_l0 l hl l.length 0 k (by omega) hk (by omega)
end Go.Proofs.Ytnfbjdnflifcoaa.Dk
