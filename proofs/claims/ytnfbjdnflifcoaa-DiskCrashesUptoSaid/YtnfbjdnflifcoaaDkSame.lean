/- What the disk's functions come to: Same (chapter 10; no condition but sizes). -/
import Derived.Test.YtnfbjdnflifcoaaDkBytes
import Derived.Test.YtnfbjdnflifcoaaPDkx11
namespace Go.Proofs.Ytnfbjdnflifcoaa.Dk
open Go.RowKit Go.Proofs.Ytnfbjdnflifcoaa.PDk Go.Proofs.YtnfbjdnflifcoaaW.PrintWords Go.Proofs.YtnfbjdnflifcoaaW.PrintLast
theorem same_l0 {m : Nat} {t : List File} (h : DGood m t) (hm : m ≤ 1099511627776) : ∀ (n i k : Nat), t.length - i ≤ n → m + n < k → i ≤ t.length → rollbacknetref10_Same.l0 k (i : Int) t t = some true := by
  have hl := h.len
  intro n
  induction n with
  | zero =>
    intro i k hn hk hi
    obtain ⟨k, rfl⟩ : ∃ q, k = q + 1 := ⟨k - 1, by omega⟩
    simp only [rollbacknetref10_Same.l0]
    rw [if_neg (by omega)]
  | succ n ih =>
    intro i k hn hk hi
    obtain ⟨k, rfl⟩ : ∃ q, k = q + 1 := ⟨k - 1, by omega⟩
    simp only [rollbacknetref10_Same.l0]
    by_cases hlt : i < t.length
    · have ha := h.at_ (i : Int)
      rw [if_pos (by omega), if_pos (by omega), if_pos (by omega), at_rd, bind_of (bytes_f (by omega) (by omega)), if_pos rfl, bind_of (bytes_f (by omega) (by omega)), if_pos rfl, w64n (by omega)]
      exact ih (i + 1) k (by omega) (by omega) (by omega)
    · rw [if_neg (by omega)]
theorem same_f {m : Nat} {t : List File} (h : DGood m t) (hm : m ≤ 1099511627776) {k : Nat} (hk : m + 100 < k) : rollbacknetref10_Same.f k t t = some true := by
  have := h.len
  unfold rollbacknetref10_Same.f
  rw [if_pos rfl]
  exact same_l0 h hm t.length 0 k (by omega) (by omega) (by omega)
end Go.Proofs.Ytnfbjdnflifcoaa.Dk
