/- What the disk's functions come to: Append (chapter 10; no condition but sizes). -/
import Derived.Test.YtnfbjdnflifcoaaDkLib
import Derived.Test.YtnfbjdnflifcoaaPDkx6
namespace Go.Proofs.Ytnfbjdnflifcoaa.Dk
open Go.RowKit Go.Proofs.Ytnfbjdnflifcoaa.PDk Go.Proofs.YtnfbjdnflifcoaaW.PrintWords Go.Proofs.YtnfbjdnflifcoaaW.PrintLast
theorem append_f {m : Nat} {t : List File} (h : DGood m t) (hm : m ≤ 1099511627776) (i : Int) {b : List Int} (hb : b.length ≤ 1099511627776) {k : Nat} (hk : 100 < k) : disk_Append.f k t i b = some (apd t i b) := by
  unfold disk_Append.f apd
  rw [bind_of (has_f t i)]
  have ha := h.at_ i
  by_cases hi : 0 ≤ i ∧ i < t.length
  · rw [if_pos (decide_eq_true hi), if_pos hi.1, if_pos hi.2, at_rd, w64 (x := ((at_ t i).f0.length : Int) + ((at_ t i).f1.length : Int)) (by omega), w64 (by omega), if_pos hi]
    by_cases hl : (at_ t i).f0.length + (at_ t i).f1.length + b.length > 65536
    · rw [if_pos (by omega), if_pos hl]
    · rw [if_neg (by omega), if_neg hl, bind_of (clone_f h (by omega) hk), if_pos hi.2]
      unfold disk_Append.tail
      rw [if_pos hi.1, if_pos hi.2, at_rd, if_pos (by omega)]
  · rw [decide_eq_false hi, if_neg (by simp), if_neg hi]
end Go.Proofs.Ytnfbjdnflifcoaa.Dk
