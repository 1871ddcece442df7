/- What the disk's functions come to: Replace (chapter 10; no condition but sizes). -/
import Derived.Test.YtnfbjdnflifcoaaDkLib
import Derived.Test.YtnfbjdnflifcoaaPDkx22
namespace Go.Proofs.Ytnfbjdnflifcoaa.Dk
open Go.RowKit Go.Proofs.Ytnfbjdnflifcoaa.PDk Go.Proofs.YtnfbjdnflifcoaaW.PrintWords Go.Proofs.YtnfbjdnflifcoaaW.PrintLast
theorem replace_f {m : Nat} {t : List File} (h : DGood m t) (hm : m ≤ 1099511627776) (i : Int) {b : List Int} (hb : b.length ≤ 1099511627776) {k : Nat} (hk : 100 < k) : disk_Replace.f k t i b = some (rep t i b) := by
  unfold disk_Replace.f rep
  rw [bind_of (has_f t i)]
  by_cases hi : 0 ≤ i ∧ i < t.length
  · rw [if_pos (decide_eq_true hi), if_pos hi]
    by_cases hl : b.length > 65536
    · rw [if_pos (by omega), if_pos hl]
    · rw [if_neg (by omega), if_neg hl, bind_of (clone_f h (by omega) hk), bind_of (show slices_Clone_byte_byte.f b = some b from if_pos (by omega)), if_pos hi.1, if_pos hi.2]
  · rw [decide_eq_false hi, if_neg (by simp), if_neg hi]
end Go.Proofs.Ytnfbjdnflifcoaa.Dk
