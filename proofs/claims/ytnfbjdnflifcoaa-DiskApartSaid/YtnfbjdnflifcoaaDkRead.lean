/- What the disk's functions come to: Read (chapter 10; no condition but sizes). -/
import Derived.Test.YtnfbjdnflifcoaaDkLib
import Derived.Test.YtnfbjdnflifcoaaPDkx8
namespace Go.Proofs.Ytnfbjdnflifcoaa.Dk
open Go.RowKit Go.Proofs.Ytnfbjdnflifcoaa.PDk Go.Proofs.YtnfbjdnflifcoaaW.PrintWords Go.Proofs.YtnfbjdnflifcoaaW.PrintLast
theorem read_f {m : Nat} {t : List File} (h : DGood m t) (hm : m ≤ 1099511627776) (i : Int) : disk_Read.f t i = some (rdd t i) := by
  unfold disk_Read.f rdd
  rw [bind_of (has_f t i)]
  have ha := h.at_ i
  by_cases hi : 0 ≤ i ∧ i < t.length
  · rw [if_pos (decide_eq_true hi), if_pos hi.1, if_pos hi.2, at_rd, if_pos hi]
    unfold slices_Concat_byte_byte.f
    simp only [List.flatten_cons, List.flatten_nil, List.append_nil]
    rw [if_pos (by rw [List.length_append]; omega), bind_of rfl]
  · rw [decide_eq_false hi, if_neg (by simp), if_neg hi]
end Go.Proofs.Ytnfbjdnflifcoaa.Dk
