/- What the disk's functions come to: Sync (chapter 10; no condition but sizes). -/
import Derived.Test.YtnfbjdnflifcoaaDkLib
import Derived.Test.YtnfbjdnflifcoaaPDkx18
namespace Go.Proofs.Ytnfbjdnflifcoaa.Dk
open Go.RowKit Go.Proofs.Ytnfbjdnflifcoaa.PDk Go.Proofs.YtnfbjdnflifcoaaW.PrintWords Go.Proofs.YtnfbjdnflifcoaaW.PrintLast
theorem sync_f {m : Nat} {t : List File} (h : DGood m t) (hm : m ≤ 1099511627776) (i : Int) {k : Nat} (hk : 100 < k) : disk_Sync.f k t i = some (syn t i) := by
  unfold disk_Sync.f syn
  rw [bind_of (has_f t i)]
  have ha := h.at_ i
  by_cases hi : 0 ≤ i ∧ i < t.length
  · rw [if_pos (decide_eq_true hi), bind_of (clone_f h (by omega) hk), if_pos hi.1, if_pos hi.2, if_pos hi]
    unfold disk_Sync.tail
    rw [if_pos hi.1, if_pos hi.2, at_rd, if_pos (by omega)]
  · rw [decide_eq_false hi, if_neg (by simp), if_neg hi]
end Go.Proofs.Ytnfbjdnflifcoaa.Dk
