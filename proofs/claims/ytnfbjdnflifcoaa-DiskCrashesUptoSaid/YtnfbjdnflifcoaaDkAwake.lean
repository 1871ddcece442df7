/- The sanity check (chapter 10; no condition but sizes). -/
import Derived.Test.YtnfbjdnflifcoaaDkLib
import Derived.Test.YtnfbjdnflifcoaaPDkx9
namespace Go.Proofs.Ytnfbjdnflifcoaa.Dk
open Go.RowKit Go.Proofs.Ytnfbjdnflifcoaa.PDk Go.Proofs.YtnfbjdnflifcoaaW.PrintWords Go.Proofs.YtnfbjdnflifcoaaW.PrintLast
theorem awake_f {k : Nat} (hk : 200 ≤ k) : rollbacknetlaw10_awake.f k = some true :=
  at_rounds (g := fun k => rollbacknetlaw10_awake.f k) rollbacknetlaw10_awake.mono hk (by kernel_rfl)
end Go.Proofs.Ytnfbjdnflifcoaa.Dk
