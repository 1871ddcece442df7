/- A law's pure statement. -/
import Derived.Test.YtnfbjdnflifcoaaPDkx23
import Derived.Test.YtnfbjdnflifcoaaPDkg
namespace Go.Proofs.Ytnfbjdnflifcoaa.PDk
open Go.RowKit Go.Proofs.YtnfbjdnflifcoaaX Go.Proofs.YtnfbjdnflifcoaaW.PrintWords
/-- The pure statement of DiskLimits. -/
def rollbacknetlaw10_DiskLimits.Pure : Prop := ∀ (a0 : Int) (a1 : Int), (Lit.int .u8 a0).wf = true → (Lit.int .u8 a1).wf = true → ∃ k, rollbacknetlaw10_DiskLimits.f k a0 a1 = some true
end Go.Proofs.Ytnfbjdnflifcoaa.PDk
