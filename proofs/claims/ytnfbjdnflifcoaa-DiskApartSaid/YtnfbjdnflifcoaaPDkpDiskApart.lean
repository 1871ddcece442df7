/- A law's pure statement. -/
import Derived.Test.YtnfbjdnflifcoaaPDkx32
import Derived.Test.YtnfbjdnflifcoaaPDkg
namespace Go.Proofs.Ytnfbjdnflifcoaa.PDk
open Go.RowKit Go.Proofs.YtnfbjdnflifcoaaX Go.Proofs.YtnfbjdnflifcoaaW.PrintWords
/-- The pure statement of DiskApart. -/
def rollbacknetlaw10_DiskApart.Pure : Prop := ∀ (l0 : List Int) (a1 : Int) (a2 : Int), l0.length ≤ maxLen → l0.length * 1 ≤ 140737488351232 → (∀ y0_ ∈ l0, (Lit.int .u8 y0_).wf = true) → (Lit.int .u8 a1).wf = true → (Lit.int .u8 a2).wf = true → ∃ k, rollbacknetlaw10_DiskApart.f k l0 a1 a2 = some true
end Go.Proofs.Ytnfbjdnflifcoaa.PDk
