/- A law's pure statement. -/
import Derived.Test.YtnfbjdnflifcoaaPDkx21
import Derived.Test.YtnfbjdnflifcoaaPDkg
namespace Go.Proofs.Ytnfbjdnflifcoaa.PDk
open Go.RowKit Go.Proofs.YtnfbjdnflifcoaaX Go.Proofs.YtnfbjdnflifcoaaW.PrintWords
/-- The pure statement of DiskSafe. -/
def rollbacknetlaw10_DiskSafe.Pure : Prop := ∀ (l0 : List Int) (l1 : List Int) (l2 : List Int), l0.length ≤ maxLen → l0.length * 1 ≤ 140737488351232 → (∀ y0_ ∈ l0, (Lit.int .u8 y0_).wf = true) → l1.length ≤ maxLen → l1.length * 1 ≤ 140737488351232 → (∀ y0_ ∈ l1, (Lit.int .u8 y0_).wf = true) → l2.length ≤ maxLen → l2.length * 1 ≤ 140737488351232 → (∀ y0_ ∈ l2, (Lit.int .u8 y0_).wf = true) → ∃ k, rollbacknetlaw10_DiskSafe.f k l0 l1 l2 = some true
end Go.Proofs.Ytnfbjdnflifcoaa.PDk
