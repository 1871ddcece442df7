/- A law's pure statement. -/
import Derived.Test.YtnfbjdnflifcoaaPDkx15
import Derived.Test.YtnfbjdnflifcoaaPDku
namespace Go.Proofs.Ytnfbjdnflifcoaa.PDk
open Go.RowKit Go.Proofs.YtnfbjdnflifcoaaXU Go.Proofs.YtnfbjdnflifcoaaW.PrintWords
/-- The pure statement of DiskCrashes. -/
def rollbacknetlaw10_DiskCrashes.Pure : Prop := ∀ (x0 : S24) (l1 : List (S39)), U24 x0 → l1.length ≤ 1048576 → (∀ y0_ ∈ l1, U39 y0_) → ∃ k, rollbacknetlaw10_DiskCrashes.f k x0.f0 l1 = some true
end Go.Proofs.Ytnfbjdnflifcoaa.PDk
