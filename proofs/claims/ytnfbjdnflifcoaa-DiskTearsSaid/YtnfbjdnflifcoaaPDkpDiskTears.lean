/- A law's pure statement. -/
import Derived.Test.YtnfbjdnflifcoaaPDkx16
import Derived.Test.YtnfbjdnflifcoaaPDkg
namespace Go.Proofs.Ytnfbjdnflifcoaa.PDk
open Go.RowKit Go.Proofs.YtnfbjdnflifcoaaX Go.Proofs.YtnfbjdnflifcoaaW.PrintWords
/-- The pure statement of DiskTears. -/
def rollbacknetlaw10_DiskTears.Pure : Prop := ∀ (l0 : List Int) (a1 : Int) (l2 : List Int), l0.length ≤ maxLen → l0.length * 1 ≤ 140737488351232 → (∀ y0_ ∈ l0, (Lit.int .u8 y0_).wf = true) → (Lit.int .i64 a1).wf = true → l2.length ≤ maxLen → l2.length * 8 ≤ 140737488351232 → (∀ y0_ ∈ l2, (Lit.int .i64 y0_).wf = true) → ∃ k, rollbacknetlaw10_DiskTears.f k l0 a1 l2 = some true
end Go.Proofs.Ytnfbjdnflifcoaa.PDk
