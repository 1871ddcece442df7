/- A law's pure statement. -/
import Derived.Test.YtmlphabhldahlaaPFkx7
import Derived.Test.YtmlphabhldahlaaPFkg
namespace Go.Proofs.Ytmlphabhldahlaa.PFk
open Go.RowKit Go.Proofs.YtmlphabhldahlaaX Go.Proofs.YtmlphabhldahlaaW.PrintWords
/-- The pure statement of FrameSeals. -/
def rollbacknetlaw11_FrameSeals.Pure : Prop := ∀ (l0 : List Int) (a1 : Int), l0.length ≤ maxLen → l0.length * 1 ≤ 140737488351232 → (∀ y0_ ∈ l0, (Lit.int .u8 y0_).wf = true) → (Lit.int .u8 a1).wf = true → ∃ k, rollbacknetlaw11_FrameSeals.f k l0 a1 = some true
end Go.Proofs.Ytmlphabhldahlaa.PFk
