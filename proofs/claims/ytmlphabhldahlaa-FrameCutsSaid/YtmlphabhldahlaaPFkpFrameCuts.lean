/- A law's pure statement. -/
import Derived.Test.YtmlphabhldahlaaPFkx23
import Derived.Test.YtmlphabhldahlaaPFkg
namespace Go.Proofs.Ytmlphabhldahlaa.PFk
open Go.RowKit Go.Proofs.YtmlphabhldahlaaX Go.Proofs.YtmlphabhldahlaaW.PrintWords
/-- The pure statement of FrameCuts. -/
def rollbacknetlaw11_FrameCuts.Pure : Prop := ∀ (l0 : List Int) (a1 : Int), l0.length ≤ maxLen → l0.length * 1 ≤ 140737488351232 → (∀ y0_ ∈ l0, (Lit.int .u8 y0_).wf = true) → (Lit.int .i64 a1).wf = true → ∃ k, rollbacknetlaw11_FrameCuts.f k l0 a1 = some true
end Go.Proofs.Ytmlphabhldahlaa.PFk
