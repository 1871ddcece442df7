/- A law's pure statement. -/
import Derived.Test.YtmlphabhldahlaaPFkx22
import Derived.Test.YtmlphabhldahlaaPFkg
namespace Go.Proofs.Ytmlphabhldahlaa.PFk
open Go.RowKit Go.Proofs.YtmlphabhldahlaaX Go.Proofs.YtmlphabhldahlaaW.PrintWords
/-- The pure statement of FrameBack. -/
def rollbacknetlaw11_FrameBack.Pure : Prop := ∀ (l0 : List Int) (l1 : List Int), l0.length ≤ maxLen → l0.length * 1 ≤ 140737488351232 → (∀ y0_ ∈ l0, (Lit.int .u8 y0_).wf = true) → l1.length ≤ maxLen → l1.length * 1 ≤ 140737488351232 → (∀ y0_ ∈ l1, (Lit.int .u8 y0_).wf = true) → ∃ k, rollbacknetlaw11_FrameBack.f k l0 l1 = some true
end Go.Proofs.Ytmlphabhldahlaa.PFk
