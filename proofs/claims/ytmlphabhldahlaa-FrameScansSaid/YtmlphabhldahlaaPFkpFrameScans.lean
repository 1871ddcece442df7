/- A law's pure statement. -/
import Derived.Test.YtmlphabhldahlaaPFkx21
import Derived.Test.YtmlphabhldahlaaPFkg
namespace Go.Proofs.Ytmlphabhldahlaa.PFk
open Go.RowKit Go.Proofs.YtmlphabhldahlaaX Go.Proofs.YtmlphabhldahlaaW.PrintWords
/-- The pure statement of FrameScans. -/
def rollbacknetlaw11_FrameScans.Pure : Prop := ∀ (l0 : List Int) (l1 : List Int) (a2 : Int), l0.length ≤ maxLen → l0.length * 1 ≤ 140737488351232 → (∀ y0_ ∈ l0, (Lit.int .u8 y0_).wf = true) → l1.length ≤ maxLen → l1.length * 1 ≤ 140737488351232 → (∀ y0_ ∈ l1, (Lit.int .u8 y0_).wf = true) → (Lit.int .i64 a2).wf = true → ∃ k, rollbacknetlaw11_FrameScans.f k l0 l1 a2 = some true
end Go.Proofs.Ytmlphabhldahlaa.PFk
