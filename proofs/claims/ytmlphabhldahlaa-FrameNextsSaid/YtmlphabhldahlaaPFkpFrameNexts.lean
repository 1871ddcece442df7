/- A law's pure statement. -/
import Derived.Test.YtmlphabhldahlaaPFkx16
import Derived.Test.YtmlphabhldahlaaPFkg
namespace Go.Proofs.Ytmlphabhldahlaa.PFk
open Go.RowKit Go.Proofs.YtmlphabhldahlaaX Go.Proofs.YtmlphabhldahlaaW.PrintWords
/-- The pure statement of FrameNexts. -/
def rollbacknetlaw11_FrameNexts.Pure : Prop := ∀ (l0 : List Int) (a1 : Int) (l2 : List Int) (a3 : Int) (a4 : Int), l0.length ≤ maxLen → l0.length * 1 ≤ 140737488351232 → (∀ y0_ ∈ l0, (Lit.int .u8 y0_).wf = true) → (Lit.int .i64 a1).wf = true → l2.length ≤ maxLen → l2.length * 1 ≤ 140737488351232 → (∀ y0_ ∈ l2, (Lit.int .u8 y0_).wf = true) → (Lit.int .i64 a3).wf = true → (Lit.int .u8 a4).wf = true → ∃ k, rollbacknetlaw11_FrameNexts.f k l0 a1 l2 a3 a4 = some true
end Go.Proofs.Ytmlphabhldahlaa.PFk
