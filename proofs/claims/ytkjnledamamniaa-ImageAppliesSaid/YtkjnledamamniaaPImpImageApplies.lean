/- A law's pure statement. -/
import Derived.Test.YtkjnledamamniaaPImx18
import Derived.Test.YtkjnledamamniaaPImg
namespace Go.Proofs.Ytkjnledamamniaa.PIm
open Go.RowKit Go.Proofs.YtkjnledamamniaaX Go.Proofs.YtkjnledamamniaaW.PrintWords
/-- The pure statement of ImageApplies. -/
def rollbacknetlaw07_ImageApplies.Pure : Prop := ∀ (l0 : List Int) (l1 : List (S28)), l0.length ≤ maxLen → l0.length * 8 ≤ 140737488351232 → (∀ y0_ ∈ l0, (Lit.int .i64 y0_).wf = true) → l1.length ≤ maxLen → l1.length * 32 ≤ 140737488351232 → (∀ y0_ ∈ l1, G28 y0_) → ∃ k, rollbacknetlaw07_ImageApplies.f k l0 l1 = some true
end Go.Proofs.Ytkjnledamamniaa.PIm
