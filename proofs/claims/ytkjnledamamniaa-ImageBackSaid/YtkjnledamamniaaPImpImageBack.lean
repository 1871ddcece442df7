/- A law's pure statement. -/
import Derived.Test.YtkjnledamamniaaPImx19
import Derived.Test.YtkjnledamamniaaPImg
namespace Go.Proofs.Ytkjnledamamniaa.PIm
open Go.RowKit Go.Proofs.YtkjnledamamniaaX Go.Proofs.YtkjnledamamniaaW.PrintWords
/-- The pure statement of ImageBack. -/
def rollbacknetlaw07_ImageBack.Pure : Prop := ∀ (l0 : List Int) (l1 : List Int), l0.length ≤ maxLen → l0.length * 8 ≤ 140737488351232 → (∀ y0_ ∈ l0, (Lit.int .i64 y0_).wf = true) → l1.length ≤ maxLen → l1.length * 1 ≤ 140737488351232 → (∀ y0_ ∈ l1, (Lit.int .u8 y0_).wf = true) → ∃ k, rollbacknetlaw07_ImageBack.f k l0 l1 = some true
end Go.Proofs.Ytkjnledamamniaa.PIm
