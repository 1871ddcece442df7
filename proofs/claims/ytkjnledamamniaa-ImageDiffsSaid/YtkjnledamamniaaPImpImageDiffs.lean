/- A law's pure statement. -/
import Derived.Test.YtkjnledamamniaaPImx15
import Derived.Test.YtkjnledamamniaaPImg
namespace Go.Proofs.Ytkjnledamamniaa.PIm
open Go.RowKit Go.Proofs.YtkjnledamamniaaX Go.Proofs.YtkjnledamamniaaW.PrintWords
/-- The pure statement of ImageDiffs. -/
def rollbacknetlaw07_ImageDiffs.Pure : Prop := ∀ (l0 : List Int) (l1 : List Int) (l2 : List Int), l0.length ≤ maxLen → l0.length * 8 ≤ 140737488351232 → (∀ y0_ ∈ l0, (Lit.int .i64 y0_).wf = true) → l1.length ≤ maxLen → l1.length * 8 ≤ 140737488351232 → (∀ y0_ ∈ l1, (Lit.int .i64 y0_).wf = true) → l2.length ≤ maxLen → l2.length * 1 ≤ 140737488351232 → (∀ y0_ ∈ l2, (Lit.int .u8 y0_).wf = true) → ∃ k, rollbacknetlaw07_ImageDiffs.f k l0 l1 l2 = some true
end Go.Proofs.Ytkjnledamamniaa.PIm
