/- A law's pure statement. -/
import Derived.Test.YtkjnledamamniaaPImx5
import Derived.Test.YtkjnledamamniaaPImg
namespace Go.Proofs.Ytkjnledamamniaa.PIm
open Go.RowKit Go.Proofs.YtkjnledamamniaaX Go.Proofs.YtkjnledamamniaaW.PrintWords
/-- The pure statement of ImageLocal. -/
def rollbacknetlaw07_ImageLocal.Pure : Prop := ∀ (l0 : List Int) (a1 : Int) (a2 : Int), l0.length ≤ maxLen → l0.length * 8 ≤ 140737488351232 → (∀ y0_ ∈ l0, (Lit.int .i64 y0_).wf = true) → (Lit.int .i64 a1).wf = true → (Lit.int .i64 a2).wf = true → ∃ k, rollbacknetlaw07_ImageLocal.f k l0 a1 a2 = some true
end Go.Proofs.Ytkjnledamamniaa.PIm
