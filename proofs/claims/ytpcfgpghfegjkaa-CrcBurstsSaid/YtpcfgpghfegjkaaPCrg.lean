/- What is known of the laws' arguments, and the laws' pure statements. -/
import Derived.Test.YtpcfgpghfegjkaaPCrx1
import Derived.Test.YtpcfgpghfegjkaaPCrx2
import Derived.Test.YtpcfgpghfegjkaaPCrx3
import Derived.Test.YtpcfgpghfegjkaaPCrx4
import Derived.Test.YtpcfgpghfegjkaaXOpen
namespace Go.Proofs.Ytpcfgpghfegjkaa.PCr
open Go.RowKit Go.Proofs.YtpcfgpghfegjkaaX Go.Proofs.YtpcfgpghfegjkaaW.PrintWords
/-- The pure statement of CrcSums. -/
def rollbacknetlaw09_CrcSums.Pure : Prop := ∀ (a0 : Int) (l1 : List Int), (Lit.int .u32 a0).wf = true → l1.length ≤ maxLen → l1.length * 1 ≤ 140737488351232 → (∀ y0_ ∈ l1, (Lit.int .u8 y0_).wf = true) → rollbacknetlaw09_CrcSums.f a0 l1 = some true
/-- The pure statement of CrcJoins. -/
def rollbacknetlaw09_CrcJoins.Pure : Prop := ∀ (a0 : Int) (l1 : List Int) (a2 : Int), (Lit.int .u32 a0).wf = true → l1.length ≤ maxLen → l1.length * 1 ≤ 140737488351232 → (∀ y0_ ∈ l1, (Lit.int .u8 y0_).wf = true) → (Lit.int .i64 a2).wf = true → rollbacknetlaw09_CrcJoins.f a0 l1 a2 = some true
/-- The pure statement of CrcXors. -/
def rollbacknetlaw09_CrcXors.Pure : Prop := ∀ (l0 : List Int) (l1 : List Int) (l2 : List Int), l0.length ≤ maxLen → l0.length * 1 ≤ 140737488351232 → (∀ y0_ ∈ l0, (Lit.int .u8 y0_).wf = true) → l1.length ≤ maxLen → l1.length * 1 ≤ 140737488351232 → (∀ y0_ ∈ l1, (Lit.int .u8 y0_).wf = true) → l2.length ≤ maxLen → l2.length * 1 ≤ 140737488351232 → (∀ y0_ ∈ l2, (Lit.int .u8 y0_).wf = true) → ∃ k, rollbacknetlaw09_CrcXors.f k l0 l1 l2 = some true
/-- The pure statement of CrcBursts. -/
def rollbacknetlaw09_CrcBursts.Pure : Prop := ∀ (l0 : List Int) (a1 : Int) (a2 : Int), l0.length ≤ maxLen → l0.length * 1 ≤ 140737488351232 → (∀ y0_ ∈ l0, (Lit.int .u8 y0_).wf = true) → (Lit.int .i64 a1).wf = true → (Lit.int .u32 a2).wf = true → ∃ k, rollbacknetlaw09_CrcBursts.f k l0 a1 a2 = some true
end Go.Proofs.Ytpcfgpghfegjkaa.PCr
