/- A law's pure statement. -/
import Derived.Test.YtiflebfnhjlfdaaPNkx13
import Derived.Test.YtiflebfnhjlfdaaPNkg
namespace Go.Proofs.Ytiflebfnhjlfdaa.PNk
open Go.RowKit Go.Proofs.YtiflebfnhjlfdaaX Go.Proofs.YtiflebfnhjlfdaaW.PrintWords
/-- The pure statement of NetworkChannels. -/
def rollbacknetlaw14_NetworkChannels.Pure : Prop := ∀ (l0 : List Int), l0.length ≤ maxLen → l0.length * 1 ≤ 140737488351232 → (∀ y0_ ∈ l0, (Lit.int .u8 y0_).wf = true) → ∃ k, rollbacknetlaw14_NetworkChannels.f k l0 = some true
end Go.Proofs.Ytiflebfnhjlfdaa.PNk
