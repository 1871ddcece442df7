/- A law's pure statement. -/
import Derived.Test.YtiflebfnhjlfdaaPNkx13
import Derived.Test.YtiflebfnhjlfdaaPNkg
namespace Go.Proofs.Ytiflebfnhjlfdaa.PNk
open Go.RowKit Go.Proofs.YtiflebfnhjlfdaaX Go.Proofs.YtiflebfnhjlfdaaW.PrintWords
/-- The pure statement of NetworkAsks. -/
def rollbacknetlaw14_NetworkAsks.Pure : Prop := ∀ (l0 : List Int) (a1 : Int) (a2 : Int) (a3 : Int) (x4 : S24) (a5 : Int), l0.length ≤ maxLen → l0.length * 1 ≤ 140737488351232 → (∀ y0_ ∈ l0, (Lit.int .u8 y0_).wf = true) → (Lit.int .i64 a1).wf = true → (Lit.int .i64 a2).wf = true → (Lit.int .i64 a3).wf = true → G24 x4 → (Lit.int .i64 a5).wf = true → ∃ k, rollbacknetlaw14_NetworkAsks.f k l0 a1 a2 a3 x4.f0 x4.f1 a5 = some true
end Go.Proofs.Ytiflebfnhjlfdaa.PNk
