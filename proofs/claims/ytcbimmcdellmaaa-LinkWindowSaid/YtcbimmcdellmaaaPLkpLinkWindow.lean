/- A law's pure statement. -/
import Derived.Test.YtcbimmcdellmaaaPLkx9
import Derived.Test.YtcbimmcdellmaaaPLkg
namespace Go.Proofs.Ytcbimmcdellmaaa.PLk
open Go.RowKit Go.Proofs.YtcbimmcdellmaaaX Go.Proofs.YtcbimmcdellmaaaW.PrintWords
/-- The pure statement of LinkWindow. -/
def rollbacknetlaw15_LinkWindow.Pure : Prop := ∀ (a0 : Int) (a1 : Int), (Lit.int .u8 a0).wf = true → (Lit.int .u8 a1).wf = true → ∃ k, rollbacknetlaw15_LinkWindow.f k a0 a1 = some true
end Go.Proofs.Ytcbimmcdellmaaa.PLk
