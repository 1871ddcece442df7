/- What is known of the laws' arguments. -/
import Derived.Test.YtcbimmcdellmaaaPLkx0
import Derived.Test.YtcbimmcdellmaaaXOpen
namespace Go.Proofs.Ytcbimmcdellmaaa.PLk
open Go.RowKit Go.Proofs.YtcbimmcdellmaaaX Go.Proofs.YtcbimmcdellmaaaW.PrintWords
end Go.Proofs.Ytcbimmcdellmaaa.PLk
