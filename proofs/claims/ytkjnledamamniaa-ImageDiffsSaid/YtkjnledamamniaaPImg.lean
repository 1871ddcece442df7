/- What is known of the laws' arguments. -/
import Derived.Test.YtkjnledamamniaaPImx0
import Derived.Test.YtkjnledamamniaaXOpen
namespace Go.Proofs.Ytkjnledamamniaa.PIm
open Go.RowKit Go.Proofs.YtkjnledamamniaaX Go.Proofs.YtkjnledamamniaaW.PrintWords
end Go.Proofs.Ytkjnledamamniaa.PIm
