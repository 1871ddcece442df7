/- What is known of the laws' arguments. -/
import Derived.Test.YtmlphabhldahlaaPFkx0
import Derived.Test.YtmlphabhldahlaaXOpen
namespace Go.Proofs.Ytmlphabhldahlaa.PFk
open Go.RowKit Go.Proofs.YtmlphabhldahlaaX Go.Proofs.YtmlphabhldahlaaW.PrintWords
end Go.Proofs.Ytmlphabhldahlaa.PFk
