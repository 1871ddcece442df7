/-
  No cell of these rows narrows 'for every input' (looked for: loops, veiled, ifaces, maps, wideKeys, modest, calm, conditions, laid).
  DERIVED. THE GIVEN ROWS OF THIS SEAT. 6 by the template 'for every input the law returns true; each argument reads behind the call as it read before'; 0 by the template 'total and deterministic' (their statements: YtkjnledamamniaaTotals.lean).
  GIVEN WITH THE SEED: the statements are not yours to turn. If you find one false, say at which input.
  Laid BY PROGRAM, IN A SANDBOX (cutbox-rows.mjs): the forced cells as the released guide's own fill.sh prints them over the translation 407e9a926c5b0e81… (all of the seat's roots in one cut). By AI agents, Wed Nov 11 2026. No macro, syntax, notation, axiom, sorry.
-/
import Derived.Test.YtkjnledamamniaaChecked
import GoSem.Claim
import GoSem.ClaimJoined
import GoSem.ClaimMapViews
import Derived.JoinedTies
import Derived.KernelRfl
namespace Go.Proofs.Ytkjnledamamniaa
/- THE CELL 'sum', in the pinned program and in every row, IS THE sha256 OF THE DUMP (.gsa) THAT YtkjnledamamniaaProg.lean LOADS. Nothing in Lean hashes anything: it is a label: what it is worth is what the hold of that sum in a sandbox is worth. -/
noncomputable def Try.pinned : Pinned := { name := "ytkjnledamamniaa", sum := "407e9a926c5b0e81509043d6ba3b1a5f0924ee3dbb32a36b2b2aa1ccb70b08dd", checked := Try.checked }
namespace Rows
def none {H : Type} : Left H := { results := [], args := [] }

/-- 'rollbacknetlaw07.ImageLocal': WHATEVER THE INPUT: true; the input reads as it did. -/
def imageLocalSpec : ChangeSpec := { name := "imageLocal", fn := fun _ => fun
  | [d1, d2, d3] => { results := [.lit (.bool true)], args := [d1, d2, d3] }
  | _ => none }
def imageLocalRow : OpenClaim := { program := "ytkjnledamamniaa", sum := "407e9a926c5b0e81509043d6ba3b1a5f0924ee3dbb32a36b2b2aa1ccb70b08dd", func := "rollbacknet/rollbacknetlaw07.ImageLocal", spec := "imageLocal", apart := false }
def ImageLocalSaid : Prop := imageLocalRow.holds Try.pinned (OpenSpec.ofChange imageLocalSpec)

/-- ITS FALSE NEIGHBOUR: 'it returns false'. Refute it at one input. -/
def imageLocalWrong : ChangeSpec := { name := "imageLocal", fn := fun _ => fun
  | [d1, d2, d3] => { results := [.lit (.bool false)], args := [d1, d2, d3] }
  | _ => none }
def ImageLocalWrongFalsely : Prop := imageLocalRow.holds Try.pinned (OpenSpec.ofChange imageLocalWrong)

/-- 'rollbacknetlaw07.ImageDiffs': WHATEVER THE INPUT: true; the input reads as it did. -/
def imageDiffsSpec : ChangeSpec := { name := "imageDiffs", fn := fun _ => fun
  | [d1, d2, d3] => { results := [.lit (.bool true)], args := [d1, d2, d3] }
  | _ => none }
def imageDiffsRow : OpenClaim := { program := "ytkjnledamamniaa", sum := "407e9a926c5b0e81509043d6ba3b1a5f0924ee3dbb32a36b2b2aa1ccb70b08dd", func := "rollbacknet/rollbacknetlaw07.ImageDiffs", spec := "imageDiffs", apart := false }
def ImageDiffsSaid : Prop := imageDiffsRow.holds Try.pinned (OpenSpec.ofChange imageDiffsSpec)

/-- ITS FALSE NEIGHBOUR: 'it returns false'. Refute it at one input. -/
def imageDiffsWrong : ChangeSpec := { name := "imageDiffs", fn := fun _ => fun
  | [d1, d2, d3] => { results := [.lit (.bool false)], args := [d1, d2, d3] }
  | _ => none }
def ImageDiffsWrongFalsely : Prop := imageDiffsRow.holds Try.pinned (OpenSpec.ofChange imageDiffsWrong)

/-- 'rollbacknetlaw07.ImageApplies': WHATEVER THE INPUT: true; the input reads as it did. -/
def imageAppliesSpec : ChangeSpec := { name := "imageApplies", fn := fun _ => fun
  | [d1, d2] => { results := [.lit (.bool true)], args := [d1, d2] }
  | _ => none }
def imageAppliesRow : OpenClaim := { program := "ytkjnledamamniaa", sum := "407e9a926c5b0e81509043d6ba3b1a5f0924ee3dbb32a36b2b2aa1ccb70b08dd", func := "rollbacknet/rollbacknetlaw07.ImageApplies", spec := "imageApplies", apart := false }
def ImageAppliesSaid : Prop := imageAppliesRow.holds Try.pinned (OpenSpec.ofChange imageAppliesSpec)

/-- ITS FALSE NEIGHBOUR: 'it returns false'. Refute it at one input. -/
def imageAppliesWrong : ChangeSpec := { name := "imageApplies", fn := fun _ => fun
  | [d1, d2] => { results := [.lit (.bool false)], args := [d1, d2] }
  | _ => none }
def ImageAppliesWrongFalsely : Prop := imageAppliesRow.holds Try.pinned (OpenSpec.ofChange imageAppliesWrong)

/-- 'rollbacknetlaw07.ImageBack': WHATEVER THE INPUT: true; the input reads as it did. -/
def imageBackSpec : ChangeSpec := { name := "imageBack", fn := fun _ => fun
  | [d1, d2] => { results := [.lit (.bool true)], args := [d1, d2] }
  | _ => none }
def imageBackRow : OpenClaim := { program := "ytkjnledamamniaa", sum := "407e9a926c5b0e81509043d6ba3b1a5f0924ee3dbb32a36b2b2aa1ccb70b08dd", func := "rollbacknet/rollbacknetlaw07.ImageBack", spec := "imageBack", apart := false }
def ImageBackSaid : Prop := imageBackRow.holds Try.pinned (OpenSpec.ofChange imageBackSpec)

/-- ITS FALSE NEIGHBOUR: 'it returns false'. Refute it at one input. -/
def imageBackWrong : ChangeSpec := { name := "imageBack", fn := fun _ => fun
  | [d1, d2] => { results := [.lit (.bool false)], args := [d1, d2] }
  | _ => none }
def ImageBackWrongFalsely : Prop := imageBackRow.holds Try.pinned (OpenSpec.ofChange imageBackWrong)

/-- 'rollbacknetlaw07.ImageComposes': WHATEVER THE INPUT: true; the input reads as it did. -/
def imageComposesSpec : ChangeSpec := { name := "imageComposes", fn := fun _ => fun
  | [d1, d2, d3] => { results := [.lit (.bool true)], args := [d1, d2, d3] }
  | _ => none }
def imageComposesRow : OpenClaim := { program := "ytkjnledamamniaa", sum := "407e9a926c5b0e81509043d6ba3b1a5f0924ee3dbb32a36b2b2aa1ccb70b08dd", func := "rollbacknet/rollbacknetlaw07.ImageComposes", spec := "imageComposes", unfollowed := true, recurses := true, apart := false }
def ImageComposesSaid : Prop := imageComposesRow.holds Try.pinned (OpenSpec.ofChange imageComposesSpec)

/-- ITS FALSE NEIGHBOUR: 'it returns false'. Refute it at one input. -/
def imageComposesWrong : ChangeSpec := { name := "imageComposes", fn := fun _ => fun
  | [d1, d2, d3] => { results := [.lit (.bool false)], args := [d1, d2, d3] }
  | _ => none }
def ImageComposesWrongFalsely : Prop := imageComposesRow.holds Try.pinned (OpenSpec.ofChange imageComposesWrong)

/-- 'rollbacknetlaw07.ImageChains': WHATEVER THE INPUT: true; the input reads as it did. -/
def imageChainsSpec : ChangeSpec := { name := "imageChains", fn := fun _ => fun
  | [d1, d2] => { results := [.lit (.bool true)], args := [d1, d2] }
  | _ => none }
def imageChainsRow : OpenClaim := { program := "ytkjnledamamniaa", sum := "407e9a926c5b0e81509043d6ba3b1a5f0924ee3dbb32a36b2b2aa1ccb70b08dd", func := "rollbacknet/rollbacknetlaw07.ImageChains", spec := "imageChains", unfollowed := true, recurses := true, apart := false }
def ImageChainsSaid : Prop := imageChainsRow.holds Try.pinned (OpenSpec.ofChange imageChainsSpec)

/-- ITS FALSE NEIGHBOUR: 'it returns false'. Refute it at one input. -/
def imageChainsWrong : ChangeSpec := { name := "imageChains", fn := fun _ => fun
  | [d1, d2] => { results := [.lit (.bool false)], args := [d1, d2] }
  | _ => none }
def ImageChainsWrongFalsely : Prop := imageChainsRow.holds Try.pinned (OpenSpec.ofChange imageChainsWrong)

/- THE SECOND FORM. 'bulk': how many values and letters a reading holds, each counted each time it is reached (what is shared counts as often as it is met; a slice's spare places count too). A statement '..UptoSaid' is the law's where the arguments, and the package variables that the reading takes, are together of bulk at most 1048576: NARROWER than '..Said'. Prove '..Said' where nothing that the law and all that it calls make is longer than what came in: it says more and counts as full. Else prove '..UptoSaid'. A law counts once. -/
mutual
def uptoBulk {H : Type} : DataW H → Nat
  | .lit (.string bytes) => bytes.length + 1
  | .lit _ => 1
  | .nil => 1
  | .ptr d => uptoBulk d + 1
  | .slice elems spare => uptoBulkAll elems + uptoBulkAll spare + 1
  | .agg parts => uptoBulkAll parts + 1
  | .iface _ d => uptoBulk d + 1
  | .map entries => uptoBulkEntries entries + 1
  | .held _ => 1
def uptoBulkAll {H : Type} : List (DataW H) → Nat
  | [] => 0
  | d :: r => uptoBulk d + uptoBulkAll r
def uptoBulkEntries {H : Type} : List (Lit × DataW H) → Nat
  | [] => 0
  | x :: r => uptoBulkEntry x + uptoBulkEntries r
def uptoBulkEntry {H : Type} : Lit × DataW H → Nat
  | (.string bytes, d) => bytes.length + uptoBulk d + 1
  | (_, d) => uptoBulk d + 1
 end
def uptoSmall : (H : Type) → List (DataW H) → Bool := fun _ ds => decide (uptoBulkAll ds ≤ 1048576)
def OpenSpec.upto (s : _root_.Go.ChangeSpec) : _root_.Go.OpenSpec := { _root_.Go.OpenSpec.ofChange s with cond := some uptoSmall }

/-- 'rollbacknetlaw07.ImageLocal', WHERE WHAT IT READS IS OF BULK AT MOST 1048576: true; the input reads as it did. -/
def imageLocalUptoRow : OpenClaim := { program := "ytkjnledamamniaa", sum := "407e9a926c5b0e81509043d6ba3b1a5f0924ee3dbb32a36b2b2aa1ccb70b08dd", func := "rollbacknet/rollbacknetlaw07.ImageLocal", spec := "imageLocal", apart := false, narrowed := true }
def ImageLocalUptoSaid : Prop := imageLocalUptoRow.holds Try.pinned (OpenSpec.upto imageLocalSpec)

/-- 'rollbacknetlaw07.ImageDiffs', WHERE WHAT IT READS IS OF BULK AT MOST 1048576: true; the input reads as it did. -/
def imageDiffsUptoRow : OpenClaim := { program := "ytkjnledamamniaa", sum := "407e9a926c5b0e81509043d6ba3b1a5f0924ee3dbb32a36b2b2aa1ccb70b08dd", func := "rollbacknet/rollbacknetlaw07.ImageDiffs", spec := "imageDiffs", apart := false, narrowed := true }
def ImageDiffsUptoSaid : Prop := imageDiffsUptoRow.holds Try.pinned (OpenSpec.upto imageDiffsSpec)

/-- 'rollbacknetlaw07.ImageApplies', WHERE WHAT IT READS IS OF BULK AT MOST 1048576: true; the input reads as it did. -/
def imageAppliesUptoRow : OpenClaim := { program := "ytkjnledamamniaa", sum := "407e9a926c5b0e81509043d6ba3b1a5f0924ee3dbb32a36b2b2aa1ccb70b08dd", func := "rollbacknet/rollbacknetlaw07.ImageApplies", spec := "imageApplies", apart := false, narrowed := true }
def ImageAppliesUptoSaid : Prop := imageAppliesUptoRow.holds Try.pinned (OpenSpec.upto imageAppliesSpec)

/-- 'rollbacknetlaw07.ImageBack', WHERE WHAT IT READS IS OF BULK AT MOST 1048576: true; the input reads as it did. -/
def imageBackUptoRow : OpenClaim := { program := "ytkjnledamamniaa", sum := "407e9a926c5b0e81509043d6ba3b1a5f0924ee3dbb32a36b2b2aa1ccb70b08dd", func := "rollbacknet/rollbacknetlaw07.ImageBack", spec := "imageBack", apart := false, narrowed := true }
def ImageBackUptoSaid : Prop := imageBackUptoRow.holds Try.pinned (OpenSpec.upto imageBackSpec)

/-- 'rollbacknetlaw07.ImageComposes', WHERE WHAT IT READS IS OF BULK AT MOST 1048576: true; the input reads as it did. -/
def imageComposesUptoRow : OpenClaim := { program := "ytkjnledamamniaa", sum := "407e9a926c5b0e81509043d6ba3b1a5f0924ee3dbb32a36b2b2aa1ccb70b08dd", func := "rollbacknet/rollbacknetlaw07.ImageComposes", spec := "imageComposes", unfollowed := true, recurses := true, apart := false, narrowed := true }
def ImageComposesUptoSaid : Prop := imageComposesUptoRow.holds Try.pinned (OpenSpec.upto imageComposesSpec)

/-- 'rollbacknetlaw07.ImageChains', WHERE WHAT IT READS IS OF BULK AT MOST 1048576: true; the input reads as it did. -/
def imageChainsUptoRow : OpenClaim := { program := "ytkjnledamamniaa", sum := "407e9a926c5b0e81509043d6ba3b1a5f0924ee3dbb32a36b2b2aa1ccb70b08dd", func := "rollbacknet/rollbacknetlaw07.ImageChains", spec := "imageChains", unfollowed := true, recurses := true, apart := false, narrowed := true }
def ImageChainsUptoSaid : Prop := imageChainsUptoRow.holds Try.pinned (OpenSpec.upto imageChainsSpec)

end Rows
end Go.Proofs.Ytkjnledamamniaa
