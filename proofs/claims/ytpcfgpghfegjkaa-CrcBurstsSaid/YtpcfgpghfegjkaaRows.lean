/-
  No cell of these rows narrows 'for every input' (looked for: loops, veiled, ifaces, maps, wideKeys, modest, calm, conditions, laid).
  DERIVED. THE GIVEN ROWS OF THIS SEAT. 11 by the template 'for every input the law returns true; each argument reads behind the call as it read before'; 0 by the template 'total and deterministic' (their statements: YtpcfgpghfegjkaaTotals.lean).
  GIVEN WITH THE SEED: the statements are not yours to turn. If you find one false, say at which input.
  Laid BY PROGRAM, IN A SANDBOX (cutbox-rows.mjs): the forced cells as the released guide's own fill.sh prints them over the translation 273b336cf179b744… (all of the seat's roots in one cut). By AI agents, Wed Nov 11 2026. No macro, syntax, notation, axiom, sorry.
-/
import Derived.Test.YtpcfgpghfegjkaaChecked
import GoSem.Claim
import GoSem.ClaimJoined
import GoSem.ClaimMapViews
import Derived.JoinedTies
import Derived.KernelRfl
namespace Go.Proofs.Ytpcfgpghfegjkaa
/- THE CELL 'sum', in the pinned program and in every row, IS THE sha256 OF THE DUMP (.gsa) THAT YtpcfgpghfegjkaaProg.lean LOADS. Nothing in Lean hashes anything: it is a label: what it is worth is what the hold of that sum in a sandbox is worth. -/
noncomputable def Try.pinned : Pinned := { name := "ytpcfgpghfegjkaa", sum := "273b336cf179b744bb9012045c1f1b9fb54f0f5f38d77a6d3bc34748bba2554d", checked := Try.checked }
namespace Rows
def none {H : Type} : Left H := { results := [], args := [] }

/-- 'rollbacknetlaw29.SenderlogNexts': WHATEVER THE INPUT: true; the input reads as it did. -/
def senderlogNextsSpec : ChangeSpec := { name := "senderlogNexts", fn := fun _ => fun
  | [d1, d2, d3] => { results := [.lit (.bool true)], args := [d1, d2, d3] }
  | _ => none }
def senderlogNextsRow : OpenClaim := { program := "ytpcfgpghfegjkaa", sum := "273b336cf179b744bb9012045c1f1b9fb54f0f5f38d77a6d3bc34748bba2554d", func := "rollbacknet/rollbacknetlaw29.SenderlogNexts", spec := "senderlogNexts", apart := false }
def SenderlogNextsSaid : Prop := senderlogNextsRow.holds Try.pinned (OpenSpec.ofChange senderlogNextsSpec)

/-- ITS FALSE NEIGHBOUR: 'it returns false'. Refute it at one input. -/
def senderlogNextsWrong : ChangeSpec := { name := "senderlogNexts", fn := fun _ => fun
  | [d1, d2, d3] => { results := [.lit (.bool false)], args := [d1, d2, d3] }
  | _ => none }
def SenderlogNextsWrongFalsely : Prop := senderlogNextsRow.holds Try.pinned (OpenSpec.ofChange senderlogNextsWrong)

/-- 'rollbacknetlaw29.SenderlogEnds': WHATEVER THE INPUT: true; the input reads as it did. -/
def senderlogEndsSpec : ChangeSpec := { name := "senderlogEnds", fn := fun _ => fun
  | [d1, d2] => { results := [.lit (.bool true)], args := [d1, d2] }
  | _ => none }
def senderlogEndsRow : OpenClaim := { program := "ytpcfgpghfegjkaa", sum := "273b336cf179b744bb9012045c1f1b9fb54f0f5f38d77a6d3bc34748bba2554d", func := "rollbacknet/rollbacknetlaw29.SenderlogEnds", spec := "senderlogEnds", apart := false }
def SenderlogEndsSaid : Prop := senderlogEndsRow.holds Try.pinned (OpenSpec.ofChange senderlogEndsSpec)

/-- ITS FALSE NEIGHBOUR: 'it returns false'. Refute it at one input. -/
def senderlogEndsWrong : ChangeSpec := { name := "senderlogEnds", fn := fun _ => fun
  | [d1, d2] => { results := [.lit (.bool false)], args := [d1, d2] }
  | _ => none }
def SenderlogEndsWrongFalsely : Prop := senderlogEndsRow.holds Try.pinned (OpenSpec.ofChange senderlogEndsWrong)

/-- 'rollbacknetlaw09.CrcSums': WHATEVER THE INPUT: true; the input reads as it did. -/
def crcSumsSpec : ChangeSpec := { name := "crcSums", fn := fun _ => fun
  | [d1, d2] => { results := [.lit (.bool true)], args := [d1, d2] }
  | _ => none }
def crcSumsRow : OpenClaim := { program := "ytpcfgpghfegjkaa", sum := "273b336cf179b744bb9012045c1f1b9fb54f0f5f38d77a6d3bc34748bba2554d", func := "rollbacknet/rollbacknetlaw09.CrcSums", spec := "crcSums", apart := false }
def CrcSumsSaid : Prop := crcSumsRow.holds Try.pinned (OpenSpec.ofChange crcSumsSpec)

/-- ITS FALSE NEIGHBOUR: 'it returns false'. Refute it at one input. -/
def crcSumsWrong : ChangeSpec := { name := "crcSums", fn := fun _ => fun
  | [d1, d2] => { results := [.lit (.bool false)], args := [d1, d2] }
  | _ => none }
def CrcSumsWrongFalsely : Prop := crcSumsRow.holds Try.pinned (OpenSpec.ofChange crcSumsWrong)

/-- 'rollbacknetlaw09.CrcJoins': WHATEVER THE INPUT: true; the input reads as it did. -/
def crcJoinsSpec : ChangeSpec := { name := "crcJoins", fn := fun _ => fun
  | [d1, d2, d3] => { results := [.lit (.bool true)], args := [d1, d2, d3] }
  | _ => none }
def crcJoinsRow : OpenClaim := { program := "ytpcfgpghfegjkaa", sum := "273b336cf179b744bb9012045c1f1b9fb54f0f5f38d77a6d3bc34748bba2554d", func := "rollbacknet/rollbacknetlaw09.CrcJoins", spec := "crcJoins", apart := false }
def CrcJoinsSaid : Prop := crcJoinsRow.holds Try.pinned (OpenSpec.ofChange crcJoinsSpec)

/-- ITS FALSE NEIGHBOUR: 'it returns false'. Refute it at one input. -/
def crcJoinsWrong : ChangeSpec := { name := "crcJoins", fn := fun _ => fun
  | [d1, d2, d3] => { results := [.lit (.bool false)], args := [d1, d2, d3] }
  | _ => none }
def CrcJoinsWrongFalsely : Prop := crcJoinsRow.holds Try.pinned (OpenSpec.ofChange crcJoinsWrong)

/-- 'rollbacknetlaw09.CrcXors': WHATEVER THE INPUT: true; the input reads as it did. -/
def crcXorsSpec : ChangeSpec := { name := "crcXors", fn := fun _ => fun
  | [d1, d2, d3] => { results := [.lit (.bool true)], args := [d1, d2, d3] }
  | _ => none }
def crcXorsRow : OpenClaim := { program := "ytpcfgpghfegjkaa", sum := "273b336cf179b744bb9012045c1f1b9fb54f0f5f38d77a6d3bc34748bba2554d", func := "rollbacknet/rollbacknetlaw09.CrcXors", spec := "crcXors", apart := false }
def CrcXorsSaid : Prop := crcXorsRow.holds Try.pinned (OpenSpec.ofChange crcXorsSpec)

/-- ITS FALSE NEIGHBOUR: 'it returns false'. Refute it at one input. -/
def crcXorsWrong : ChangeSpec := { name := "crcXors", fn := fun _ => fun
  | [d1, d2, d3] => { results := [.lit (.bool false)], args := [d1, d2, d3] }
  | _ => none }
def CrcXorsWrongFalsely : Prop := crcXorsRow.holds Try.pinned (OpenSpec.ofChange crcXorsWrong)

/-- 'rollbacknetlaw09.CrcBursts': WHATEVER THE INPUT: true; the input reads as it did. -/
def crcBurstsSpec : ChangeSpec := { name := "crcBursts", fn := fun _ => fun
  | [d1, d2, d3] => { results := [.lit (.bool true)], args := [d1, d2, d3] }
  | _ => none }
def crcBurstsRow : OpenClaim := { program := "ytpcfgpghfegjkaa", sum := "273b336cf179b744bb9012045c1f1b9fb54f0f5f38d77a6d3bc34748bba2554d", func := "rollbacknet/rollbacknetlaw09.CrcBursts", spec := "crcBursts", apart := false }
def CrcBurstsSaid : Prop := crcBurstsRow.holds Try.pinned (OpenSpec.ofChange crcBurstsSpec)

/-- ITS FALSE NEIGHBOUR: 'it returns false'. Refute it at one input. -/
def crcBurstsWrong : ChangeSpec := { name := "crcBursts", fn := fun _ => fun
  | [d1, d2, d3] => { results := [.lit (.bool false)], args := [d1, d2, d3] }
  | _ => none }
def CrcBurstsWrongFalsely : Prop := crcBurstsRow.holds Try.pinned (OpenSpec.ofChange crcBurstsWrong)

/-- 'rollbacknetlaw29.SenderlogRaises': WHATEVER THE INPUT: true; the input reads as it did. -/
def senderlogRaisesSpec : ChangeSpec := { name := "senderlogRaises", fn := fun _ => fun
  | [d1, d2, d3] => { results := [.lit (.bool true)], args := [d1, d2, d3] }
  | _ => none }
def senderlogRaisesRow : OpenClaim := { program := "ytpcfgpghfegjkaa", sum := "273b336cf179b744bb9012045c1f1b9fb54f0f5f38d77a6d3bc34748bba2554d", func := "rollbacknet/rollbacknetlaw29.SenderlogRaises", spec := "senderlogRaises", apart := false }
def SenderlogRaisesSaid : Prop := senderlogRaisesRow.holds Try.pinned (OpenSpec.ofChange senderlogRaisesSpec)

/-- ITS FALSE NEIGHBOUR: 'it returns false'. Refute it at one input. -/
def senderlogRaisesWrong : ChangeSpec := { name := "senderlogRaises", fn := fun _ => fun
  | [d1, d2, d3] => { results := [.lit (.bool false)], args := [d1, d2, d3] }
  | _ => none }
def SenderlogRaisesWrongFalsely : Prop := senderlogRaisesRow.holds Try.pinned (OpenSpec.ofChange senderlogRaisesWrong)

/-- 'rollbacknetlaw29.SenderlogFollows': WHATEVER THE INPUT: true; the input reads as it did. -/
def senderlogFollowsSpec : ChangeSpec := { name := "senderlogFollows", fn := fun _ => fun
  | [d] => { results := [.lit (.bool true)], args := [d] }
  | _ => none }
def senderlogFollowsRow : OpenClaim := { program := "ytpcfgpghfegjkaa", sum := "273b336cf179b744bb9012045c1f1b9fb54f0f5f38d77a6d3bc34748bba2554d", func := "rollbacknet/rollbacknetlaw29.SenderlogFollows", spec := "senderlogFollows", apart := false }
def SenderlogFollowsSaid : Prop := senderlogFollowsRow.holds Try.pinned (OpenSpec.ofChange senderlogFollowsSpec)

/-- ITS FALSE NEIGHBOUR: 'it returns false'. Refute it at one input. -/
def senderlogFollowsWrong : ChangeSpec := { name := "senderlogFollows", fn := fun _ => fun
  | [d] => { results := [.lit (.bool false)], args := [d] }
  | _ => none }
def SenderlogFollowsWrongFalsely : Prop := senderlogFollowsRow.holds Try.pinned (OpenSpec.ofChange senderlogFollowsWrong)

/-- 'rollbacknetlaw29.SenderlogRecords': WHATEVER THE INPUT: true; the input reads as it did. -/
def senderlogRecordsSpec : ChangeSpec := { name := "senderlogRecords", fn := fun _ => fun
  | [d1, d2, d3] => { results := [.lit (.bool true)], args := [d1, d2, d3] }
  | _ => none }
def senderlogRecordsRow : OpenClaim := { program := "ytpcfgpghfegjkaa", sum := "273b336cf179b744bb9012045c1f1b9fb54f0f5f38d77a6d3bc34748bba2554d", func := "rollbacknet/rollbacknetlaw29.SenderlogRecords", spec := "senderlogRecords", apart := false }
def SenderlogRecordsSaid : Prop := senderlogRecordsRow.holds Try.pinned (OpenSpec.ofChange senderlogRecordsSpec)

/-- ITS FALSE NEIGHBOUR: 'it returns false'. Refute it at one input. -/
def senderlogRecordsWrong : ChangeSpec := { name := "senderlogRecords", fn := fun _ => fun
  | [d1, d2, d3] => { results := [.lit (.bool false)], args := [d1, d2, d3] }
  | _ => none }
def SenderlogRecordsWrongFalsely : Prop := senderlogRecordsRow.holds Try.pinned (OpenSpec.ofChange senderlogRecordsWrong)

/-- 'rollbacknetlaw29.SenderlogRebuilds': WHATEVER THE INPUT: true; the input reads as it did. -/
def senderlogRebuildsSpec : ChangeSpec := { name := "senderlogRebuilds", fn := fun _ => fun
  | [d1, d2, d3] => { results := [.lit (.bool true)], args := [d1, d2, d3] }
  | _ => none }
def senderlogRebuildsRow : OpenClaim := { program := "ytpcfgpghfegjkaa", sum := "273b336cf179b744bb9012045c1f1b9fb54f0f5f38d77a6d3bc34748bba2554d", func := "rollbacknet/rollbacknetlaw29.SenderlogRebuilds", spec := "senderlogRebuilds", unfollowed := true, recurses := true, apart := false }
def SenderlogRebuildsSaid : Prop := senderlogRebuildsRow.holds Try.pinned (OpenSpec.ofChange senderlogRebuildsSpec)

/-- ITS FALSE NEIGHBOUR: 'it returns false'. Refute it at one input. -/
def senderlogRebuildsWrong : ChangeSpec := { name := "senderlogRebuilds", fn := fun _ => fun
  | [d1, d2, d3] => { results := [.lit (.bool false)], args := [d1, d2, d3] }
  | _ => none }
def SenderlogRebuildsWrongFalsely : Prop := senderlogRebuildsRow.holds Try.pinned (OpenSpec.ofChange senderlogRebuildsWrong)

/-- 'rollbacknetlaw29.SenderlogRecovers': WHATEVER THE INPUT: true; the input reads as it did. -/
def senderlogRecoversSpec : ChangeSpec := { name := "senderlogRecovers", fn := fun _ => fun
  | [d1, d2] => { results := [.lit (.bool true)], args := [d1, d2] }
  | _ => none }
def senderlogRecoversRow : OpenClaim := { program := "ytpcfgpghfegjkaa", sum := "273b336cf179b744bb9012045c1f1b9fb54f0f5f38d77a6d3bc34748bba2554d", func := "rollbacknet/rollbacknetlaw29.SenderlogRecovers", spec := "senderlogRecovers", unfollowed := true, recurses := true, apart := false }
def SenderlogRecoversSaid : Prop := senderlogRecoversRow.holds Try.pinned (OpenSpec.ofChange senderlogRecoversSpec)

/-- ITS FALSE NEIGHBOUR: 'it returns false'. Refute it at one input. -/
def senderlogRecoversWrong : ChangeSpec := { name := "senderlogRecovers", fn := fun _ => fun
  | [d1, d2] => { results := [.lit (.bool false)], args := [d1, d2] }
  | _ => none }
def SenderlogRecoversWrongFalsely : Prop := senderlogRecoversRow.holds Try.pinned (OpenSpec.ofChange senderlogRecoversWrong)

/- THE SECOND FORM. 'bulk': how many values and letters a reading holds, each counted each time it is reached (what is shared counts as often as it is met; a slice's spare places count too). A statement '..UptoSaid' is the law's where the arguments, and the package variables that the reading takes, are together of bulk at most 1048576: NARROWER than '..Said'. Prove '..Said' where nothing that the law and all that it calls make is longer than what came in: it says more and counts as full. Else prove '..UptoSaid'. A law counts once. -/
mutual
def uptoBulk {H : Type} : DataW H → Nat
  | .lit (.string bytes) => bytes.length + 1
  | .lit _ => 1
  | .nil => 1
  | .ptr d => uptoBulk d + 1
  | .slice elems spare => uptoBulkAll elems + uptoBulkAll spare + 1
  | .agg parts => uptoBulkAll parts + 1
  | .iface _ d => uptoBulk d + 1
  | .map entries => uptoBulkEntries entries + 1
  | .held _ => 1
def uptoBulkAll {H : Type} : List (DataW H) → Nat
  | [] => 0
  | d :: r => uptoBulk d + uptoBulkAll r
def uptoBulkEntries {H : Type} : List (Lit × DataW H) → Nat
  | [] => 0
  | x :: r => uptoBulkEntry x + uptoBulkEntries r
def uptoBulkEntry {H : Type} : Lit × DataW H → Nat
  | (.string bytes, d) => bytes.length + uptoBulk d + 1
  | (_, d) => uptoBulk d + 1
 end
def uptoSmall : (H : Type) → List (DataW H) → Bool := fun _ ds => decide (uptoBulkAll ds ≤ 1048576)
def OpenSpec.upto (s : _root_.Go.ChangeSpec) : _root_.Go.OpenSpec := { _root_.Go.OpenSpec.ofChange s with cond := some uptoSmall }

/-- 'rollbacknetlaw29.SenderlogNexts', WHERE WHAT IT READS IS OF BULK AT MOST 1048576: true; the input reads as it did. -/
def senderlogNextsUptoRow : OpenClaim := { program := "ytpcfgpghfegjkaa", sum := "273b336cf179b744bb9012045c1f1b9fb54f0f5f38d77a6d3bc34748bba2554d", func := "rollbacknet/rollbacknetlaw29.SenderlogNexts", spec := "senderlogNexts", apart := false, narrowed := true }
def SenderlogNextsUptoSaid : Prop := senderlogNextsUptoRow.holds Try.pinned (OpenSpec.upto senderlogNextsSpec)

/-- 'rollbacknetlaw29.SenderlogEnds', WHERE WHAT IT READS IS OF BULK AT MOST 1048576: true; the input reads as it did. -/
def senderlogEndsUptoRow : OpenClaim := { program := "ytpcfgpghfegjkaa", sum := "273b336cf179b744bb9012045c1f1b9fb54f0f5f38d77a6d3bc34748bba2554d", func := "rollbacknet/rollbacknetlaw29.SenderlogEnds", spec := "senderlogEnds", apart := false, narrowed := true }
def SenderlogEndsUptoSaid : Prop := senderlogEndsUptoRow.holds Try.pinned (OpenSpec.upto senderlogEndsSpec)

/-- 'rollbacknetlaw09.CrcSums', WHERE WHAT IT READS IS OF BULK AT MOST 1048576: true; the input reads as it did. -/
def crcSumsUptoRow : OpenClaim := { program := "ytpcfgpghfegjkaa", sum := "273b336cf179b744bb9012045c1f1b9fb54f0f5f38d77a6d3bc34748bba2554d", func := "rollbacknet/rollbacknetlaw09.CrcSums", spec := "crcSums", apart := false, narrowed := true }
def CrcSumsUptoSaid : Prop := crcSumsUptoRow.holds Try.pinned (OpenSpec.upto crcSumsSpec)

/-- 'rollbacknetlaw09.CrcJoins', WHERE WHAT IT READS IS OF BULK AT MOST 1048576: true; the input reads as it did. -/
def crcJoinsUptoRow : OpenClaim := { program := "ytpcfgpghfegjkaa", sum := "273b336cf179b744bb9012045c1f1b9fb54f0f5f38d77a6d3bc34748bba2554d", func := "rollbacknet/rollbacknetlaw09.CrcJoins", spec := "crcJoins", apart := false, narrowed := true }
def CrcJoinsUptoSaid : Prop := crcJoinsUptoRow.holds Try.pinned (OpenSpec.upto crcJoinsSpec)

/-- 'rollbacknetlaw09.CrcXors', WHERE WHAT IT READS IS OF BULK AT MOST 1048576: true; the input reads as it did. -/
def crcXorsUptoRow : OpenClaim := { program := "ytpcfgpghfegjkaa", sum := "273b336cf179b744bb9012045c1f1b9fb54f0f5f38d77a6d3bc34748bba2554d", func := "rollbacknet/rollbacknetlaw09.CrcXors", spec := "crcXors", apart := false, narrowed := true }
def CrcXorsUptoSaid : Prop := crcXorsUptoRow.holds Try.pinned (OpenSpec.upto crcXorsSpec)

/-- 'rollbacknetlaw09.CrcBursts', WHERE WHAT IT READS IS OF BULK AT MOST 1048576: true; the input reads as it did. -/
def crcBurstsUptoRow : OpenClaim := { program := "ytpcfgpghfegjkaa", sum := "273b336cf179b744bb9012045c1f1b9fb54f0f5f38d77a6d3bc34748bba2554d", func := "rollbacknet/rollbacknetlaw09.CrcBursts", spec := "crcBursts", apart := false, narrowed := true }
def CrcBurstsUptoSaid : Prop := crcBurstsUptoRow.holds Try.pinned (OpenSpec.upto crcBurstsSpec)

/-- 'rollbacknetlaw29.SenderlogRaises', WHERE WHAT IT READS IS OF BULK AT MOST 1048576: true; the input reads as it did. -/
def senderlogRaisesUptoRow : OpenClaim := { program := "ytpcfgpghfegjkaa", sum := "273b336cf179b744bb9012045c1f1b9fb54f0f5f38d77a6d3bc34748bba2554d", func := "rollbacknet/rollbacknetlaw29.SenderlogRaises", spec := "senderlogRaises", apart := false, narrowed := true }
def SenderlogRaisesUptoSaid : Prop := senderlogRaisesUptoRow.holds Try.pinned (OpenSpec.upto senderlogRaisesSpec)

/-- 'rollbacknetlaw29.SenderlogFollows', WHERE WHAT IT READS IS OF BULK AT MOST 1048576: true; the input reads as it did. -/
def senderlogFollowsUptoRow : OpenClaim := { program := "ytpcfgpghfegjkaa", sum := "273b336cf179b744bb9012045c1f1b9fb54f0f5f38d77a6d3bc34748bba2554d", func := "rollbacknet/rollbacknetlaw29.SenderlogFollows", spec := "senderlogFollows", apart := false, narrowed := true }
def SenderlogFollowsUptoSaid : Prop := senderlogFollowsUptoRow.holds Try.pinned (OpenSpec.upto senderlogFollowsSpec)

/-- 'rollbacknetlaw29.SenderlogRecords', WHERE WHAT IT READS IS OF BULK AT MOST 1048576: true; the input reads as it did. -/
def senderlogRecordsUptoRow : OpenClaim := { program := "ytpcfgpghfegjkaa", sum := "273b336cf179b744bb9012045c1f1b9fb54f0f5f38d77a6d3bc34748bba2554d", func := "rollbacknet/rollbacknetlaw29.SenderlogRecords", spec := "senderlogRecords", apart := false, narrowed := true }
def SenderlogRecordsUptoSaid : Prop := senderlogRecordsUptoRow.holds Try.pinned (OpenSpec.upto senderlogRecordsSpec)

/-- 'rollbacknetlaw29.SenderlogRebuilds', WHERE WHAT IT READS IS OF BULK AT MOST 1048576: true; the input reads as it did. -/
def senderlogRebuildsUptoRow : OpenClaim := { program := "ytpcfgpghfegjkaa", sum := "273b336cf179b744bb9012045c1f1b9fb54f0f5f38d77a6d3bc34748bba2554d", func := "rollbacknet/rollbacknetlaw29.SenderlogRebuilds", spec := "senderlogRebuilds", unfollowed := true, recurses := true, apart := false, narrowed := true }
def SenderlogRebuildsUptoSaid : Prop := senderlogRebuildsUptoRow.holds Try.pinned (OpenSpec.upto senderlogRebuildsSpec)

/-- 'rollbacknetlaw29.SenderlogRecovers', WHERE WHAT IT READS IS OF BULK AT MOST 1048576: true; the input reads as it did. -/
def senderlogRecoversUptoRow : OpenClaim := { program := "ytpcfgpghfegjkaa", sum := "273b336cf179b744bb9012045c1f1b9fb54f0f5f38d77a6d3bc34748bba2554d", func := "rollbacknet/rollbacknetlaw29.SenderlogRecovers", spec := "senderlogRecovers", unfollowed := true, recurses := true, apart := false, narrowed := true }
def SenderlogRecoversUptoSaid : Prop := senderlogRecoversUptoRow.holds Try.pinned (OpenSpec.upto senderlogRecoversSpec)

end Rows
end Go.Proofs.Ytpcfgpghfegjkaa
