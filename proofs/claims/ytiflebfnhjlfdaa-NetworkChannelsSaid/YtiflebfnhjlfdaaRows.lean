/-
  No cell of these rows narrows 'for every input' (looked for: loops, veiled, ifaces, maps, wideKeys, modest, calm, conditions, laid).
  DERIVED. THE GIVEN ROWS OF THIS SEAT. 5 by the template 'for every input the law returns true; each argument reads behind the call as it read before'; 0 by the template 'total and deterministic' (their statements: YtiflebfnhjlfdaaTotals.lean).
  GIVEN WITH THE SEED: the statements are not yours to turn. If you find one false, say at which input.
  Laid BY PROGRAM, IN A SANDBOX (cutbox-rows.mjs): the forced cells as the released guide's own fill.sh prints them over the translation a138d7583300d54a… (all of the seat's roots in one cut). By AI agents, Wed Nov 11 2026. No macro, syntax, notation, axiom, sorry.
-/
import Derived.Test.YtiflebfnhjlfdaaChecked
import GoSem.Claim
import GoSem.ClaimJoined
import GoSem.ClaimMapViews
import Derived.JoinedTies
import Derived.KernelRfl
namespace Go.Proofs.Ytiflebfnhjlfdaa
/- THE CELL 'sum', in the pinned program and in every row, IS THE sha256 OF THE DUMP (.gsa) THAT YtiflebfnhjlfdaaProg.lean LOADS. Nothing in Lean hashes anything: it is a label: what it is worth is what the hold of that sum in a sandbox is worth. -/
noncomputable def Try.pinned : Pinned := { name := "ytiflebfnhjlfdaa", sum := "a138d7583300d54ad285aa7fa3315af8097585fae78356464797389e772290f6", checked := Try.checked }
namespace Rows
def none {H : Type} : Left H := { results := [], args := [] }

/-- 'rollbacknetlaw14.NetworkAsks': WHATEVER THE INPUT: true; the input reads as it did. -/
def networkAsksSpec : ChangeSpec := { name := "networkAsks", fn := fun _ => fun
  | [d1, d2, d3, d4, d5, d6] => { results := [.lit (.bool true)], args := [d1, d2, d3, d4, d5, d6] }
  | _ => none }
def networkAsksRow : OpenClaim := { program := "ytiflebfnhjlfdaa", sum := "a138d7583300d54ad285aa7fa3315af8097585fae78356464797389e772290f6", func := "rollbacknet/rollbacknetlaw14.NetworkAsks", spec := "networkAsks", unfollowed := true, recurses := true, apart := false }
def NetworkAsksSaid : Prop := networkAsksRow.holds Try.pinned (OpenSpec.ofChange networkAsksSpec)

/-- ITS FALSE NEIGHBOUR: 'it returns false'. Refute it at one input. -/
def networkAsksWrong : ChangeSpec := { name := "networkAsks", fn := fun _ => fun
  | [d1, d2, d3, d4, d5, d6] => { results := [.lit (.bool false)], args := [d1, d2, d3, d4, d5, d6] }
  | _ => none }
def NetworkAsksWrongFalsely : Prop := networkAsksRow.holds Try.pinned (OpenSpec.ofChange networkAsksWrong)

/-- 'rollbacknetlaw14.NetworkChannels': WHATEVER THE INPUT: true; the input reads as it did. -/
def networkChannelsSpec : ChangeSpec := { name := "networkChannels", fn := fun _ => fun
  | [d] => { results := [.lit (.bool true)], args := [d] }
  | _ => none }
def networkChannelsRow : OpenClaim := { program := "ytiflebfnhjlfdaa", sum := "a138d7583300d54ad285aa7fa3315af8097585fae78356464797389e772290f6", func := "rollbacknet/rollbacknetlaw14.NetworkChannels", spec := "networkChannels", unfollowed := true, recurses := true, apart := false }
def NetworkChannelsSaid : Prop := networkChannelsRow.holds Try.pinned (OpenSpec.ofChange networkChannelsSpec)

/-- ITS FALSE NEIGHBOUR: 'it returns false'. Refute it at one input. -/
def networkChannelsWrong : ChangeSpec := { name := "networkChannels", fn := fun _ => fun
  | [d] => { results := [.lit (.bool false)], args := [d] }
  | _ => none }
def NetworkChannelsWrongFalsely : Prop := networkChannelsRow.holds Try.pinned (OpenSpec.ofChange networkChannelsWrong)

/-- 'rollbacknetlaw14.NetworkLimits': WHATEVER THE INPUT: true; the input reads as it did. -/
def networkLimitsSpec : ChangeSpec := { name := "networkLimits", fn := fun _ => fun
  | [d1, d2] => { results := [.lit (.bool true)], args := [d1, d2] }
  | _ => none }
def networkLimitsRow : OpenClaim := { program := "ytiflebfnhjlfdaa", sum := "a138d7583300d54ad285aa7fa3315af8097585fae78356464797389e772290f6", func := "rollbacknet/rollbacknetlaw14.NetworkLimits", spec := "networkLimits", unfollowed := true, recurses := true, apart := false }
def NetworkLimitsSaid : Prop := networkLimitsRow.holds Try.pinned (OpenSpec.ofChange networkLimitsSpec)

/-- ITS FALSE NEIGHBOUR: 'it returns false'. Refute it at one input. -/
def networkLimitsWrong : ChangeSpec := { name := "networkLimits", fn := fun _ => fun
  | [d1, d2] => { results := [.lit (.bool false)], args := [d1, d2] }
  | _ => none }
def NetworkLimitsWrongFalsely : Prop := networkLimitsRow.holds Try.pinned (OpenSpec.ofChange networkLimitsWrong)

/-- 'rollbacknetlaw14.NetworkChanges': WHATEVER THE INPUT: true; the input reads as it did. -/
def networkChangesSpec : ChangeSpec := { name := "networkChanges", fn := fun _ => fun
  | [d1, d2, d3] => { results := [.lit (.bool true)], args := [d1, d2, d3] }
  | _ => none }
def networkChangesRow : OpenClaim := { program := "ytiflebfnhjlfdaa", sum := "a138d7583300d54ad285aa7fa3315af8097585fae78356464797389e772290f6", func := "rollbacknet/rollbacknetlaw14.NetworkChanges", spec := "networkChanges", unfollowed := true, recurses := true, apart := false }
def NetworkChangesSaid : Prop := networkChangesRow.holds Try.pinned (OpenSpec.ofChange networkChangesSpec)

/-- ITS FALSE NEIGHBOUR: 'it returns false'. Refute it at one input. -/
def networkChangesWrong : ChangeSpec := { name := "networkChanges", fn := fun _ => fun
  | [d1, d2, d3] => { results := [.lit (.bool false)], args := [d1, d2, d3] }
  | _ => none }
def NetworkChangesWrongFalsely : Prop := networkChangesRow.holds Try.pinned (OpenSpec.ofChange networkChangesWrong)

/-- 'rollbacknetlaw14.NetworkOrder': WHATEVER THE INPUT: true; the input reads as it did. -/
def networkOrderSpec : ChangeSpec := { name := "networkOrder", fn := fun _ => fun
  | [d1, d2] => { results := [.lit (.bool true)], args := [d1, d2] }
  | _ => none }
def networkOrderRow : OpenClaim := { program := "ytiflebfnhjlfdaa", sum := "a138d7583300d54ad285aa7fa3315af8097585fae78356464797389e772290f6", func := "rollbacknet/rollbacknetlaw14.NetworkOrder", spec := "networkOrder", unfollowed := true, recurses := true, apart := false }
def NetworkOrderSaid : Prop := networkOrderRow.holds Try.pinned (OpenSpec.ofChange networkOrderSpec)

/-- ITS FALSE NEIGHBOUR: 'it returns false'. Refute it at one input. -/
def networkOrderWrong : ChangeSpec := { name := "networkOrder", fn := fun _ => fun
  | [d1, d2] => { results := [.lit (.bool false)], args := [d1, d2] }
  | _ => none }
def NetworkOrderWrongFalsely : Prop := networkOrderRow.holds Try.pinned (OpenSpec.ofChange networkOrderWrong)

/- THE SECOND FORM. 'bulk': how many values and letters a reading holds, each counted each time it is reached (what is shared counts as often as it is met; a slice's spare places count too). A statement '..UptoSaid' is the law's where the arguments, and the package variables that the reading takes, are together of bulk at most 1048576: NARROWER than '..Said'. Prove '..Said' where nothing that the law and all that it calls make is longer than what came in: it says more and counts as full. Else prove '..UptoSaid'. A law counts once. -/
mutual
def uptoBulk {H : Type} : DataW H → Nat
  | .lit (.string bytes) => bytes.length + 1
  | .lit _ => 1
  | .nil => 1
  | .ptr d => uptoBulk d + 1
  | .slice elems spare => uptoBulkAll elems + uptoBulkAll spare + 1
  | .agg parts => uptoBulkAll parts + 1
  | .iface _ d => uptoBulk d + 1
  | .map entries => uptoBulkEntries entries + 1
  | .held _ => 1
def uptoBulkAll {H : Type} : List (DataW H) → Nat
  | [] => 0
  | d :: r => uptoBulk d + uptoBulkAll r
def uptoBulkEntries {H : Type} : List (Lit × DataW H) → Nat
  | [] => 0
  | x :: r => uptoBulkEntry x + uptoBulkEntries r
def uptoBulkEntry {H : Type} : Lit × DataW H → Nat
  | (.string bytes, d) => bytes.length + uptoBulk d + 1
  | (_, d) => uptoBulk d + 1
 end
def uptoSmall : (H : Type) → List (DataW H) → Bool := fun _ ds => decide (uptoBulkAll ds ≤ 1048576)
def OpenSpec.upto (s : _root_.Go.ChangeSpec) : _root_.Go.OpenSpec := { _root_.Go.OpenSpec.ofChange s with cond := some uptoSmall }

/-- 'rollbacknetlaw14.NetworkAsks', WHERE WHAT IT READS IS OF BULK AT MOST 1048576: true; the input reads as it did. -/
def networkAsksUptoRow : OpenClaim := { program := "ytiflebfnhjlfdaa", sum := "a138d7583300d54ad285aa7fa3315af8097585fae78356464797389e772290f6", func := "rollbacknet/rollbacknetlaw14.NetworkAsks", spec := "networkAsks", unfollowed := true, recurses := true, apart := false, narrowed := true }
def NetworkAsksUptoSaid : Prop := networkAsksUptoRow.holds Try.pinned (OpenSpec.upto networkAsksSpec)

/-- 'rollbacknetlaw14.NetworkChannels', WHERE WHAT IT READS IS OF BULK AT MOST 1048576: true; the input reads as it did. -/
def networkChannelsUptoRow : OpenClaim := { program := "ytiflebfnhjlfdaa", sum := "a138d7583300d54ad285aa7fa3315af8097585fae78356464797389e772290f6", func := "rollbacknet/rollbacknetlaw14.NetworkChannels", spec := "networkChannels", unfollowed := true, recurses := true, apart := false, narrowed := true }
def NetworkChannelsUptoSaid : Prop := networkChannelsUptoRow.holds Try.pinned (OpenSpec.upto networkChannelsSpec)

/-- 'rollbacknetlaw14.NetworkLimits', WHERE WHAT IT READS IS OF BULK AT MOST 1048576: true; the input reads as it did. -/
def networkLimitsUptoRow : OpenClaim := { program := "ytiflebfnhjlfdaa", sum := "a138d7583300d54ad285aa7fa3315af8097585fae78356464797389e772290f6", func := "rollbacknet/rollbacknetlaw14.NetworkLimits", spec := "networkLimits", unfollowed := true, recurses := true, apart := false, narrowed := true }
def NetworkLimitsUptoSaid : Prop := networkLimitsUptoRow.holds Try.pinned (OpenSpec.upto networkLimitsSpec)

/-- 'rollbacknetlaw14.NetworkChanges', WHERE WHAT IT READS IS OF BULK AT MOST 1048576: true; the input reads as it did. -/
def networkChangesUptoRow : OpenClaim := { program := "ytiflebfnhjlfdaa", sum := "a138d7583300d54ad285aa7fa3315af8097585fae78356464797389e772290f6", func := "rollbacknet/rollbacknetlaw14.NetworkChanges", spec := "networkChanges", unfollowed := true, recurses := true, apart := false, narrowed := true }
def NetworkChangesUptoSaid : Prop := networkChangesUptoRow.holds Try.pinned (OpenSpec.upto networkChangesSpec)

/-- 'rollbacknetlaw14.NetworkOrder', WHERE WHAT IT READS IS OF BULK AT MOST 1048576: true; the input reads as it did. -/
def networkOrderUptoRow : OpenClaim := { program := "ytiflebfnhjlfdaa", sum := "a138d7583300d54ad285aa7fa3315af8097585fae78356464797389e772290f6", func := "rollbacknet/rollbacknetlaw14.NetworkOrder", spec := "networkOrder", unfollowed := true, recurses := true, apart := false, narrowed := true }
def NetworkOrderUptoSaid : Prop := networkOrderUptoRow.holds Try.pinned (OpenSpec.upto networkOrderSpec)

end Rows
end Go.Proofs.Ytiflebfnhjlfdaa
