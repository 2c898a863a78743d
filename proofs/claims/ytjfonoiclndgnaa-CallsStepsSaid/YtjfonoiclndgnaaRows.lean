/-
  No cell of these rows narrows 'for every input' (looked for: loops, veiled, ifaces, maps, wideKeys, modest, calm, conditions, laid).
  DERIVED. THE GIVEN ROWS OF THIS SEAT. 4 by the template 'for every input the law returns true; each argument reads behind the call as it read before'; 0 by the template 'total and deterministic' (their statements: YtjfonoiclndgnaaTotals.lean).
  GIVEN WITH THE SEED: the statements are not yours to turn. If you find one false, say at which input.
  Laid BY PROGRAM, IN A SANDBOX (cutbox-rows.mjs): the forced cells as the released guide's own fill.sh prints them over the translation fa4c6de6587c81bc… (all of the seat's roots in one cut). By AI agents, Wed Nov 11 2026. No macro, syntax, notation, axiom, sorry.
-/
import Derived.Test.YtjfonoiclndgnaaChecked
import GoSem.Claim
import GoSem.ClaimJoined
import GoSem.ClaimMapViews
import Derived.JoinedTies
import Derived.KernelRfl
namespace Go.Proofs.Ytjfonoiclndgnaa
/- THE CELL 'sum', in the pinned program and in every row, IS THE sha256 OF THE DUMP (.gsa) THAT YtjfonoiclndgnaaProg.lean LOADS. Nothing in Lean hashes anything: it is a label: what it is worth is what the hold of that sum in a sandbox is worth. -/
noncomputable def Try.pinned : Pinned := { name := "ytjfonoiclndgnaa", sum := "fa4c6de6587c81bcb0bcb550ce85a2735d012e32e95f8df6420aac65404ae721", checked := Try.checked }
namespace Rows
def none {H : Type} : Left H := { results := [], args := [] }

/-- 'interdictlaw18.CallsGroups': WHATEVER THE INPUT: true; the input reads as it did. -/
def callsGroupsSpec : ChangeSpec := { name := "callsGroups", fn := fun _ => fun
  | [d] => { results := [.lit (.bool true)], args := [d] }
  | _ => none }
def callsGroupsRow : OpenClaim := { program := "ytjfonoiclndgnaa", sum := "fa4c6de6587c81bcb0bcb550ce85a2735d012e32e95f8df6420aac65404ae721", func := "interdict/interdictlaw18.CallsGroups", spec := "callsGroups", unfollowed := true, recurses := true, apart := false }
def CallsGroupsSaid : Prop := callsGroupsRow.holds Try.pinned (OpenSpec.ofChange callsGroupsSpec)

/-- ITS FALSE NEIGHBOUR: 'it returns false'. Refute it at one input. -/
def callsGroupsWrong : ChangeSpec := { name := "callsGroups", fn := fun _ => fun
  | [d] => { results := [.lit (.bool false)], args := [d] }
  | _ => none }
def CallsGroupsWrongFalsely : Prop := callsGroupsRow.holds Try.pinned (OpenSpec.ofChange callsGroupsWrong)

/-- 'interdictlaw18.CallsEntries': WHATEVER THE INPUT: true; the input reads as it did. -/
def callsEntriesSpec : ChangeSpec := { name := "callsEntries", fn := fun _ => fun
  | [d1, d2] => { results := [.lit (.bool true)], args := [d1, d2] }
  | _ => none }
def callsEntriesRow : OpenClaim := { program := "ytjfonoiclndgnaa", sum := "fa4c6de6587c81bcb0bcb550ce85a2735d012e32e95f8df6420aac65404ae721", func := "interdict/interdictlaw18.CallsEntries", spec := "callsEntries", unfollowed := true, recurses := true, apart := false }
def CallsEntriesSaid : Prop := callsEntriesRow.holds Try.pinned (OpenSpec.ofChange callsEntriesSpec)

/-- ITS FALSE NEIGHBOUR: 'it returns false'. Refute it at one input. -/
def callsEntriesWrong : ChangeSpec := { name := "callsEntries", fn := fun _ => fun
  | [d1, d2] => { results := [.lit (.bool false)], args := [d1, d2] }
  | _ => none }
def CallsEntriesWrongFalsely : Prop := callsEntriesRow.holds Try.pinned (OpenSpec.ofChange callsEntriesWrong)

/-- 'interdictlaw18.CallsOrder': WHATEVER THE INPUT: true; the input reads as it did. -/
def callsOrderSpec : ChangeSpec := { name := "callsOrder", fn := fun _ => fun
  | [d] => { results := [.lit (.bool true)], args := [d] }
  | _ => none }
def callsOrderRow : OpenClaim := { program := "ytjfonoiclndgnaa", sum := "fa4c6de6587c81bcb0bcb550ce85a2735d012e32e95f8df6420aac65404ae721", func := "interdict/interdictlaw18.CallsOrder", spec := "callsOrder", unfollowed := true, recurses := true, apart := false }
def CallsOrderSaid : Prop := callsOrderRow.holds Try.pinned (OpenSpec.ofChange callsOrderSpec)

/-- ITS FALSE NEIGHBOUR: 'it returns false'. Refute it at one input. -/
def callsOrderWrong : ChangeSpec := { name := "callsOrder", fn := fun _ => fun
  | [d] => { results := [.lit (.bool false)], args := [d] }
  | _ => none }
def CallsOrderWrongFalsely : Prop := callsOrderRow.holds Try.pinned (OpenSpec.ofChange callsOrderWrong)

/-- 'interdictlaw18.CallsSteps': WHATEVER THE INPUT: true; the input reads as it did. -/
def callsStepsSpec : ChangeSpec := { name := "callsSteps", fn := fun _ => fun
  | [d1, d2] => { results := [.lit (.bool true)], args := [d1, d2] }
  | _ => none }
def callsStepsRow : OpenClaim := { program := "ytjfonoiclndgnaa", sum := "fa4c6de6587c81bcb0bcb550ce85a2735d012e32e95f8df6420aac65404ae721", func := "interdict/interdictlaw18.CallsSteps", spec := "callsSteps", unfollowed := true, recurses := true, apart := false }
def CallsStepsSaid : Prop := callsStepsRow.holds Try.pinned (OpenSpec.ofChange callsStepsSpec)

/-- ITS FALSE NEIGHBOUR: 'it returns false'. Refute it at one input. -/
def callsStepsWrong : ChangeSpec := { name := "callsSteps", fn := fun _ => fun
  | [d1, d2] => { results := [.lit (.bool false)], args := [d1, d2] }
  | _ => none }
def CallsStepsWrongFalsely : Prop := callsStepsRow.holds Try.pinned (OpenSpec.ofChange callsStepsWrong)

/- THE SECOND FORM. 'bulk': how many values and letters a reading holds, each counted each time it is reached (what is shared counts as often as it is met; a slice's spare places count too). A statement '..UptoSaid' is the law's where the arguments, and the package variables that the reading takes, are together of bulk at most 1048576: NARROWER than '..Said'. Prove '..Said' where nothing that the law and all that it calls make is longer than what came in: it says more and counts as full. Else prove '..UptoSaid'. A law counts once. -/
mutual
def uptoBulk {H : Type} : DataW H → Nat
  | .lit (.string bytes) => bytes.length + 1
  | .lit _ => 1
  | .nil => 1
  | .ptr d => uptoBulk d + 1
  | .slice elems spare => uptoBulkAll elems + uptoBulkAll spare + 1
  | .agg parts => uptoBulkAll parts + 1
  | .iface _ d => uptoBulk d + 1
  | .map entries => uptoBulkEntries entries + 1
  | .held _ => 1
def uptoBulkAll {H : Type} : List (DataW H) → Nat
  | [] => 0
  | d :: r => uptoBulk d + uptoBulkAll r
def uptoBulkEntries {H : Type} : List (Lit × DataW H) → Nat
  | [] => 0
  | x :: r => uptoBulkEntry x + uptoBulkEntries r
def uptoBulkEntry {H : Type} : Lit × DataW H → Nat
  | (.string bytes, d) => bytes.length + uptoBulk d + 1
  | (_, d) => uptoBulk d + 1
 end
def uptoSmall : (H : Type) → List (DataW H) → Bool := fun _ ds => decide (uptoBulkAll ds ≤ 1048576)
def OpenSpec.upto (s : _root_.Go.ChangeSpec) : _root_.Go.OpenSpec := { _root_.Go.OpenSpec.ofChange s with cond := some uptoSmall }

/-- 'interdictlaw18.CallsGroups', WHERE WHAT IT READS IS OF BULK AT MOST 1048576: true; the input reads as it did. -/
def callsGroupsUptoRow : OpenClaim := { program := "ytjfonoiclndgnaa", sum := "fa4c6de6587c81bcb0bcb550ce85a2735d012e32e95f8df6420aac65404ae721", func := "interdict/interdictlaw18.CallsGroups", spec := "callsGroups", unfollowed := true, recurses := true, apart := false, narrowed := true }
def CallsGroupsUptoSaid : Prop := callsGroupsUptoRow.holds Try.pinned (OpenSpec.upto callsGroupsSpec)

/-- 'interdictlaw18.CallsEntries', WHERE WHAT IT READS IS OF BULK AT MOST 1048576: true; the input reads as it did. -/
def callsEntriesUptoRow : OpenClaim := { program := "ytjfonoiclndgnaa", sum := "fa4c6de6587c81bcb0bcb550ce85a2735d012e32e95f8df6420aac65404ae721", func := "interdict/interdictlaw18.CallsEntries", spec := "callsEntries", unfollowed := true, recurses := true, apart := false, narrowed := true }
def CallsEntriesUptoSaid : Prop := callsEntriesUptoRow.holds Try.pinned (OpenSpec.upto callsEntriesSpec)

/-- 'interdictlaw18.CallsOrder', WHERE WHAT IT READS IS OF BULK AT MOST 1048576: true; the input reads as it did. -/
def callsOrderUptoRow : OpenClaim := { program := "ytjfonoiclndgnaa", sum := "fa4c6de6587c81bcb0bcb550ce85a2735d012e32e95f8df6420aac65404ae721", func := "interdict/interdictlaw18.CallsOrder", spec := "callsOrder", unfollowed := true, recurses := true, apart := false, narrowed := true }
def CallsOrderUptoSaid : Prop := callsOrderUptoRow.holds Try.pinned (OpenSpec.upto callsOrderSpec)

/-- 'interdictlaw18.CallsSteps', WHERE WHAT IT READS IS OF BULK AT MOST 1048576: true; the input reads as it did. -/
def callsStepsUptoRow : OpenClaim := { program := "ytjfonoiclndgnaa", sum := "fa4c6de6587c81bcb0bcb550ce85a2735d012e32e95f8df6420aac65404ae721", func := "interdict/interdictlaw18.CallsSteps", spec := "callsSteps", unfollowed := true, recurses := true, apart := false, narrowed := true }
def CallsStepsUptoSaid : Prop := callsStepsUptoRow.holds Try.pinned (OpenSpec.upto callsStepsSpec)

end Rows
end Go.Proofs.Ytjfonoiclndgnaa
