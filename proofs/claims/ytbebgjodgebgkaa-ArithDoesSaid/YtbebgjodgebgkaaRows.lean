/-
  No cell of these rows narrows 'for every input' (looked for: loops, veiled, ifaces, maps, wideKeys, modest, calm, conditions, laid).
  DERIVED. THE GIVEN ROWS OF THIS SEAT. 4 by the template 'for every input the law returns true; each argument reads behind the call as it read before'; 0 by the template 'total and deterministic' (their statements: YtbebgjodgebgkaaTotals.lean).
  GIVEN WITH THE SEED: the statements are not yours to turn. If you find one false, say at which input.
  Laid BY PROGRAM, IN A SANDBOX (cutbox-rows.mjs): the forced cells as the released guide's own fill.sh prints them over the translation e8831693bf70bb6c… (all of the seat's roots in one cut). By AI agents, Wed Nov 11 2026. No macro, syntax, notation, axiom, sorry.
-/
import Derived.Test.YtbebgjodgebgkaaChecked
import GoSem.Claim
import GoSem.ClaimJoined
import GoSem.ClaimMapViews
import Derived.JoinedTies
import Derived.KernelRfl
namespace Go.Proofs.Ytbebgjodgebgkaa
/- THE CELL 'sum', in the pinned program and in every row, IS THE sha256 OF THE DUMP (.gsa) THAT YtbebgjodgebgkaaProg.lean LOADS. Nothing in Lean hashes anything: it is a label: what it is worth is what the hold of that sum in a sandbox is worth. -/
noncomputable def Try.pinned : Pinned := { name := "ytbebgjodgebgkaa", sum := "e8831693bf70bb6c63d46f49e7e47422f918a79938169bfb5aec2654d599a1d6", checked := Try.checked }
namespace Rows
def none {H : Type} : Left H := { results := [], args := [] }

/-- 'interdictlaw04.ArithDoes': WHATEVER THE INPUT: true; the input reads as it did. -/
def arithDoesSpec : ChangeSpec := { name := "arithDoes", fn := fun _ => fun
  | [d1, d2, d3] => { results := [.lit (.bool true)], args := [d1, d2, d3] }
  | _ => none }
def arithDoesRow : OpenClaim := { program := "ytbebgjodgebgkaa", sum := "e8831693bf70bb6c63d46f49e7e47422f918a79938169bfb5aec2654d599a1d6", func := "interdict/interdictlaw04.ArithDoes", spec := "arithDoes", unfollowed := true, recurses := true, apart := false }
def ArithDoesSaid : Prop := arithDoesRow.holds Try.pinned (OpenSpec.ofChange arithDoesSpec)

/-- ITS FALSE NEIGHBOUR: 'it returns false'. Refute it at one input. -/
def arithDoesWrong : ChangeSpec := { name := "arithDoes", fn := fun _ => fun
  | [d1, d2, d3] => { results := [.lit (.bool false)], args := [d1, d2, d3] }
  | _ => none }
def ArithDoesWrongFalsely : Prop := arithDoesRow.holds Try.pinned (OpenSpec.ofChange arithDoesWrong)

/-- 'interdictlaw04.ArithParts': WHATEVER THE INPUT: true; the input reads as it did. -/
def arithPartsSpec : ChangeSpec := { name := "arithParts", fn := fun _ => fun
  | [d1, d2] => { results := [.lit (.bool true)], args := [d1, d2] }
  | _ => none }
def arithPartsRow : OpenClaim := { program := "ytbebgjodgebgkaa", sum := "e8831693bf70bb6c63d46f49e7e47422f918a79938169bfb5aec2654d599a1d6", func := "interdict/interdictlaw04.ArithParts", spec := "arithParts", unfollowed := true, recurses := true, apart := false }
def ArithPartsSaid : Prop := arithPartsRow.holds Try.pinned (OpenSpec.ofChange arithPartsSpec)

/-- ITS FALSE NEIGHBOUR: 'it returns false'. Refute it at one input. -/
def arithPartsWrong : ChangeSpec := { name := "arithParts", fn := fun _ => fun
  | [d1, d2] => { results := [.lit (.bool false)], args := [d1, d2] }
  | _ => none }
def ArithPartsWrongFalsely : Prop := arithPartsRow.holds Try.pinned (OpenSpec.ofChange arithPartsWrong)

/-- 'interdictlaw04.ArithRings': WHATEVER THE INPUT: true; the input reads as it did. -/
def arithRingsSpec : ChangeSpec := { name := "arithRings", fn := fun _ => fun
  | [d1, d2, d3] => { results := [.lit (.bool true)], args := [d1, d2, d3] }
  | _ => none }
def arithRingsRow : OpenClaim := { program := "ytbebgjodgebgkaa", sum := "e8831693bf70bb6c63d46f49e7e47422f918a79938169bfb5aec2654d599a1d6", func := "interdict/interdictlaw04.ArithRings", spec := "arithRings", unfollowed := true, recurses := true, apart := false }
def ArithRingsSaid : Prop := arithRingsRow.holds Try.pinned (OpenSpec.ofChange arithRingsSpec)

/-- ITS FALSE NEIGHBOUR: 'it returns false'. Refute it at one input. -/
def arithRingsWrong : ChangeSpec := { name := "arithRings", fn := fun _ => fun
  | [d1, d2, d3] => { results := [.lit (.bool false)], args := [d1, d2, d3] }
  | _ => none }
def ArithRingsWrongFalsely : Prop := arithRingsRow.holds Try.pinned (OpenSpec.ofChange arithRingsWrong)

/-- 'interdictlaw04.ArithBits': WHATEVER THE INPUT: true; the input reads as it did. -/
def arithBitsSpec : ChangeSpec := { name := "arithBits", fn := fun _ => fun
  | [d1, d2] => { results := [.lit (.bool true)], args := [d1, d2] }
  | _ => none }
def arithBitsRow : OpenClaim := { program := "ytbebgjodgebgkaa", sum := "e8831693bf70bb6c63d46f49e7e47422f918a79938169bfb5aec2654d599a1d6", func := "interdict/interdictlaw04.ArithBits", spec := "arithBits", unfollowed := true, recurses := true, apart := false }
def ArithBitsSaid : Prop := arithBitsRow.holds Try.pinned (OpenSpec.ofChange arithBitsSpec)

/-- ITS FALSE NEIGHBOUR: 'it returns false'. Refute it at one input. -/
def arithBitsWrong : ChangeSpec := { name := "arithBits", fn := fun _ => fun
  | [d1, d2] => { results := [.lit (.bool false)], args := [d1, d2] }
  | _ => none }
def ArithBitsWrongFalsely : Prop := arithBitsRow.holds Try.pinned (OpenSpec.ofChange arithBitsWrong)

/- THE SECOND FORM. 'bulk': how many values and letters a reading holds, each counted each time it is reached (what is shared counts as often as it is met; a slice's spare places count too). A statement '..UptoSaid' is the law's where the arguments, and the package variables that the reading takes, are together of bulk at most 1048576: NARROWER than '..Said'. Prove '..Said' where nothing that the law and all that it calls make is longer than what came in: it says more and counts as full. Else prove '..UptoSaid'. A law counts once. -/
mutual
def uptoBulk {H : Type} : DataW H → Nat
  | .lit (.string bytes) => bytes.length + 1
  | .lit _ => 1
  | .nil => 1
  | .ptr d => uptoBulk d + 1
  | .slice elems spare => uptoBulkAll elems + uptoBulkAll spare + 1
  | .agg parts => uptoBulkAll parts + 1
  | .iface _ d => uptoBulk d + 1
  | .map entries => uptoBulkEntries entries + 1
  | .held _ => 1
def uptoBulkAll {H : Type} : List (DataW H) → Nat
  | [] => 0
  | d :: r => uptoBulk d + uptoBulkAll r
def uptoBulkEntries {H : Type} : List (Lit × DataW H) → Nat
  | [] => 0
  | x :: r => uptoBulkEntry x + uptoBulkEntries r
def uptoBulkEntry {H : Type} : Lit × DataW H → Nat
  | (.string bytes, d) => bytes.length + uptoBulk d + 1
  | (_, d) => uptoBulk d + 1
 end
def uptoSmall : (H : Type) → List (DataW H) → Bool := fun _ ds => decide (uptoBulkAll ds ≤ 1048576)
def OpenSpec.upto (s : _root_.Go.ChangeSpec) : _root_.Go.OpenSpec := { _root_.Go.OpenSpec.ofChange s with cond := some uptoSmall }

/-- 'interdictlaw04.ArithDoes', WHERE WHAT IT READS IS OF BULK AT MOST 1048576: true; the input reads as it did. -/
def arithDoesUptoRow : OpenClaim := { program := "ytbebgjodgebgkaa", sum := "e8831693bf70bb6c63d46f49e7e47422f918a79938169bfb5aec2654d599a1d6", func := "interdict/interdictlaw04.ArithDoes", spec := "arithDoes", unfollowed := true, recurses := true, apart := false, narrowed := true }
def ArithDoesUptoSaid : Prop := arithDoesUptoRow.holds Try.pinned (OpenSpec.upto arithDoesSpec)

/-- 'interdictlaw04.ArithParts', WHERE WHAT IT READS IS OF BULK AT MOST 1048576: true; the input reads as it did. -/
def arithPartsUptoRow : OpenClaim := { program := "ytbebgjodgebgkaa", sum := "e8831693bf70bb6c63d46f49e7e47422f918a79938169bfb5aec2654d599a1d6", func := "interdict/interdictlaw04.ArithParts", spec := "arithParts", unfollowed := true, recurses := true, apart := false, narrowed := true }
def ArithPartsUptoSaid : Prop := arithPartsUptoRow.holds Try.pinned (OpenSpec.upto arithPartsSpec)

/-- 'interdictlaw04.ArithRings', WHERE WHAT IT READS IS OF BULK AT MOST 1048576: true; the input reads as it did. -/
def arithRingsUptoRow : OpenClaim := { program := "ytbebgjodgebgkaa", sum := "e8831693bf70bb6c63d46f49e7e47422f918a79938169bfb5aec2654d599a1d6", func := "interdict/interdictlaw04.ArithRings", spec := "arithRings", unfollowed := true, recurses := true, apart := false, narrowed := true }
def ArithRingsUptoSaid : Prop := arithRingsUptoRow.holds Try.pinned (OpenSpec.upto arithRingsSpec)

/-- 'interdictlaw04.ArithBits', WHERE WHAT IT READS IS OF BULK AT MOST 1048576: true; the input reads as it did. -/
def arithBitsUptoRow : OpenClaim := { program := "ytbebgjodgebgkaa", sum := "e8831693bf70bb6c63d46f49e7e47422f918a79938169bfb5aec2654d599a1d6", func := "interdict/interdictlaw04.ArithBits", spec := "arithBits", unfollowed := true, recurses := true, apart := false, narrowed := true }
def ArithBitsUptoSaid : Prop := arithBitsUptoRow.holds Try.pinned (OpenSpec.upto arithBitsSpec)

end Rows
end Go.Proofs.Ytbebgjodgebgkaa
