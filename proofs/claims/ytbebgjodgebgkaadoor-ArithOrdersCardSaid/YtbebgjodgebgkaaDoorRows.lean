/-
  NARROWER THAN 'FOR EVERY INPUT', by the rows' own cells (each row's printed sentence says how): ArithOrders: laid · ArithNames: laid.
  DERIVED. THE GIVEN ROWS OF THIS SEAT. 2 by the template 'for every input the law returns true; each argument reads behind the call as it read before'; 0 by the template 'total and deterministic' (their statements: YtbebgjodgebgkaaDoorTotals.lean).
  GIVEN WITH THE SEED: the statements are not yours to turn. If you find one false, say at which input.
  Laid BY PROGRAM, IN A SANDBOX (cutbox-rows.mjs): the forced cells as the released guide's own fill.sh prints them over the translation 8f7192fe1c4ea14e… (all of the seat's roots in one cut). By AI agents, Wed Nov 11 2026. No macro, syntax, notation, axiom, sorry.
-/
import Derived.Test.YtbebgjodgebgkaaDoorChecked
import GoSem.Claim
import GoSem.ClaimJoined
import GoSem.ClaimMapViews
import Derived.JoinedTies
import Derived.KernelRfl
namespace Go.Proofs.YtbebgjodgebgkaaDoor
/- THE CELL 'sum', in the pinned program and in every row, IS THE sha256 OF THE DUMP (.gsa) THAT YtbebgjodgebgkaaDoorProg.lean LOADS. Nothing in Lean hashes anything: it is a label: what it is worth is what the hold of that sum in a sandbox is worth. -/
noncomputable def Tryd.pinned : Pinned := { name := "ytbebgjodgebgkaadoor", sum := "8f7192fe1c4ea14e41f63698445bf1a927b73a2a7a19948d3aaadbbd53dcc8bc", checked := Tryd.checked }
namespace Rows
def none {H : Type} : Left H := { results := [], args := [] }

/- WHAT THE LISTED PACKAGE-LEVEL VARIABLES READ AS WHEN THE CALL BEGINS. Each datum BY PROGRAM (the guide's laid-datum.mjs) off the statement by which the dump's own 'gosem.cut.vars' lays the variable. In a bare row this is a premise. The card (YtbebgjodgebgkaaDoorCards.lean) ties it to the program's text. -/
def laid_interdict_arith_names {H : Type} : DataW H := .agg [.lit (.string []), .lit (.string [97, 100, 100]), .lit (.string [115, 117, 98]), .lit (.string [109, 117, 108]), .lit (.string [100, 105, 118]), .lit (.string [109, 111, 100]), .lit (.string [97, 110, 100]), .lit (.string [111, 114]), .lit (.string [120, 111, 114]), .lit (.string [115, 104, 108]), .lit (.string [115, 104, 114]), .lit (.string [101, 113]), .lit (.string [108, 101, 115, 115])]

/-- 'interdictlaw04.ArithOrders': WHATEVER THE INPUT: true; the input reads as it did. -/
def arithOrdersSpec : ChangeSpec := { name := "arithOrders", fn := fun _ => fun
  | [d1, d2] => { results := [.lit (.bool true)], args := [d1, d2] }
  | _ => none }
def arithOrdersRow : OpenClaim := { program := "ytbebgjodgebgkaadoor", sum := "8f7192fe1c4ea14e41f63698445bf1a927b73a2a7a19948d3aaadbbd53dcc8bc", func := "interdict/interdictlaw04.ArithOrders", spec := "arithOrders", unfollowed := true, recurses := true, named := ["interdict/arith.names"], apart := false, laid := [("interdict/arith.names", laid_interdict_arith_names)] }
def ArithOrdersSaid : Prop := arithOrdersRow.holds Tryd.pinned (OpenSpec.ofChange arithOrdersSpec)

/-- ITS FALSE NEIGHBOUR: 'it returns false'. Refute it at one input. -/
def arithOrdersWrong : ChangeSpec := { name := "arithOrders", fn := fun _ => fun
  | [d1, d2] => { results := [.lit (.bool false)], args := [d1, d2] }
  | _ => none }
def ArithOrdersWrongFalsely : Prop := arithOrdersRow.holds Tryd.pinned (OpenSpec.ofChange arithOrdersWrong)

/-- 'interdictlaw04.ArithNames': WHATEVER THE INPUT: true; the input reads as it did. -/
def arithNamesSpec : ChangeSpec := { name := "arithNames", fn := fun _ => fun
  | [d1, d2] => { results := [.lit (.bool true)], args := [d1, d2] }
  | _ => none }
def arithNamesRow : OpenClaim := { program := "ytbebgjodgebgkaadoor", sum := "8f7192fe1c4ea14e41f63698445bf1a927b73a2a7a19948d3aaadbbd53dcc8bc", func := "interdict/interdictlaw04.ArithNames", spec := "arithNames", unfollowed := true, recurses := true, named := ["interdict/arith.names"], apart := false, laid := [("interdict/arith.names", laid_interdict_arith_names)] }
def ArithNamesSaid : Prop := arithNamesRow.holds Tryd.pinned (OpenSpec.ofChange arithNamesSpec)

/-- ITS FALSE NEIGHBOUR: 'it returns false'. Refute it at one input. -/
def arithNamesWrong : ChangeSpec := { name := "arithNames", fn := fun _ => fun
  | [d1, d2] => { results := [.lit (.bool false)], args := [d1, d2] }
  | _ => none }
def ArithNamesWrongFalsely : Prop := arithNamesRow.holds Tryd.pinned (OpenSpec.ofChange arithNamesWrong)

/- THE SECOND FORM. 'bulk': how many values and letters a reading holds, each counted each time it is reached (what is shared counts as often as it is met; a slice's spare places count too). A statement '..UptoSaid' is the law's where the arguments, and the package variables that the reading takes, are together of bulk at most 1048576: NARROWER than '..Said'. Prove '..Said' where nothing that the law and all that it calls make is longer than what came in: it says more and counts as full. Else prove '..UptoSaid'. A law counts once. -/
mutual
def uptoBulk {H : Type} : DataW H → Nat
  | .lit (.string bytes) => bytes.length + 1
  | .lit _ => 1
  | .nil => 1
  | .ptr d => uptoBulk d + 1
  | .slice elems spare => uptoBulkAll elems + uptoBulkAll spare + 1
  | .agg parts => uptoBulkAll parts + 1
  | .iface _ d => uptoBulk d + 1
  | .map entries => uptoBulkEntries entries + 1
  | .held _ => 1
def uptoBulkAll {H : Type} : List (DataW H) → Nat
  | [] => 0
  | d :: r => uptoBulk d + uptoBulkAll r
def uptoBulkEntries {H : Type} : List (Lit × DataW H) → Nat
  | [] => 0
  | x :: r => uptoBulkEntry x + uptoBulkEntries r
def uptoBulkEntry {H : Type} : Lit × DataW H → Nat
  | (.string bytes, d) => bytes.length + uptoBulk d + 1
  | (_, d) => uptoBulk d + 1
 end
def uptoSmall : (H : Type) → List (DataW H) → Bool := fun _ ds => decide (uptoBulkAll ds ≤ 1048576)
def OpenSpec.upto (s : _root_.Go.ChangeSpec) : _root_.Go.OpenSpec := { _root_.Go.OpenSpec.ofChange s with cond := some uptoSmall }

/-- 'interdictlaw04.ArithOrders', WHERE WHAT IT READS IS OF BULK AT MOST 1048576: true; the input reads as it did. -/
def arithOrdersUptoRow : OpenClaim := { program := "ytbebgjodgebgkaadoor", sum := "8f7192fe1c4ea14e41f63698445bf1a927b73a2a7a19948d3aaadbbd53dcc8bc", func := "interdict/interdictlaw04.ArithOrders", spec := "arithOrders", unfollowed := true, recurses := true, named := ["interdict/arith.names"], apart := false, laid := [("interdict/arith.names", laid_interdict_arith_names)], narrowed := true }
def ArithOrdersUptoSaid : Prop := arithOrdersUptoRow.holds Tryd.pinned (OpenSpec.upto arithOrdersSpec)

/-- 'interdictlaw04.ArithNames', WHERE WHAT IT READS IS OF BULK AT MOST 1048576: true; the input reads as it did. -/
def arithNamesUptoRow : OpenClaim := { program := "ytbebgjodgebgkaadoor", sum := "8f7192fe1c4ea14e41f63698445bf1a927b73a2a7a19948d3aaadbbd53dcc8bc", func := "interdict/interdictlaw04.ArithNames", spec := "arithNames", unfollowed := true, recurses := true, named := ["interdict/arith.names"], apart := false, laid := [("interdict/arith.names", laid_interdict_arith_names)], narrowed := true }
def ArithNamesUptoSaid : Prop := arithNamesUptoRow.holds Tryd.pinned (OpenSpec.upto arithNamesSpec)

end Rows
end Go.Proofs.YtbebgjodgebgkaaDoor
