/-
  NARROWER THAN 'FOR EVERY INPUT', by the rows' own cells (each row's printed sentence says how): SsaTurned: laid · SsaChecks: laid · SsaPaths: laid · SsaRound: laid.
  DERIVED. THE GIVEN ROWS OF THIS SEAT. 4 by the template 'for every input the law returns true; each argument reads behind the call as it read before'; 0 by the template 'total and deterministic' (their statements: YtccbbkopmlnkpaaGreatDoorTotals.lean).
  GIVEN WITH THE SEED: the statements are not yours to turn. If you find one false, say at which input.
  Laid BY PROGRAM, IN A SANDBOX (cutbox-rows.mjs): the forced cells as the released guide's own fill.sh prints them over the translation 3b0196c66ea95d94… (all of the seat's roots in one cut). By AI agents, Wed Nov 11 2026. No macro, syntax, notation, axiom, sorry.
-/
import Derived.Test.YtccbbkopmlnkpaaGreatDoorChecked
import GoSem.PinnedTables
import GoSem.Claim
import GoSem.ClaimJoined
import GoSem.ClaimMapViews
import Derived.JoinedTies
import Derived.KernelRfl
namespace Go.Proofs.YtccbbkopmlnkpaaGreatDoor
/- THE CELL 'sum', in the pinned program and in every row, IS THE sha256 OF THE DUMP (.gsa) THAT YtccbbkopmlnkpaaGreatDoorProg.lean LOADS. Nothing in Lean hashes anything: it is a label: what it is worth is what the hold of that sum in a sandbox is worth. -/
noncomputable def Tryz.pinned : Pinned := { name := "ytccbbkopmlnkpaagreatdoor", sum := "3b0196c66ea95d942ee9749c5bdf62059228966a356987490560b5bf351d5607", checked := Tryz.checked }
namespace Rows
def none {H : Type} : Left H := { results := [], args := [] }

/- WHAT THE LISTED PACKAGE-LEVEL VARIABLES READ AS WHEN THE CALL BEGINS. Each datum BY PROGRAM (the guide's laid-datum.mjs) off the statement by which the dump's own 'gosem.cut.vars' lays the variable. In a bare row this is a premise. The card (YtccbbkopmlnkpaaGreatDoorCards.lean) ties it to the program's text. -/
def laid_interdict_arith_names {H : Type} : DataW H := .agg [.lit (.string []), .lit (.string [97, 100, 100]), .lit (.string [115, 117, 98]), .lit (.string [109, 117, 108]), .lit (.string [100, 105, 118]), .lit (.string [109, 111, 100]), .lit (.string [97, 110, 100]), .lit (.string [111, 114]), .lit (.string [120, 111, 114]), .lit (.string [115, 104, 108]), .lit (.string [115, 104, 114]), .lit (.string [101, 113]), .lit (.string [108, 101, 115, 115])]
def laid_math_bits_deBruijn64tab {H : Type} : DataW H := .agg [.lit (.int .u8 0), .lit (.int .u8 1), .lit (.int .u8 56), .lit (.int .u8 2), .lit (.int .u8 57), .lit (.int .u8 49), .lit (.int .u8 28), .lit (.int .u8 3), .lit (.int .u8 61), .lit (.int .u8 58), .lit (.int .u8 42), .lit (.int .u8 50), .lit (.int .u8 38), .lit (.int .u8 29), .lit (.int .u8 17), .lit (.int .u8 4), .lit (.int .u8 62), .lit (.int .u8 47), .lit (.int .u8 59), .lit (.int .u8 36), .lit (.int .u8 45), .lit (.int .u8 43), .lit (.int .u8 51), .lit (.int .u8 22), .lit (.int .u8 53), .lit (.int .u8 39), .lit (.int .u8 33), .lit (.int .u8 30), .lit (.int .u8 24), .lit (.int .u8 18), .lit (.int .u8 12), .lit (.int .u8 5), .lit (.int .u8 63), .lit (.int .u8 55), .lit (.int .u8 48), .lit (.int .u8 27), .lit (.int .u8 60), .lit (.int .u8 41), .lit (.int .u8 37), .lit (.int .u8 16), .lit (.int .u8 46), .lit (.int .u8 35), .lit (.int .u8 44), .lit (.int .u8 21), .lit (.int .u8 52), .lit (.int .u8 32), .lit (.int .u8 23), .lit (.int .u8 11), .lit (.int .u8 54), .lit (.int .u8 26), .lit (.int .u8 40), .lit (.int .u8 15), .lit (.int .u8 34), .lit (.int .u8 20), .lit (.int .u8 31), .lit (.int .u8 10), .lit (.int .u8 25), .lit (.int .u8 14), .lit (.int .u8 19), .lit (.int .u8 9), .lit (.int .u8 13), .lit (.int .u8 8), .lit (.int .u8 7), .lit (.int .u8 6)]
def laid_unicode_utf8_acceptRanges {H : Type} : DataW H := .agg [.agg [.lit (.int .u8 128), .lit (.int .u8 191)], .agg [.lit (.int .u8 160), .lit (.int .u8 191)], .agg [.lit (.int .u8 128), .lit (.int .u8 159)], .agg [.lit (.int .u8 144), .lit (.int .u8 191)], .agg [.lit (.int .u8 128), .lit (.int .u8 143)], .agg [.lit (.int .u8 0), .lit (.int .u8 0)], .agg [.lit (.int .u8 0), .lit (.int .u8 0)], .agg [.lit (.int .u8 0), .lit (.int .u8 0)], .agg [.lit (.int .u8 0), .lit (.int .u8 0)], .agg [.lit (.int .u8 0), .lit (.int .u8 0)], .agg [.lit (.int .u8 0), .lit (.int .u8 0)], .agg [.lit (.int .u8 0), .lit (.int .u8 0)], .agg [.lit (.int .u8 0), .lit (.int .u8 0)], .agg [.lit (.int .u8 0), .lit (.int .u8 0)], .agg [.lit (.int .u8 0), .lit (.int .u8 0)], .agg [.lit (.int .u8 0), .lit (.int .u8 0)]]
/-- One of Go's own tables, pinned by name: the form's constant. -/
def laid_unicode_utf8_first : DataW Unit := Go.Pinned.utf8First

/-- 'interdictlaw13.SsaTurned': WHATEVER THE INPUT: true; the input reads as it did. -/
def ssaTurnedSpec : ChangeSpec := { name := "ssaTurned", fn := fun _ => fun
  | [d1, d2] => { results := [.lit (.bool true)], args := [d1, d2] }
  | _ => none }
def ssaTurnedRow : OpenClaim := { program := "ytccbbkopmlnkpaagreatdoor", sum := "3b0196c66ea95d942ee9749c5bdf62059228966a356987490560b5bf351d5607", func := "interdict/interdictlaw13.SsaTurned", spec := "ssaTurned", inPlace := ["internal/bytealg.CountString", "internal/bytealg.IndexByteString", "internal/bytealg.IndexString"], unfollowed := true, recurses := true, named := ["math/bits.deBruijn64tab", "interdict/arith.names", "unicode/utf8.first", "unicode/utf8.acceptRanges", "internal/bytealg.MaxLen"], apart := false, laid := [("interdict/arith.names", laid_interdict_arith_names), ("math/bits.deBruijn64tab", laid_math_bits_deBruijn64tab), ("unicode/utf8.acceptRanges", laid_unicode_utf8_acceptRanges), ("unicode/utf8.first", laid_unicode_utf8_first)] }
def SsaTurnedSaid : Prop := ssaTurnedRow.holds Tryz.pinned (OpenSpec.ofChange ssaTurnedSpec)

/-- ITS FALSE NEIGHBOUR: 'it returns false'. Refute it at one input. -/
def ssaTurnedWrong : ChangeSpec := { name := "ssaTurned", fn := fun _ => fun
  | [d1, d2] => { results := [.lit (.bool false)], args := [d1, d2] }
  | _ => none }
def SsaTurnedWrongFalsely : Prop := ssaTurnedRow.holds Tryz.pinned (OpenSpec.ofChange ssaTurnedWrong)

/-- 'interdictlaw13.SsaChecks': WHATEVER THE INPUT: true; the input reads as it did. -/
def ssaChecksSpec : ChangeSpec := { name := "ssaChecks", fn := fun _ => fun
  | [d1, d2] => { results := [.lit (.bool true)], args := [d1, d2] }
  | _ => none }
def ssaChecksRow : OpenClaim := { program := "ytccbbkopmlnkpaagreatdoor", sum := "3b0196c66ea95d942ee9749c5bdf62059228966a356987490560b5bf351d5607", func := "interdict/interdictlaw13.SsaChecks", spec := "ssaChecks", inPlace := ["internal/bytealg.CountString", "internal/bytealg.IndexByteString", "internal/bytealg.IndexString"], unfollowed := true, recurses := true, named := ["math/bits.deBruijn64tab", "interdict/arith.names", "unicode/utf8.first", "unicode/utf8.acceptRanges", "internal/bytealg.MaxLen"], apart := false, laid := [("interdict/arith.names", laid_interdict_arith_names), ("math/bits.deBruijn64tab", laid_math_bits_deBruijn64tab), ("unicode/utf8.acceptRanges", laid_unicode_utf8_acceptRanges), ("unicode/utf8.first", laid_unicode_utf8_first)] }
def SsaChecksSaid : Prop := ssaChecksRow.holds Tryz.pinned (OpenSpec.ofChange ssaChecksSpec)

/-- ITS FALSE NEIGHBOUR: 'it returns false'. Refute it at one input. -/
def ssaChecksWrong : ChangeSpec := { name := "ssaChecks", fn := fun _ => fun
  | [d1, d2] => { results := [.lit (.bool false)], args := [d1, d2] }
  | _ => none }
def SsaChecksWrongFalsely : Prop := ssaChecksRow.holds Tryz.pinned (OpenSpec.ofChange ssaChecksWrong)

/-- 'interdictlaw13.SsaPaths': WHATEVER THE INPUT: true; the input reads as it did. -/
def ssaPathsSpec : ChangeSpec := { name := "ssaPaths", fn := fun _ => fun
  | [d] => { results := [.lit (.bool true)], args := [d] }
  | _ => none }
def ssaPathsRow : OpenClaim := { program := "ytccbbkopmlnkpaagreatdoor", sum := "3b0196c66ea95d942ee9749c5bdf62059228966a356987490560b5bf351d5607", func := "interdict/interdictlaw13.SsaPaths", spec := "ssaPaths", inPlace := ["internal/bytealg.CountString", "internal/bytealg.IndexByteString", "internal/bytealg.IndexString"], unfollowed := true, recurses := true, named := ["math/bits.deBruijn64tab", "interdict/arith.names", "unicode/utf8.first", "unicode/utf8.acceptRanges", "internal/bytealg.MaxLen"], apart := false, laid := [("interdict/arith.names", laid_interdict_arith_names), ("math/bits.deBruijn64tab", laid_math_bits_deBruijn64tab), ("unicode/utf8.acceptRanges", laid_unicode_utf8_acceptRanges), ("unicode/utf8.first", laid_unicode_utf8_first)] }
def SsaPathsSaid : Prop := ssaPathsRow.holds Tryz.pinned (OpenSpec.ofChange ssaPathsSpec)

/-- ITS FALSE NEIGHBOUR: 'it returns false'. Refute it at one input. -/
def ssaPathsWrong : ChangeSpec := { name := "ssaPaths", fn := fun _ => fun
  | [d] => { results := [.lit (.bool false)], args := [d] }
  | _ => none }
def SsaPathsWrongFalsely : Prop := ssaPathsRow.holds Tryz.pinned (OpenSpec.ofChange ssaPathsWrong)

/-- 'interdictlaw13.SsaRound': WHATEVER THE INPUT: true; the input reads as it did. -/
def ssaRoundSpec : ChangeSpec := { name := "ssaRound", fn := fun _ => fun
  | [d1, d2] => { results := [.lit (.bool true)], args := [d1, d2] }
  | _ => none }
def ssaRoundRow : OpenClaim := { program := "ytccbbkopmlnkpaagreatdoor", sum := "3b0196c66ea95d942ee9749c5bdf62059228966a356987490560b5bf351d5607", func := "interdict/interdictlaw13.SsaRound", spec := "ssaRound", inPlace := ["internal/bytealg.CountString", "internal/bytealg.IndexByteString", "internal/bytealg.IndexString"], unfollowed := true, recurses := true, named := ["math/bits.deBruijn64tab", "interdict/arith.names", "unicode/utf8.first", "unicode/utf8.acceptRanges", "internal/bytealg.MaxLen"], apart := false, laid := [("interdict/arith.names", laid_interdict_arith_names), ("math/bits.deBruijn64tab", laid_math_bits_deBruijn64tab), ("unicode/utf8.acceptRanges", laid_unicode_utf8_acceptRanges), ("unicode/utf8.first", laid_unicode_utf8_first)] }
def SsaRoundSaid : Prop := ssaRoundRow.holds Tryz.pinned (OpenSpec.ofChange ssaRoundSpec)

/-- ITS FALSE NEIGHBOUR: 'it returns false'. Refute it at one input. -/
def ssaRoundWrong : ChangeSpec := { name := "ssaRound", fn := fun _ => fun
  | [d1, d2] => { results := [.lit (.bool false)], args := [d1, d2] }
  | _ => none }
def SsaRoundWrongFalsely : Prop := ssaRoundRow.holds Tryz.pinned (OpenSpec.ofChange ssaRoundWrong)

/- THE SECOND FORM. 'bulk': how many values and letters a reading holds, each counted each time it is reached (what is shared counts as often as it is met; a slice's spare places count too). A statement '..UptoSaid' is the law's where the arguments, and the package variables that the reading takes, are together of bulk at most 1048576: NARROWER than '..Said'. Prove '..Said' where nothing that the law and all that it calls make is longer than what came in: it says more and counts as full. Else prove '..UptoSaid'. A law counts once. -/
mutual
def uptoBulk {H : Type} : DataW H → Nat
  | .lit (.string bytes) => bytes.length + 1
  | .lit _ => 1
  | .nil => 1
  | .ptr d => uptoBulk d + 1
  | .slice elems spare => uptoBulkAll elems + uptoBulkAll spare + 1
  | .agg parts => uptoBulkAll parts + 1
  | .iface _ d => uptoBulk d + 1
  | .map entries => uptoBulkEntries entries + 1
  | .held _ => 1
def uptoBulkAll {H : Type} : List (DataW H) → Nat
  | [] => 0
  | d :: r => uptoBulk d + uptoBulkAll r
def uptoBulkEntries {H : Type} : List (Lit × DataW H) → Nat
  | [] => 0
  | x :: r => uptoBulkEntry x + uptoBulkEntries r
def uptoBulkEntry {H : Type} : Lit × DataW H → Nat
  | (.string bytes, d) => bytes.length + uptoBulk d + 1
  | (_, d) => uptoBulk d + 1
 end
def uptoSmall : (H : Type) → List (DataW H) → Bool := fun _ ds => decide (uptoBulkAll ds ≤ 1048576)
def OpenSpec.upto (s : _root_.Go.ChangeSpec) : _root_.Go.OpenSpec := { _root_.Go.OpenSpec.ofChange s with cond := some uptoSmall }

/-- 'interdictlaw13.SsaTurned', WHERE WHAT IT READS IS OF BULK AT MOST 1048576: true; the input reads as it did. -/
def ssaTurnedUptoRow : OpenClaim := { program := "ytccbbkopmlnkpaagreatdoor", sum := "3b0196c66ea95d942ee9749c5bdf62059228966a356987490560b5bf351d5607", func := "interdict/interdictlaw13.SsaTurned", spec := "ssaTurned", inPlace := ["internal/bytealg.CountString", "internal/bytealg.IndexByteString", "internal/bytealg.IndexString"], unfollowed := true, recurses := true, named := ["math/bits.deBruijn64tab", "interdict/arith.names", "unicode/utf8.first", "unicode/utf8.acceptRanges", "internal/bytealg.MaxLen"], apart := false, laid := [("interdict/arith.names", laid_interdict_arith_names), ("math/bits.deBruijn64tab", laid_math_bits_deBruijn64tab), ("unicode/utf8.acceptRanges", laid_unicode_utf8_acceptRanges), ("unicode/utf8.first", laid_unicode_utf8_first)], narrowed := true }
def SsaTurnedUptoSaid : Prop := ssaTurnedUptoRow.holds Tryz.pinned (OpenSpec.upto ssaTurnedSpec)

/-- 'interdictlaw13.SsaChecks', WHERE WHAT IT READS IS OF BULK AT MOST 1048576: true; the input reads as it did. -/
def ssaChecksUptoRow : OpenClaim := { program := "ytccbbkopmlnkpaagreatdoor", sum := "3b0196c66ea95d942ee9749c5bdf62059228966a356987490560b5bf351d5607", func := "interdict/interdictlaw13.SsaChecks", spec := "ssaChecks", inPlace := ["internal/bytealg.CountString", "internal/bytealg.IndexByteString", "internal/bytealg.IndexString"], unfollowed := true, recurses := true, named := ["math/bits.deBruijn64tab", "interdict/arith.names", "unicode/utf8.first", "unicode/utf8.acceptRanges", "internal/bytealg.MaxLen"], apart := false, laid := [("interdict/arith.names", laid_interdict_arith_names), ("math/bits.deBruijn64tab", laid_math_bits_deBruijn64tab), ("unicode/utf8.acceptRanges", laid_unicode_utf8_acceptRanges), ("unicode/utf8.first", laid_unicode_utf8_first)], narrowed := true }
def SsaChecksUptoSaid : Prop := ssaChecksUptoRow.holds Tryz.pinned (OpenSpec.upto ssaChecksSpec)

/-- 'interdictlaw13.SsaPaths', WHERE WHAT IT READS IS OF BULK AT MOST 1048576: true; the input reads as it did. -/
def ssaPathsUptoRow : OpenClaim := { program := "ytccbbkopmlnkpaagreatdoor", sum := "3b0196c66ea95d942ee9749c5bdf62059228966a356987490560b5bf351d5607", func := "interdict/interdictlaw13.SsaPaths", spec := "ssaPaths", inPlace := ["internal/bytealg.CountString", "internal/bytealg.IndexByteString", "internal/bytealg.IndexString"], unfollowed := true, recurses := true, named := ["math/bits.deBruijn64tab", "interdict/arith.names", "unicode/utf8.first", "unicode/utf8.acceptRanges", "internal/bytealg.MaxLen"], apart := false, laid := [("interdict/arith.names", laid_interdict_arith_names), ("math/bits.deBruijn64tab", laid_math_bits_deBruijn64tab), ("unicode/utf8.acceptRanges", laid_unicode_utf8_acceptRanges), ("unicode/utf8.first", laid_unicode_utf8_first)], narrowed := true }
def SsaPathsUptoSaid : Prop := ssaPathsUptoRow.holds Tryz.pinned (OpenSpec.upto ssaPathsSpec)

/-- 'interdictlaw13.SsaRound', WHERE WHAT IT READS IS OF BULK AT MOST 1048576: true; the input reads as it did. -/
def ssaRoundUptoRow : OpenClaim := { program := "ytccbbkopmlnkpaagreatdoor", sum := "3b0196c66ea95d942ee9749c5bdf62059228966a356987490560b5bf351d5607", func := "interdict/interdictlaw13.SsaRound", spec := "ssaRound", inPlace := ["internal/bytealg.CountString", "internal/bytealg.IndexByteString", "internal/bytealg.IndexString"], unfollowed := true, recurses := true, named := ["math/bits.deBruijn64tab", "interdict/arith.names", "unicode/utf8.first", "unicode/utf8.acceptRanges", "internal/bytealg.MaxLen"], apart := false, laid := [("interdict/arith.names", laid_interdict_arith_names), ("math/bits.deBruijn64tab", laid_math_bits_deBruijn64tab), ("unicode/utf8.acceptRanges", laid_unicode_utf8_acceptRanges), ("unicode/utf8.first", laid_unicode_utf8_first)], narrowed := true }
def SsaRoundUptoSaid : Prop := ssaRoundUptoRow.holds Tryz.pinned (OpenSpec.upto ssaRoundSpec)

end Rows
end Go.Proofs.YtccbbkopmlnkpaaGreatDoor
