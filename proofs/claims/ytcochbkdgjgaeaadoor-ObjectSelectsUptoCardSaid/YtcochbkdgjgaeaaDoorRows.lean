/-
  NARROWER THAN 'FOR EVERY INPUT', by the rows' own cells (each row's printed sentence says how): ObjectSelects: laid · ObjectHolds: laid · ObjectNests: laid · ObjectRuns: laid.
  DERIVED. THE GIVEN ROWS OF THIS SEAT. 4 by the template 'for every input the law returns true; each argument reads behind the call as it read before'; 0 by the template 'total and deterministic' (their statements: YtcochbkdgjgaeaaDoorTotals.lean).
  GIVEN WITH THE SEED: the statements are not yours to turn. If you find one false, say at which input.
  Laid BY PROGRAM, IN A SANDBOX (cutbox-rows.mjs): the forced cells as the released guide's own fill.sh prints them over the translation f354a15b82535103… (all of the seat's roots in one cut). By AI agents, Wed Nov 11 2026. No macro, syntax, notation, axiom, sorry.
-/
import Derived.Test.YtcochbkdgjgaeaaDoorChecked
import GoSem.PinnedTables
import GoSem.Claim
import GoSem.ClaimJoined
import GoSem.ClaimMapViews
import Derived.JoinedTies
import Derived.KernelRfl
namespace Go.Proofs.YtcochbkdgjgaeaaDoor
/- THE CELL 'sum', in the pinned program and in every row, IS THE sha256 OF THE DUMP (.gsa) THAT YtcochbkdgjgaeaaDoorProg.lean LOADS. Nothing in Lean hashes anything: it is a label: what it is worth is what the hold of that sum in a sandbox is worth. -/
noncomputable def Tryd.pinned : Pinned := { name := "ytcochbkdgjgaeaadoor", sum := "f354a15b82535103418cd1086821d2b2324784b9661391af1746e09842f78b82", checked := Tryd.checked }
namespace Rows
def none {H : Type} : Left H := { results := [], args := [] }

/- WHAT THE LISTED PACKAGE-LEVEL VARIABLES READ AS WHEN THE CALL BEGINS. Each datum BY PROGRAM (the guide's laid-datum.mjs) off the statement by which the dump's own 'gosem.cut.vars' lays the variable. In a bare row this is a premise. The card (YtcochbkdgjgaeaaDoorCards.lean) ties it to the program's text. -/
def laid_unicode_utf8_acceptRanges {H : Type} : DataW H := .agg [.agg [.lit (.int .u8 128), .lit (.int .u8 191)], .agg [.lit (.int .u8 160), .lit (.int .u8 191)], .agg [.lit (.int .u8 128), .lit (.int .u8 159)], .agg [.lit (.int .u8 144), .lit (.int .u8 191)], .agg [.lit (.int .u8 128), .lit (.int .u8 143)], .agg [.lit (.int .u8 0), .lit (.int .u8 0)], .agg [.lit (.int .u8 0), .lit (.int .u8 0)], .agg [.lit (.int .u8 0), .lit (.int .u8 0)], .agg [.lit (.int .u8 0), .lit (.int .u8 0)], .agg [.lit (.int .u8 0), .lit (.int .u8 0)], .agg [.lit (.int .u8 0), .lit (.int .u8 0)], .agg [.lit (.int .u8 0), .lit (.int .u8 0)], .agg [.lit (.int .u8 0), .lit (.int .u8 0)], .agg [.lit (.int .u8 0), .lit (.int .u8 0)], .agg [.lit (.int .u8 0), .lit (.int .u8 0)], .agg [.lit (.int .u8 0), .lit (.int .u8 0)]]
/-- One of Go's own tables, pinned by name: the form's constant. -/
def laid_unicode_utf8_first : DataW Unit := Go.Pinned.utf8First

/-- 'quoinlaw13.ObjectSelects': WHATEVER THE INPUT: true; the input reads as it did. -/
def objectSelectsSpec : ChangeSpec := { name := "objectSelects", fn := fun _ => fun
  | [d1, d2] => { results := [.lit (.bool true)], args := [d1, d2] }
  | _ => none }
def objectSelectsRow : OpenClaim := { program := "ytcochbkdgjgaeaadoor", sum := "f354a15b82535103418cd1086821d2b2324784b9661391af1746e09842f78b82", func := "quoin/quoinlaw13.ObjectSelects", spec := "objectSelects", inPlace := ["internal/bytealg.Count", "internal/bytealg.IndexByte", "internal/bytealg.Index", "internal/bytealg.IndexByteString"], named := ["internal/bytealg.MaxLen", "unicode/utf8.first", "unicode/utf8.acceptRanges"], apart := false, laid := [("unicode/utf8.acceptRanges", laid_unicode_utf8_acceptRanges), ("unicode/utf8.first", laid_unicode_utf8_first)] }
def ObjectSelectsSaid : Prop := objectSelectsRow.holds Tryd.pinned (OpenSpec.ofChange objectSelectsSpec)

/-- ITS FALSE NEIGHBOUR: 'it returns false'. Refute it at one input. -/
def objectSelectsWrong : ChangeSpec := { name := "objectSelects", fn := fun _ => fun
  | [d1, d2] => { results := [.lit (.bool false)], args := [d1, d2] }
  | _ => none }
def ObjectSelectsWrongFalsely : Prop := objectSelectsRow.holds Tryd.pinned (OpenSpec.ofChange objectSelectsWrong)

/-- 'quoinlaw13.ObjectHolds': WHATEVER THE INPUT: true; the input reads as it did. -/
def objectHoldsSpec : ChangeSpec := { name := "objectHolds", fn := fun _ => fun
  | [d1, d2, d3] => { results := [.lit (.bool true)], args := [d1, d2, d3] }
  | _ => none }
def objectHoldsRow : OpenClaim := { program := "ytcochbkdgjgaeaadoor", sum := "f354a15b82535103418cd1086821d2b2324784b9661391af1746e09842f78b82", func := "quoin/quoinlaw13.ObjectHolds", spec := "objectHolds", inPlace := ["internal/bytealg.Count", "internal/bytealg.IndexByte", "internal/bytealg.Index", "internal/bytealg.IndexByteString"], named := ["internal/bytealg.MaxLen", "unicode/utf8.first", "unicode/utf8.acceptRanges"], apart := false, laid := [("unicode/utf8.acceptRanges", laid_unicode_utf8_acceptRanges), ("unicode/utf8.first", laid_unicode_utf8_first)] }
def ObjectHoldsSaid : Prop := objectHoldsRow.holds Tryd.pinned (OpenSpec.ofChange objectHoldsSpec)

/-- ITS FALSE NEIGHBOUR: 'it returns false'. Refute it at one input. -/
def objectHoldsWrong : ChangeSpec := { name := "objectHolds", fn := fun _ => fun
  | [d1, d2, d3] => { results := [.lit (.bool false)], args := [d1, d2, d3] }
  | _ => none }
def ObjectHoldsWrongFalsely : Prop := objectHoldsRow.holds Tryd.pinned (OpenSpec.ofChange objectHoldsWrong)

/-- 'quoinlaw13.ObjectNests': WHATEVER THE INPUT: true; the input reads as it did. -/
def objectNestsSpec : ChangeSpec := { name := "objectNests", fn := fun _ => fun
  | [d1, d2, d3] => { results := [.lit (.bool true)], args := [d1, d2, d3] }
  | _ => none }
def objectNestsRow : OpenClaim := { program := "ytcochbkdgjgaeaadoor", sum := "f354a15b82535103418cd1086821d2b2324784b9661391af1746e09842f78b82", func := "quoin/quoinlaw13.ObjectNests", spec := "objectNests", inPlace := ["internal/bytealg.Count", "internal/bytealg.IndexByte", "internal/bytealg.Index", "internal/bytealg.IndexByteString"], named := ["internal/bytealg.MaxLen", "unicode/utf8.first", "unicode/utf8.acceptRanges"], apart := false, laid := [("unicode/utf8.acceptRanges", laid_unicode_utf8_acceptRanges), ("unicode/utf8.first", laid_unicode_utf8_first)] }
def ObjectNestsSaid : Prop := objectNestsRow.holds Tryd.pinned (OpenSpec.ofChange objectNestsSpec)

/-- ITS FALSE NEIGHBOUR: 'it returns false'. Refute it at one input. -/
def objectNestsWrong : ChangeSpec := { name := "objectNests", fn := fun _ => fun
  | [d1, d2, d3] => { results := [.lit (.bool false)], args := [d1, d2, d3] }
  | _ => none }
def ObjectNestsWrongFalsely : Prop := objectNestsRow.holds Tryd.pinned (OpenSpec.ofChange objectNestsWrong)

/-- 'quoinlaw13.ObjectRuns': WHATEVER THE INPUT: true; the input reads as it did. -/
def objectRunsSpec : ChangeSpec := { name := "objectRuns", fn := fun _ => fun
  | [d1, d2, d3] => { results := [.lit (.bool true)], args := [d1, d2, d3] }
  | _ => none }
def objectRunsRow : OpenClaim := { program := "ytcochbkdgjgaeaadoor", sum := "f354a15b82535103418cd1086821d2b2324784b9661391af1746e09842f78b82", func := "quoin/quoinlaw13.ObjectRuns", spec := "objectRuns", inPlace := ["internal/bytealg.Count", "internal/bytealg.IndexByte", "internal/bytealg.Index", "internal/bytealg.IndexByteString"], named := ["internal/bytealg.MaxLen", "unicode/utf8.first", "unicode/utf8.acceptRanges"], apart := false, laid := [("unicode/utf8.acceptRanges", laid_unicode_utf8_acceptRanges), ("unicode/utf8.first", laid_unicode_utf8_first)] }
def ObjectRunsSaid : Prop := objectRunsRow.holds Tryd.pinned (OpenSpec.ofChange objectRunsSpec)

/-- ITS FALSE NEIGHBOUR: 'it returns false'. Refute it at one input. -/
def objectRunsWrong : ChangeSpec := { name := "objectRuns", fn := fun _ => fun
  | [d1, d2, d3] => { results := [.lit (.bool false)], args := [d1, d2, d3] }
  | _ => none }
def ObjectRunsWrongFalsely : Prop := objectRunsRow.holds Tryd.pinned (OpenSpec.ofChange objectRunsWrong)

/- THE SECOND FORM. 'bulk': how many values and letters a reading holds, each counted each time it is reached (what is shared counts as often as it is met; a slice's spare places count too). A statement '..UptoSaid' is the law's where the arguments, and the package variables that the reading takes, are together of bulk at most 1048576: NARROWER than '..Said'. Prove '..Said' where nothing that the law and all that it calls make is longer than what came in: it says more and counts as full. Else prove '..UptoSaid'. A law counts once. -/
mutual
def uptoBulk {H : Type} : DataW H → Nat
  | .lit (.string bytes) => bytes.length + 1
  | .lit _ => 1
  | .nil => 1
  | .ptr d => uptoBulk d + 1
  | .slice elems spare => uptoBulkAll elems + uptoBulkAll spare + 1
  | .agg parts => uptoBulkAll parts + 1
  | .iface _ d => uptoBulk d + 1
  | .map entries => uptoBulkEntries entries + 1
  | .held _ => 1
def uptoBulkAll {H : Type} : List (DataW H) → Nat
  | [] => 0
  | d :: r => uptoBulk d + uptoBulkAll r
def uptoBulkEntries {H : Type} : List (Lit × DataW H) → Nat
  | [] => 0
  | x :: r => uptoBulkEntry x + uptoBulkEntries r
def uptoBulkEntry {H : Type} : Lit × DataW H → Nat
  | (.string bytes, d) => bytes.length + uptoBulk d + 1
  | (_, d) => uptoBulk d + 1
 end
def uptoSmall : (H : Type) → List (DataW H) → Bool := fun _ ds => decide (uptoBulkAll ds ≤ 1048576)
def OpenSpec.upto (s : _root_.Go.ChangeSpec) : _root_.Go.OpenSpec := { _root_.Go.OpenSpec.ofChange s with cond := some uptoSmall }

/-- 'quoinlaw13.ObjectSelects', WHERE WHAT IT READS IS OF BULK AT MOST 1048576: true; the input reads as it did. -/
def objectSelectsUptoRow : OpenClaim := { program := "ytcochbkdgjgaeaadoor", sum := "f354a15b82535103418cd1086821d2b2324784b9661391af1746e09842f78b82", func := "quoin/quoinlaw13.ObjectSelects", spec := "objectSelects", inPlace := ["internal/bytealg.Count", "internal/bytealg.IndexByte", "internal/bytealg.Index", "internal/bytealg.IndexByteString"], named := ["internal/bytealg.MaxLen", "unicode/utf8.first", "unicode/utf8.acceptRanges"], apart := false, laid := [("unicode/utf8.acceptRanges", laid_unicode_utf8_acceptRanges), ("unicode/utf8.first", laid_unicode_utf8_first)], narrowed := true }
def ObjectSelectsUptoSaid : Prop := objectSelectsUptoRow.holds Tryd.pinned (OpenSpec.upto objectSelectsSpec)

/-- 'quoinlaw13.ObjectHolds', WHERE WHAT IT READS IS OF BULK AT MOST 1048576: true; the input reads as it did. -/
def objectHoldsUptoRow : OpenClaim := { program := "ytcochbkdgjgaeaadoor", sum := "f354a15b82535103418cd1086821d2b2324784b9661391af1746e09842f78b82", func := "quoin/quoinlaw13.ObjectHolds", spec := "objectHolds", inPlace := ["internal/bytealg.Count", "internal/bytealg.IndexByte", "internal/bytealg.Index", "internal/bytealg.IndexByteString"], named := ["internal/bytealg.MaxLen", "unicode/utf8.first", "unicode/utf8.acceptRanges"], apart := false, laid := [("unicode/utf8.acceptRanges", laid_unicode_utf8_acceptRanges), ("unicode/utf8.first", laid_unicode_utf8_first)], narrowed := true }
def ObjectHoldsUptoSaid : Prop := objectHoldsUptoRow.holds Tryd.pinned (OpenSpec.upto objectHoldsSpec)

/-- 'quoinlaw13.ObjectNests', WHERE WHAT IT READS IS OF BULK AT MOST 1048576: true; the input reads as it did. -/
def objectNestsUptoRow : OpenClaim := { program := "ytcochbkdgjgaeaadoor", sum := "f354a15b82535103418cd1086821d2b2324784b9661391af1746e09842f78b82", func := "quoin/quoinlaw13.ObjectNests", spec := "objectNests", inPlace := ["internal/bytealg.Count", "internal/bytealg.IndexByte", "internal/bytealg.Index", "internal/bytealg.IndexByteString"], named := ["internal/bytealg.MaxLen", "unicode/utf8.first", "unicode/utf8.acceptRanges"], apart := false, laid := [("unicode/utf8.acceptRanges", laid_unicode_utf8_acceptRanges), ("unicode/utf8.first", laid_unicode_utf8_first)], narrowed := true }
def ObjectNestsUptoSaid : Prop := objectNestsUptoRow.holds Tryd.pinned (OpenSpec.upto objectNestsSpec)

/-- 'quoinlaw13.ObjectRuns', WHERE WHAT IT READS IS OF BULK AT MOST 1048576: true; the input reads as it did. -/
def objectRunsUptoRow : OpenClaim := { program := "ytcochbkdgjgaeaadoor", sum := "f354a15b82535103418cd1086821d2b2324784b9661391af1746e09842f78b82", func := "quoin/quoinlaw13.ObjectRuns", spec := "objectRuns", inPlace := ["internal/bytealg.Count", "internal/bytealg.IndexByte", "internal/bytealg.Index", "internal/bytealg.IndexByteString"], named := ["internal/bytealg.MaxLen", "unicode/utf8.first", "unicode/utf8.acceptRanges"], apart := false, laid := [("unicode/utf8.acceptRanges", laid_unicode_utf8_acceptRanges), ("unicode/utf8.first", laid_unicode_utf8_first)], narrowed := true }
def ObjectRunsUptoSaid : Prop := objectRunsUptoRow.holds Tryd.pinned (OpenSpec.upto objectRunsSpec)

end Rows
end Go.Proofs.YtcochbkdgjgaeaaDoor
