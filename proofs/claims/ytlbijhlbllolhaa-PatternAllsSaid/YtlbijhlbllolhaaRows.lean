/-
  No cell of these rows narrows 'for every input' (looked for: loops, veiled, ifaces, maps, wideKeys, modest, calm, conditions, laid).
  DERIVED. THE GIVEN ROWS OF THIS SEAT. 5 by the template 'for every input the law returns true; each argument reads behind the call as it read before'; 0 by the template 'total and deterministic' (their statements: YtlbijhlbllolhaaTotals.lean).
  GIVEN WITH THE SEED: the statements are not yours to turn. If you find one false, say at which input.
  Laid BY PROGRAM, IN A SANDBOX (cutbox-rows.mjs): the forced cells as the released guide's own fill.sh prints them over the translation 21a352a6d9c22158… (all of the seat's roots in one cut). By AI agents, Wed Nov 11 2026. No macro, syntax, notation, axiom, sorry.
-/
import Derived.Test.YtlbijhlbllolhaaChecked
import GoSem.Claim
import GoSem.ClaimJoined
import GoSem.ClaimMapViews
import Derived.JoinedTies
import Derived.KernelRfl
namespace Go.Proofs.Ytlbijhlbllolhaa
/- THE CELL 'sum', in the pinned program and in every row, IS THE sha256 OF THE DUMP (.gsa) THAT YtlbijhlbllolhaaProg.lean LOADS. Nothing in Lean hashes anything: it is a label: what it is worth is what the hold of that sum in a sandbox is worth. -/
noncomputable def Try.pinned : Pinned := { name := "ytlbijhlbllolhaa", sum := "21a352a6d9c221585ee328079171ebc6208ffd2d1ffc2c1f401ae6fa97bd5ae7", checked := Try.checked }
namespace Rows
def none {H : Type} : Left H := { results := [], args := [] }

/-- 'quoinlaw11.PatternCompiles': WHATEVER THE INPUT: true; the input reads as it did. -/
def patternCompilesSpec : ChangeSpec := { name := "patternCompiles", fn := fun _ => fun
  | [d] => { results := [.lit (.bool true)], args := [d] }
  | _ => none }
def patternCompilesRow : OpenClaim := { program := "ytlbijhlbllolhaa", sum := "21a352a6d9c221585ee328079171ebc6208ffd2d1ffc2c1f401ae6fa97bd5ae7", func := "quoin/quoinlaw11.PatternCompiles", spec := "patternCompiles", unfollowed := true, recurses := true, apart := false }
def PatternCompilesSaid : Prop := patternCompilesRow.holds Try.pinned (OpenSpec.ofChange patternCompilesSpec)

/-- ITS FALSE NEIGHBOUR: 'it returns false'. Refute it at one input. -/
def patternCompilesWrong : ChangeSpec := { name := "patternCompiles", fn := fun _ => fun
  | [d] => { results := [.lit (.bool false)], args := [d] }
  | _ => none }
def PatternCompilesWrongFalsely : Prop := patternCompilesRow.holds Try.pinned (OpenSpec.ofChange patternCompilesWrong)

/-- 'quoinlaw11.PatternFinds': WHATEVER THE INPUT: true; the input reads as it did. -/
def patternFindsSpec : ChangeSpec := { name := "patternFinds", fn := fun _ => fun
  | [d1, d2, d3] => { results := [.lit (.bool true)], args := [d1, d2, d3] }
  | _ => none }
def patternFindsRow : OpenClaim := { program := "ytlbijhlbllolhaa", sum := "21a352a6d9c221585ee328079171ebc6208ffd2d1ffc2c1f401ae6fa97bd5ae7", func := "quoin/quoinlaw11.PatternFinds", spec := "patternFinds", unfollowed := true, recurses := true, apart := false }
def PatternFindsSaid : Prop := patternFindsRow.holds Try.pinned (OpenSpec.ofChange patternFindsSpec)

/-- ITS FALSE NEIGHBOUR: 'it returns false'. Refute it at one input. -/
def patternFindsWrong : ChangeSpec := { name := "patternFinds", fn := fun _ => fun
  | [d1, d2, d3] => { results := [.lit (.bool false)], args := [d1, d2, d3] }
  | _ => none }
def PatternFindsWrongFalsely : Prop := patternFindsRow.holds Try.pinned (OpenSpec.ofChange patternFindsWrong)

/-- 'quoinlaw11.PatternAlls': WHATEVER THE INPUT: true; the input reads as it did. -/
def patternAllsSpec : ChangeSpec := { name := "patternAlls", fn := fun _ => fun
  | [d1, d2] => { results := [.lit (.bool true)], args := [d1, d2] }
  | _ => none }
def patternAllsRow : OpenClaim := { program := "ytlbijhlbllolhaa", sum := "21a352a6d9c221585ee328079171ebc6208ffd2d1ffc2c1f401ae6fa97bd5ae7", func := "quoin/quoinlaw11.PatternAlls", spec := "patternAlls", unfollowed := true, recurses := true, apart := false }
def PatternAllsSaid : Prop := patternAllsRow.holds Try.pinned (OpenSpec.ofChange patternAllsSpec)

/-- ITS FALSE NEIGHBOUR: 'it returns false'. Refute it at one input. -/
def patternAllsWrong : ChangeSpec := { name := "patternAlls", fn := fun _ => fun
  | [d1, d2] => { results := [.lit (.bool false)], args := [d1, d2] }
  | _ => none }
def PatternAllsWrongFalsely : Prop := patternAllsRow.holds Try.pinned (OpenSpec.ofChange patternAllsWrong)

/-- 'quoinlaw11.PatternFrom': WHATEVER THE INPUT: true; the input reads as it did. -/
def patternFromSpec : ChangeSpec := { name := "patternFrom", fn := fun _ => fun
  | [d] => { results := [.lit (.bool true)], args := [d] }
  | _ => none }
def patternFromRow : OpenClaim := { program := "ytlbijhlbllolhaa", sum := "21a352a6d9c221585ee328079171ebc6208ffd2d1ffc2c1f401ae6fa97bd5ae7", func := "quoin/quoinlaw11.PatternFrom", spec := "patternFrom", unfollowed := true, recurses := true, apart := false }
def PatternFromSaid : Prop := patternFromRow.holds Try.pinned (OpenSpec.ofChange patternFromSpec)

/-- ITS FALSE NEIGHBOUR: 'it returns false'. Refute it at one input. -/
def patternFromWrong : ChangeSpec := { name := "patternFrom", fn := fun _ => fun
  | [d] => { results := [.lit (.bool false)], args := [d] }
  | _ => none }
def PatternFromWrongFalsely : Prop := patternFromRow.holds Try.pinned (OpenSpec.ofChange patternFromWrong)

/-- 'quoinlaw11.PatternRises': WHATEVER THE INPUT: true; the input reads as it did. -/
def patternRisesSpec : ChangeSpec := { name := "patternRises", fn := fun _ => fun
  | [d1, d2] => { results := [.lit (.bool true)], args := [d1, d2] }
  | _ => none }
def patternRisesRow : OpenClaim := { program := "ytlbijhlbllolhaa", sum := "21a352a6d9c221585ee328079171ebc6208ffd2d1ffc2c1f401ae6fa97bd5ae7", func := "quoin/quoinlaw11.PatternRises", spec := "patternRises", unfollowed := true, recurses := true, apart := false }
def PatternRisesSaid : Prop := patternRisesRow.holds Try.pinned (OpenSpec.ofChange patternRisesSpec)

/-- ITS FALSE NEIGHBOUR: 'it returns false'. Refute it at one input. -/
def patternRisesWrong : ChangeSpec := { name := "patternRises", fn := fun _ => fun
  | [d1, d2] => { results := [.lit (.bool false)], args := [d1, d2] }
  | _ => none }
def PatternRisesWrongFalsely : Prop := patternRisesRow.holds Try.pinned (OpenSpec.ofChange patternRisesWrong)

/- THE SECOND FORM. 'bulk': how many values and letters a reading holds, each counted each time it is reached (what is shared counts as often as it is met; a slice's spare places count too). A statement '..UptoSaid' is the law's where the arguments, and the package variables that the reading takes, are together of bulk at most 1048576: NARROWER than '..Said'. Prove '..Said' where nothing that the law and all that it calls make is longer than what came in: it says more and counts as full. Else prove '..UptoSaid'. A law counts once. -/
mutual
def uptoBulk {H : Type} : DataW H → Nat
  | .lit (.string bytes) => bytes.length + 1
  | .lit _ => 1
  | .nil => 1
  | .ptr d => uptoBulk d + 1
  | .slice elems spare => uptoBulkAll elems + uptoBulkAll spare + 1
  | .agg parts => uptoBulkAll parts + 1
  | .iface _ d => uptoBulk d + 1
  | .map entries => uptoBulkEntries entries + 1
  | .held _ => 1
def uptoBulkAll {H : Type} : List (DataW H) → Nat
  | [] => 0
  | d :: r => uptoBulk d + uptoBulkAll r
def uptoBulkEntries {H : Type} : List (Lit × DataW H) → Nat
  | [] => 0
  | x :: r => uptoBulkEntry x + uptoBulkEntries r
def uptoBulkEntry {H : Type} : Lit × DataW H → Nat
  | (.string bytes, d) => bytes.length + uptoBulk d + 1
  | (_, d) => uptoBulk d + 1
 end
def uptoSmall : (H : Type) → List (DataW H) → Bool := fun _ ds => decide (uptoBulkAll ds ≤ 1048576)
def OpenSpec.upto (s : _root_.Go.ChangeSpec) : _root_.Go.OpenSpec := { _root_.Go.OpenSpec.ofChange s with cond := some uptoSmall }

/-- 'quoinlaw11.PatternCompiles', WHERE WHAT IT READS IS OF BULK AT MOST 1048576: true; the input reads as it did. -/
def patternCompilesUptoRow : OpenClaim := { program := "ytlbijhlbllolhaa", sum := "21a352a6d9c221585ee328079171ebc6208ffd2d1ffc2c1f401ae6fa97bd5ae7", func := "quoin/quoinlaw11.PatternCompiles", spec := "patternCompiles", unfollowed := true, recurses := true, apart := false, narrowed := true }
def PatternCompilesUptoSaid : Prop := patternCompilesUptoRow.holds Try.pinned (OpenSpec.upto patternCompilesSpec)

/-- 'quoinlaw11.PatternFinds', WHERE WHAT IT READS IS OF BULK AT MOST 1048576: true; the input reads as it did. -/
def patternFindsUptoRow : OpenClaim := { program := "ytlbijhlbllolhaa", sum := "21a352a6d9c221585ee328079171ebc6208ffd2d1ffc2c1f401ae6fa97bd5ae7", func := "quoin/quoinlaw11.PatternFinds", spec := "patternFinds", unfollowed := true, recurses := true, apart := false, narrowed := true }
def PatternFindsUptoSaid : Prop := patternFindsUptoRow.holds Try.pinned (OpenSpec.upto patternFindsSpec)

/-- 'quoinlaw11.PatternAlls', WHERE WHAT IT READS IS OF BULK AT MOST 1048576: true; the input reads as it did. -/
def patternAllsUptoRow : OpenClaim := { program := "ytlbijhlbllolhaa", sum := "21a352a6d9c221585ee328079171ebc6208ffd2d1ffc2c1f401ae6fa97bd5ae7", func := "quoin/quoinlaw11.PatternAlls", spec := "patternAlls", unfollowed := true, recurses := true, apart := false, narrowed := true }
def PatternAllsUptoSaid : Prop := patternAllsUptoRow.holds Try.pinned (OpenSpec.upto patternAllsSpec)

/-- 'quoinlaw11.PatternFrom', WHERE WHAT IT READS IS OF BULK AT MOST 1048576: true; the input reads as it did. -/
def patternFromUptoRow : OpenClaim := { program := "ytlbijhlbllolhaa", sum := "21a352a6d9c221585ee328079171ebc6208ffd2d1ffc2c1f401ae6fa97bd5ae7", func := "quoin/quoinlaw11.PatternFrom", spec := "patternFrom", unfollowed := true, recurses := true, apart := false, narrowed := true }
def PatternFromUptoSaid : Prop := patternFromUptoRow.holds Try.pinned (OpenSpec.upto patternFromSpec)

/-- 'quoinlaw11.PatternRises', WHERE WHAT IT READS IS OF BULK AT MOST 1048576: true; the input reads as it did. -/
def patternRisesUptoRow : OpenClaim := { program := "ytlbijhlbllolhaa", sum := "21a352a6d9c221585ee328079171ebc6208ffd2d1ffc2c1f401ae6fa97bd5ae7", func := "quoin/quoinlaw11.PatternRises", spec := "patternRises", unfollowed := true, recurses := true, apart := false, narrowed := true }
def PatternRisesUptoSaid : Prop := patternRisesUptoRow.holds Try.pinned (OpenSpec.upto patternRisesSpec)

end Rows
end Go.Proofs.Ytlbijhlbllolhaa
