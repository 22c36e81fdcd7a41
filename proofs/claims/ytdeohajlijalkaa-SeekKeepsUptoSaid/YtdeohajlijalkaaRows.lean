/-
  No cell of these rows narrows 'for every input' (looked for: loops, veiled, ifaces, maps, wideKeys, modest, calm, conditions, laid).
  DERIVED. THE GIVEN ROWS OF THIS SEAT. 6 by the template 'for every input the law returns true; each argument reads behind the call as it read before'; 0 by the template 'total and deterministic' (their statements: YtdeohajlijalkaaTotals.lean).
  GIVEN WITH THE SEED: the statements are not yours to turn. If you find one false, say at which input.
  Laid BY PROGRAM, IN A SANDBOX (cutbox-rows.mjs): the forced cells as the released guide's own fill.sh prints them over the translation a9d55acf6c24f0ac… (all of the seat's roots in one cut). By AI agents, Wed Nov 11 2026. No macro, syntax, notation, axiom, sorry.
-/
import Derived.Test.YtdeohajlijalkaaChecked
import GoSem.Claim
import GoSem.ClaimJoined
import GoSem.ClaimMapViews
import Derived.JoinedTies
import Derived.KernelRfl
namespace Go.Proofs.Ytdeohajlijalkaa
/- THE CELL 'sum', in the pinned program and in every row, IS THE sha256 OF THE DUMP (.gsa) THAT YtdeohajlijalkaaProg.lean LOADS. Nothing in Lean hashes anything: it is a label: what it is worth is what the hold of that sum in a sandbox is worth. -/
noncomputable def Try.pinned : Pinned := { name := "ytdeohajlijalkaa", sum := "a9d55acf6c24f0acd3644db20acfee39a9fc56712918963351c743a3d2764284", checked := Try.checked }
namespace Rows
def none {H : Type} : Left H := { results := [], args := [] }

/-- 'quoinlaw09.SeekMoves': WHATEVER THE INPUT: true; the input reads as it did. -/
def seekMovesSpec : ChangeSpec := { name := "seekMoves", fn := fun _ => fun
  | [d] => { results := [.lit (.bool true)], args := [d] }
  | _ => none }
def seekMovesRow : OpenClaim := { program := "ytdeohajlijalkaa", sum := "a9d55acf6c24f0acd3644db20acfee39a9fc56712918963351c743a3d2764284", func := "quoin/quoinlaw09.SeekMoves", spec := "seekMoves", inPlace := ["internal/bytealg.Count", "internal/bytealg.IndexByte", "internal/bytealg.Index"], named := ["internal/bytealg.MaxLen"], apart := false }
def SeekMovesSaid : Prop := seekMovesRow.holds Try.pinned (OpenSpec.ofChange seekMovesSpec)

/-- ITS FALSE NEIGHBOUR: 'it returns false'. Refute it at one input. -/
def seekMovesWrong : ChangeSpec := { name := "seekMoves", fn := fun _ => fun
  | [d] => { results := [.lit (.bool false)], args := [d] }
  | _ => none }
def SeekMovesWrongFalsely : Prop := seekMovesRow.holds Try.pinned (OpenSpec.ofChange seekMovesWrong)

/-- 'quoinlaw09.SeekLine': WHATEVER THE INPUT: true; the input reads as it did. -/
def seekLineSpec : ChangeSpec := { name := "seekLine", fn := fun _ => fun
  | [d] => { results := [.lit (.bool true)], args := [d] }
  | _ => none }
def seekLineRow : OpenClaim := { program := "ytdeohajlijalkaa", sum := "a9d55acf6c24f0acd3644db20acfee39a9fc56712918963351c743a3d2764284", func := "quoin/quoinlaw09.SeekLine", spec := "seekLine", inPlace := ["internal/bytealg.Count", "internal/bytealg.IndexByte", "internal/bytealg.Index"], named := ["internal/bytealg.MaxLen"], apart := false }
def SeekLineSaid : Prop := seekLineRow.holds Try.pinned (OpenSpec.ofChange seekLineSpec)

/-- ITS FALSE NEIGHBOUR: 'it returns false'. Refute it at one input. -/
def seekLineWrong : ChangeSpec := { name := "seekLine", fn := fun _ => fun
  | [d] => { results := [.lit (.bool false)], args := [d] }
  | _ => none }
def SeekLineWrongFalsely : Prop := seekLineRow.holds Try.pinned (OpenSpec.ofChange seekLineWrong)

/-- 'quoinlaw09.SeekBack': WHATEVER THE INPUT: true; the input reads as it did. -/
def seekBackSpec : ChangeSpec := { name := "seekBack", fn := fun _ => fun
  | [d1, d2, d3, d4, d5] => { results := [.lit (.bool true)], args := [d1, d2, d3, d4, d5] }
  | _ => none }
def seekBackRow : OpenClaim := { program := "ytdeohajlijalkaa", sum := "a9d55acf6c24f0acd3644db20acfee39a9fc56712918963351c743a3d2764284", func := "quoin/quoinlaw09.SeekBack", spec := "seekBack", inPlace := ["internal/bytealg.Count", "internal/bytealg.IndexByte", "internal/bytealg.Index"], named := ["internal/bytealg.MaxLen"], apart := false }
def SeekBackSaid : Prop := seekBackRow.holds Try.pinned (OpenSpec.ofChange seekBackSpec)

/-- ITS FALSE NEIGHBOUR: 'it returns false'. Refute it at one input. -/
def seekBackWrong : ChangeSpec := { name := "seekBack", fn := fun _ => fun
  | [d1, d2, d3, d4, d5] => { results := [.lit (.bool false)], args := [d1, d2, d3, d4, d5] }
  | _ => none }
def SeekBackWrongFalsely : Prop := seekBackRow.holds Try.pinned (OpenSpec.ofChange seekBackWrong)

/-- 'quoinlaw09.SeekAgains': WHATEVER THE INPUT: true; the input reads as it did. -/
def seekAgainsSpec : ChangeSpec := { name := "seekAgains", fn := fun _ => fun
  | [d] => { results := [.lit (.bool true)], args := [d] }
  | _ => none }
def seekAgainsRow : OpenClaim := { program := "ytdeohajlijalkaa", sum := "a9d55acf6c24f0acd3644db20acfee39a9fc56712918963351c743a3d2764284", func := "quoin/quoinlaw09.SeekAgains", spec := "seekAgains", inPlace := ["internal/bytealg.Count", "internal/bytealg.IndexByte", "internal/bytealg.Index"], named := ["internal/bytealg.MaxLen"], apart := false }
def SeekAgainsSaid : Prop := seekAgainsRow.holds Try.pinned (OpenSpec.ofChange seekAgainsSpec)

/-- ITS FALSE NEIGHBOUR: 'it returns false'. Refute it at one input. -/
def seekAgainsWrong : ChangeSpec := { name := "seekAgains", fn := fun _ => fun
  | [d] => { results := [.lit (.bool false)], args := [d] }
  | _ => none }
def SeekAgainsWrongFalsely : Prop := seekAgainsRow.holds Try.pinned (OpenSpec.ofChange seekAgainsWrong)

/-- 'quoinlaw09.SeekOn': WHATEVER THE INPUT: true; the input reads as it did. -/
def seekOnSpec : ChangeSpec := { name := "seekOn", fn := fun _ => fun
  | [d] => { results := [.lit (.bool true)], args := [d] }
  | _ => none }
def seekOnRow : OpenClaim := { program := "ytdeohajlijalkaa", sum := "a9d55acf6c24f0acd3644db20acfee39a9fc56712918963351c743a3d2764284", func := "quoin/quoinlaw09.SeekOn", spec := "seekOn", inPlace := ["internal/bytealg.Count", "internal/bytealg.IndexByte", "internal/bytealg.Index"], named := ["internal/bytealg.MaxLen"], apart := false }
def SeekOnSaid : Prop := seekOnRow.holds Try.pinned (OpenSpec.ofChange seekOnSpec)

/-- ITS FALSE NEIGHBOUR: 'it returns false'. Refute it at one input. -/
def seekOnWrong : ChangeSpec := { name := "seekOn", fn := fun _ => fun
  | [d] => { results := [.lit (.bool false)], args := [d] }
  | _ => none }
def SeekOnWrongFalsely : Prop := seekOnRow.holds Try.pinned (OpenSpec.ofChange seekOnWrong)

/-- 'quoinlaw09.SeekKeeps': WHATEVER THE INPUT: true; the input reads as it did. -/
def seekKeepsSpec : ChangeSpec := { name := "seekKeeps", fn := fun _ => fun
  | [d] => { results := [.lit (.bool true)], args := [d] }
  | _ => none }
def seekKeepsRow : OpenClaim := { program := "ytdeohajlijalkaa", sum := "a9d55acf6c24f0acd3644db20acfee39a9fc56712918963351c743a3d2764284", func := "quoin/quoinlaw09.SeekKeeps", spec := "seekKeeps", inPlace := ["internal/bytealg.Count", "internal/bytealg.IndexByte", "internal/bytealg.Index"], named := ["internal/bytealg.MaxLen"], apart := false }
def SeekKeepsSaid : Prop := seekKeepsRow.holds Try.pinned (OpenSpec.ofChange seekKeepsSpec)

/-- ITS FALSE NEIGHBOUR: 'it returns false'. Refute it at one input. -/
def seekKeepsWrong : ChangeSpec := { name := "seekKeeps", fn := fun _ => fun
  | [d] => { results := [.lit (.bool false)], args := [d] }
  | _ => none }
def SeekKeepsWrongFalsely : Prop := seekKeepsRow.holds Try.pinned (OpenSpec.ofChange seekKeepsWrong)

/- THE SECOND FORM. 'bulk': how many values and letters a reading holds, each counted each time it is reached (what is shared counts as often as it is met; a slice's spare places count too). A statement '..UptoSaid' is the law's where the arguments, and the package variables that the reading takes, are together of bulk at most 1048576: NARROWER than '..Said'. Prove '..Said' where nothing that the law and all that it calls make is longer than what came in: it says more and counts as full. Else prove '..UptoSaid'. A law counts once. -/
mutual
def uptoBulk {H : Type} : DataW H → Nat
  | .lit (.string bytes) => bytes.length + 1
  | .lit _ => 1
  | .nil => 1
  | .ptr d => uptoBulk d + 1
  | .slice elems spare => uptoBulkAll elems + uptoBulkAll spare + 1
  | .agg parts => uptoBulkAll parts + 1
  | .iface _ d => uptoBulk d + 1
  | .map entries => uptoBulkEntries entries + 1
  | .held _ => 1
def uptoBulkAll {H : Type} : List (DataW H) → Nat
  | [] => 0
  | d :: r => uptoBulk d + uptoBulkAll r
def uptoBulkEntries {H : Type} : List (Lit × DataW H) → Nat
  | [] => 0
  | x :: r => uptoBulkEntry x + uptoBulkEntries r
def uptoBulkEntry {H : Type} : Lit × DataW H → Nat
  | (.string bytes, d) => bytes.length + uptoBulk d + 1
  | (_, d) => uptoBulk d + 1
 end
def uptoSmall : (H : Type) → List (DataW H) → Bool := fun _ ds => decide (uptoBulkAll ds ≤ 1048576)
def OpenSpec.upto (s : _root_.Go.ChangeSpec) : _root_.Go.OpenSpec := { _root_.Go.OpenSpec.ofChange s with cond := some uptoSmall }

/-- 'quoinlaw09.SeekMoves', WHERE WHAT IT READS IS OF BULK AT MOST 1048576: true; the input reads as it did. -/
def seekMovesUptoRow : OpenClaim := { program := "ytdeohajlijalkaa", sum := "a9d55acf6c24f0acd3644db20acfee39a9fc56712918963351c743a3d2764284", func := "quoin/quoinlaw09.SeekMoves", spec := "seekMoves", inPlace := ["internal/bytealg.Count", "internal/bytealg.IndexByte", "internal/bytealg.Index"], named := ["internal/bytealg.MaxLen"], apart := false, narrowed := true }
def SeekMovesUptoSaid : Prop := seekMovesUptoRow.holds Try.pinned (OpenSpec.upto seekMovesSpec)

/-- 'quoinlaw09.SeekLine', WHERE WHAT IT READS IS OF BULK AT MOST 1048576: true; the input reads as it did. -/
def seekLineUptoRow : OpenClaim := { program := "ytdeohajlijalkaa", sum := "a9d55acf6c24f0acd3644db20acfee39a9fc56712918963351c743a3d2764284", func := "quoin/quoinlaw09.SeekLine", spec := "seekLine", inPlace := ["internal/bytealg.Count", "internal/bytealg.IndexByte", "internal/bytealg.Index"], named := ["internal/bytealg.MaxLen"], apart := false, narrowed := true }
def SeekLineUptoSaid : Prop := seekLineUptoRow.holds Try.pinned (OpenSpec.upto seekLineSpec)

/-- 'quoinlaw09.SeekBack', WHERE WHAT IT READS IS OF BULK AT MOST 1048576: true; the input reads as it did. -/
def seekBackUptoRow : OpenClaim := { program := "ytdeohajlijalkaa", sum := "a9d55acf6c24f0acd3644db20acfee39a9fc56712918963351c743a3d2764284", func := "quoin/quoinlaw09.SeekBack", spec := "seekBack", inPlace := ["internal/bytealg.Count", "internal/bytealg.IndexByte", "internal/bytealg.Index"], named := ["internal/bytealg.MaxLen"], apart := false, narrowed := true }
def SeekBackUptoSaid : Prop := seekBackUptoRow.holds Try.pinned (OpenSpec.upto seekBackSpec)

/-- 'quoinlaw09.SeekAgains', WHERE WHAT IT READS IS OF BULK AT MOST 1048576: true; the input reads as it did. -/
def seekAgainsUptoRow : OpenClaim := { program := "ytdeohajlijalkaa", sum := "a9d55acf6c24f0acd3644db20acfee39a9fc56712918963351c743a3d2764284", func := "quoin/quoinlaw09.SeekAgains", spec := "seekAgains", inPlace := ["internal/bytealg.Count", "internal/bytealg.IndexByte", "internal/bytealg.Index"], named := ["internal/bytealg.MaxLen"], apart := false, narrowed := true }
def SeekAgainsUptoSaid : Prop := seekAgainsUptoRow.holds Try.pinned (OpenSpec.upto seekAgainsSpec)

/-- 'quoinlaw09.SeekOn', WHERE WHAT IT READS IS OF BULK AT MOST 1048576: true; the input reads as it did. -/
def seekOnUptoRow : OpenClaim := { program := "ytdeohajlijalkaa", sum := "a9d55acf6c24f0acd3644db20acfee39a9fc56712918963351c743a3d2764284", func := "quoin/quoinlaw09.SeekOn", spec := "seekOn", inPlace := ["internal/bytealg.Count", "internal/bytealg.IndexByte", "internal/bytealg.Index"], named := ["internal/bytealg.MaxLen"], apart := false, narrowed := true }
def SeekOnUptoSaid : Prop := seekOnUptoRow.holds Try.pinned (OpenSpec.upto seekOnSpec)

/-- 'quoinlaw09.SeekKeeps', WHERE WHAT IT READS IS OF BULK AT MOST 1048576: true; the input reads as it did. -/
def seekKeepsUptoRow : OpenClaim := { program := "ytdeohajlijalkaa", sum := "a9d55acf6c24f0acd3644db20acfee39a9fc56712918963351c743a3d2764284", func := "quoin/quoinlaw09.SeekKeeps", spec := "seekKeeps", inPlace := ["internal/bytealg.Count", "internal/bytealg.IndexByte", "internal/bytealg.Index"], named := ["internal/bytealg.MaxLen"], apart := false, narrowed := true }
def SeekKeepsUptoSaid : Prop := seekKeepsUptoRow.holds Try.pinned (OpenSpec.upto seekKeepsSpec)

end Rows
end Go.Proofs.Ytdeohajlijalkaa
