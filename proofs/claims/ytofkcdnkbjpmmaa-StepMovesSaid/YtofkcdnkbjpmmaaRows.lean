/-
  No cell of these rows narrows 'for every input' (looked for: loops, veiled, ifaces, maps, wideKeys, modest, calm, conditions, laid).
  DERIVED. THE GIVEN ROWS OF THIS SEAT. 4 by the template 'for every input the law returns true; each argument reads behind the call as it read before'; 0 by the template 'total and deterministic' (their statements: YtofkcdnkbjpmmaaTotals.lean).
  GIVEN WITH THE SEED: the statements are not yours to turn. If you find one false, say at which input.
  Laid BY PROGRAM, IN A SANDBOX (cutbox-rows.mjs): the forced cells as the released guide's own fill.sh prints them over the translation a89e90b6d959b189… (all of the seat's roots in one cut). By AI agents, Wed Nov 11 2026. No macro, syntax, notation, axiom, sorry.
-/
import Derived.Test.YtofkcdnkbjpmmaaChecked
import GoSem.Claim
import GoSem.ClaimJoined
import GoSem.ClaimMapViews
import Derived.JoinedTies
import Derived.KernelRfl
namespace Go.Proofs.Ytofkcdnkbjpmmaa
/- THE CELL 'sum', in the pinned program and in every row, IS THE sha256 OF THE DUMP (.gsa) THAT YtofkcdnkbjpmmaaProg.lean LOADS. Nothing in Lean hashes anything: it is a label: what it is worth is what the hold of that sum in a sandbox is worth. -/
noncomputable def Try.pinned : Pinned := { name := "ytofkcdnkbjpmmaa", sum := "a89e90b6d959b189bd4c62b49c5f1cbf1f50e57b7900c0db650ce6397e297e1d", checked := Try.checked }
namespace Rows
def none {H : Type} : Left H := { results := [], args := [] }

/-- 'quoinlaw07.StepMoves': WHATEVER THE INPUT: true; the input reads as it did. -/
def stepMovesSpec : ChangeSpec := { name := "stepMoves", fn := fun _ => fun
  | [d1, d2] => { results := [.lit (.bool true)], args := [d1, d2] }
  | _ => none }
def stepMovesRow : OpenClaim := { program := "ytofkcdnkbjpmmaa", sum := "a89e90b6d959b189bd4c62b49c5f1cbf1f50e57b7900c0db650ce6397e297e1d", func := "quoin/quoinlaw07.StepMoves", spec := "stepMoves", inPlace := ["internal/bytealg.Count", "internal/bytealg.IndexByte", "internal/bytealg.Index"], named := ["internal/bytealg.MaxLen"], apart := false }
def StepMovesSaid : Prop := stepMovesRow.holds Try.pinned (OpenSpec.ofChange stepMovesSpec)

/-- ITS FALSE NEIGHBOUR: 'it returns false'. Refute it at one input. -/
def stepMovesWrong : ChangeSpec := { name := "stepMoves", fn := fun _ => fun
  | [d1, d2] => { results := [.lit (.bool false)], args := [d1, d2] }
  | _ => none }
def StepMovesWrongFalsely : Prop := stepMovesRow.holds Try.pinned (OpenSpec.ofChange stepMovesWrong)

/-- 'quoinlaw07.StepRows': WHATEVER THE INPUT: true; the input reads as it did. -/
def stepRowsSpec : ChangeSpec := { name := "stepRows", fn := fun _ => fun
  | [d1, d2] => { results := [.lit (.bool true)], args := [d1, d2] }
  | _ => none }
def stepRowsRow : OpenClaim := { program := "ytofkcdnkbjpmmaa", sum := "a89e90b6d959b189bd4c62b49c5f1cbf1f50e57b7900c0db650ce6397e297e1d", func := "quoin/quoinlaw07.StepRows", spec := "stepRows", inPlace := ["internal/bytealg.Count", "internal/bytealg.IndexByte", "internal/bytealg.Index"], named := ["internal/bytealg.MaxLen"], apart := false }
def StepRowsSaid : Prop := stepRowsRow.holds Try.pinned (OpenSpec.ofChange stepRowsSpec)

/-- ITS FALSE NEIGHBOUR: 'it returns false'. Refute it at one input. -/
def stepRowsWrong : ChangeSpec := { name := "stepRows", fn := fun _ => fun
  | [d1, d2] => { results := [.lit (.bool false)], args := [d1, d2] }
  | _ => none }
def StepRowsWrongFalsely : Prop := stepRowsRow.holds Try.pinned (OpenSpec.ofChange stepRowsWrong)

/-- 'quoinlaw07.StepTimes': WHATEVER THE INPUT: true; the input reads as it did. -/
def stepTimesSpec : ChangeSpec := { name := "stepTimes", fn := fun _ => fun
  | [d1, d2] => { results := [.lit (.bool true)], args := [d1, d2] }
  | _ => none }
def stepTimesRow : OpenClaim := { program := "ytofkcdnkbjpmmaa", sum := "a89e90b6d959b189bd4c62b49c5f1cbf1f50e57b7900c0db650ce6397e297e1d", func := "quoin/quoinlaw07.StepTimes", spec := "stepTimes", inPlace := ["internal/bytealg.Count", "internal/bytealg.IndexByte", "internal/bytealg.Index"], named := ["internal/bytealg.MaxLen"], apart := false }
def StepTimesSaid : Prop := stepTimesRow.holds Try.pinned (OpenSpec.ofChange stepTimesSpec)

/-- ITS FALSE NEIGHBOUR: 'it returns false'. Refute it at one input. -/
def stepTimesWrong : ChangeSpec := { name := "stepTimes", fn := fun _ => fun
  | [d1, d2] => { results := [.lit (.bool false)], args := [d1, d2] }
  | _ => none }
def StepTimesWrongFalsely : Prop := stepTimesRow.holds Try.pinned (OpenSpec.ofChange stepTimesWrong)

/-- 'quoinlaw07.StepPlaces': WHATEVER THE INPUT: true; the input reads as it did. -/
def stepPlacesSpec : ChangeSpec := { name := "stepPlaces", fn := fun _ => fun
  | [d1, d2] => { results := [.lit (.bool true)], args := [d1, d2] }
  | _ => none }
def stepPlacesRow : OpenClaim := { program := "ytofkcdnkbjpmmaa", sum := "a89e90b6d959b189bd4c62b49c5f1cbf1f50e57b7900c0db650ce6397e297e1d", func := "quoin/quoinlaw07.StepPlaces", spec := "stepPlaces", inPlace := ["internal/bytealg.Count", "internal/bytealg.IndexByte", "internal/bytealg.Index"], named := ["internal/bytealg.MaxLen"], apart := false }
def StepPlacesSaid : Prop := stepPlacesRow.holds Try.pinned (OpenSpec.ofChange stepPlacesSpec)

/-- ITS FALSE NEIGHBOUR: 'it returns false'. Refute it at one input. -/
def stepPlacesWrong : ChangeSpec := { name := "stepPlaces", fn := fun _ => fun
  | [d1, d2] => { results := [.lit (.bool false)], args := [d1, d2] }
  | _ => none }
def StepPlacesWrongFalsely : Prop := stepPlacesRow.holds Try.pinned (OpenSpec.ofChange stepPlacesWrong)

/- THE SECOND FORM. 'bulk': how many values and letters a reading holds, each counted each time it is reached (what is shared counts as often as it is met; a slice's spare places count too). A statement '..UptoSaid' is the law's where the arguments, and the package variables that the reading takes, are together of bulk at most 1048576: NARROWER than '..Said'. Prove '..Said' where nothing that the law and all that it calls make is longer than what came in: it says more and counts as full. Else prove '..UptoSaid'. A law counts once. -/
mutual
def uptoBulk {H : Type} : DataW H → Nat
  | .lit (.string bytes) => bytes.length + 1
  | .lit _ => 1
  | .nil => 1
  | .ptr d => uptoBulk d + 1
  | .slice elems spare => uptoBulkAll elems + uptoBulkAll spare + 1
  | .agg parts => uptoBulkAll parts + 1
  | .iface _ d => uptoBulk d + 1
  | .map entries => uptoBulkEntries entries + 1
  | .held _ => 1
def uptoBulkAll {H : Type} : List (DataW H) → Nat
  | [] => 0
  | d :: r => uptoBulk d + uptoBulkAll r
def uptoBulkEntries {H : Type} : List (Lit × DataW H) → Nat
  | [] => 0
  | x :: r => uptoBulkEntry x + uptoBulkEntries r
def uptoBulkEntry {H : Type} : Lit × DataW H → Nat
  | (.string bytes, d) => bytes.length + uptoBulk d + 1
  | (_, d) => uptoBulk d + 1
 end
def uptoSmall : (H : Type) → List (DataW H) → Bool := fun _ ds => decide (uptoBulkAll ds ≤ 1048576)
def OpenSpec.upto (s : _root_.Go.ChangeSpec) : _root_.Go.OpenSpec := { _root_.Go.OpenSpec.ofChange s with cond := some uptoSmall }

/-- 'quoinlaw07.StepMoves', WHERE WHAT IT READS IS OF BULK AT MOST 1048576: true; the input reads as it did. -/
def stepMovesUptoRow : OpenClaim := { program := "ytofkcdnkbjpmmaa", sum := "a89e90b6d959b189bd4c62b49c5f1cbf1f50e57b7900c0db650ce6397e297e1d", func := "quoin/quoinlaw07.StepMoves", spec := "stepMoves", inPlace := ["internal/bytealg.Count", "internal/bytealg.IndexByte", "internal/bytealg.Index"], named := ["internal/bytealg.MaxLen"], apart := false, narrowed := true }
def StepMovesUptoSaid : Prop := stepMovesUptoRow.holds Try.pinned (OpenSpec.upto stepMovesSpec)

/-- 'quoinlaw07.StepRows', WHERE WHAT IT READS IS OF BULK AT MOST 1048576: true; the input reads as it did. -/
def stepRowsUptoRow : OpenClaim := { program := "ytofkcdnkbjpmmaa", sum := "a89e90b6d959b189bd4c62b49c5f1cbf1f50e57b7900c0db650ce6397e297e1d", func := "quoin/quoinlaw07.StepRows", spec := "stepRows", inPlace := ["internal/bytealg.Count", "internal/bytealg.IndexByte", "internal/bytealg.Index"], named := ["internal/bytealg.MaxLen"], apart := false, narrowed := true }
def StepRowsUptoSaid : Prop := stepRowsUptoRow.holds Try.pinned (OpenSpec.upto stepRowsSpec)

/-- 'quoinlaw07.StepTimes', WHERE WHAT IT READS IS OF BULK AT MOST 1048576: true; the input reads as it did. -/
def stepTimesUptoRow : OpenClaim := { program := "ytofkcdnkbjpmmaa", sum := "a89e90b6d959b189bd4c62b49c5f1cbf1f50e57b7900c0db650ce6397e297e1d", func := "quoin/quoinlaw07.StepTimes", spec := "stepTimes", inPlace := ["internal/bytealg.Count", "internal/bytealg.IndexByte", "internal/bytealg.Index"], named := ["internal/bytealg.MaxLen"], apart := false, narrowed := true }
def StepTimesUptoSaid : Prop := stepTimesUptoRow.holds Try.pinned (OpenSpec.upto stepTimesSpec)

/-- 'quoinlaw07.StepPlaces', WHERE WHAT IT READS IS OF BULK AT MOST 1048576: true; the input reads as it did. -/
def stepPlacesUptoRow : OpenClaim := { program := "ytofkcdnkbjpmmaa", sum := "a89e90b6d959b189bd4c62b49c5f1cbf1f50e57b7900c0db650ce6397e297e1d", func := "quoin/quoinlaw07.StepPlaces", spec := "stepPlaces", inPlace := ["internal/bytealg.Count", "internal/bytealg.IndexByte", "internal/bytealg.Index"], named := ["internal/bytealg.MaxLen"], apart := false, narrowed := true }
def StepPlacesUptoSaid : Prop := stepPlacesUptoRow.holds Try.pinned (OpenSpec.upto stepPlacesSpec)

end Rows
end Go.Proofs.Ytofkcdnkbjpmmaa
