/-
  No cell of these rows narrows 'for every input' (looked for: loops, veiled, ifaces, maps, wideKeys, modest, calm, conditions, laid).
  DERIVED. THE GIVEN ROWS OF THIS SEAT. 4 by the template 'for every input the law returns true; each argument reads behind the call as it read before'; 0 by the template 'total and deterministic' (their statements: YtlcdnpecoaamcaaTotals.lean).
  GIVEN WITH THE SEED: the statements are not yours to turn. If you find one false, say at which input.
  Laid BY PROGRAM, IN A SANDBOX (cutbox-rows.mjs): the forced cells as the released guide's own fill.sh prints them over the translation 0e2f7a8d21c17e86… (all of the seat's roots in one cut). By AI agents, Wed Nov 11 2026. No macro, syntax, notation, axiom, sorry.
-/
import Derived.Test.YtlcdnpecoaamcaaChecked
import GoSem.Claim
import GoSem.ClaimJoined
import GoSem.ClaimMapViews
import Derived.JoinedTies
import Derived.KernelRfl
namespace Go.Proofs.Ytlcdnpecoaamcaa
/- THE CELL 'sum', in the pinned program and in every row, IS THE sha256 OF THE DUMP (.gsa) THAT YtlcdnpecoaamcaaProg.lean LOADS. Nothing in Lean hashes anything: it is a label: what it is worth is what the hold of that sum in a sandbox is worth. -/
noncomputable def Try.pinned : Pinned := { name := "ytlcdnpecoaamcaa", sum := "0e2f7a8d21c17e8678820e241810c5629133d86175a3e4955b2ff8a58fe153a7", checked := Try.checked }
namespace Rows
def none {H : Type} : Left H := { results := [], args := [] }

/-- 'quoinlaw14.ExtentOf': WHATEVER THE INPUT: true; the input reads as it did. -/
def extentOfSpec : ChangeSpec := { name := "extentOf", fn := fun _ => fun
  | [d1, d2, d3] => { results := [.lit (.bool true)], args := [d1, d2, d3] }
  | _ => none }
def extentOfRow : OpenClaim := { program := "ytlcdnpecoaamcaa", sum := "0e2f7a8d21c17e8678820e241810c5629133d86175a3e4955b2ff8a58fe153a7", func := "quoin/quoinlaw14.ExtentOf", spec := "extentOf", inPlace := ["internal/bytealg.IndexByte", "internal/bytealg.Count", "internal/bytealg.Index"], unfollowed := true, recurses := true, named := ["internal/bytealg.MaxLen"], apart := false }
def ExtentOfSaid : Prop := extentOfRow.holds Try.pinned (OpenSpec.ofChange extentOfSpec)

/-- ITS FALSE NEIGHBOUR: 'it returns false'. Refute it at one input. -/
def extentOfWrong : ChangeSpec := { name := "extentOf", fn := fun _ => fun
  | [d1, d2, d3] => { results := [.lit (.bool false)], args := [d1, d2, d3] }
  | _ => none }
def ExtentOfWrongFalsely : Prop := extentOfRow.holds Try.pinned (OpenSpec.ofChange extentOfWrong)

/-- 'quoinlaw14.ExtentWhole': WHATEVER THE INPUT: true; the input reads as it did. -/
def extentWholeSpec : ChangeSpec := { name := "extentWhole", fn := fun _ => fun
  | [d1, d2, d3] => { results := [.lit (.bool true)], args := [d1, d2, d3] }
  | _ => none }
def extentWholeRow : OpenClaim := { program := "ytlcdnpecoaamcaa", sum := "0e2f7a8d21c17e8678820e241810c5629133d86175a3e4955b2ff8a58fe153a7", func := "quoin/quoinlaw14.ExtentWhole", spec := "extentWhole", inPlace := ["internal/bytealg.IndexByte", "internal/bytealg.Count", "internal/bytealg.Index"], unfollowed := true, recurses := true, named := ["internal/bytealg.MaxLen"], apart := false }
def ExtentWholeSaid : Prop := extentWholeRow.holds Try.pinned (OpenSpec.ofChange extentWholeSpec)

/-- ITS FALSE NEIGHBOUR: 'it returns false'. Refute it at one input. -/
def extentWholeWrong : ChangeSpec := { name := "extentWhole", fn := fun _ => fun
  | [d1, d2, d3] => { results := [.lit (.bool false)], args := [d1, d2, d3] }
  | _ => none }
def ExtentWholeWrongFalsely : Prop := extentWholeRow.holds Try.pinned (OpenSpec.ofChange extentWholeWrong)

/-- 'quoinlaw14.ExtentTake': WHATEVER THE INPUT: true; the input reads as it did. -/
def extentTakeSpec : ChangeSpec := { name := "extentTake", fn := fun _ => fun
  | [d1, d2] => { results := [.lit (.bool true)], args := [d1, d2] }
  | _ => none }
def extentTakeRow : OpenClaim := { program := "ytlcdnpecoaamcaa", sum := "0e2f7a8d21c17e8678820e241810c5629133d86175a3e4955b2ff8a58fe153a7", func := "quoin/quoinlaw14.ExtentTake", spec := "extentTake", inPlace := ["internal/bytealg.IndexByte", "internal/bytealg.Count", "internal/bytealg.Index"], unfollowed := true, recurses := true, named := ["internal/bytealg.MaxLen"], apart := false }
def ExtentTakeSaid : Prop := extentTakeRow.holds Try.pinned (OpenSpec.ofChange extentTakeSpec)

/-- ITS FALSE NEIGHBOUR: 'it returns false'. Refute it at one input. -/
def extentTakeWrong : ChangeSpec := { name := "extentTake", fn := fun _ => fun
  | [d1, d2] => { results := [.lit (.bool false)], args := [d1, d2] }
  | _ => none }
def ExtentTakeWrongFalsely : Prop := extentTakeRow.holds Try.pinned (OpenSpec.ofChange extentTakeWrong)

/-- 'quoinlaw14.ExtentEither': WHATEVER THE INPUT: true; the input reads as it did. -/
def extentEitherSpec : ChangeSpec := { name := "extentEither", fn := fun _ => fun
  | [d1, d2, d3] => { results := [.lit (.bool true)], args := [d1, d2, d3] }
  | _ => none }
def extentEitherRow : OpenClaim := { program := "ytlcdnpecoaamcaa", sum := "0e2f7a8d21c17e8678820e241810c5629133d86175a3e4955b2ff8a58fe153a7", func := "quoin/quoinlaw14.ExtentEither", spec := "extentEither", inPlace := ["internal/bytealg.IndexByte", "internal/bytealg.Count", "internal/bytealg.Index"], unfollowed := true, recurses := true, named := ["internal/bytealg.MaxLen"], apart := false }
def ExtentEitherSaid : Prop := extentEitherRow.holds Try.pinned (OpenSpec.ofChange extentEitherSpec)

/-- ITS FALSE NEIGHBOUR: 'it returns false'. Refute it at one input. -/
def extentEitherWrong : ChangeSpec := { name := "extentEither", fn := fun _ => fun
  | [d1, d2, d3] => { results := [.lit (.bool false)], args := [d1, d2, d3] }
  | _ => none }
def ExtentEitherWrongFalsely : Prop := extentEitherRow.holds Try.pinned (OpenSpec.ofChange extentEitherWrong)

/- THE SECOND FORM. 'bulk': how many values and letters a reading holds, each counted each time it is reached (what is shared counts as often as it is met; a slice's spare places count too). A statement '..UptoSaid' is the law's where the arguments, and the package variables that the reading takes, are together of bulk at most 1048576: NARROWER than '..Said'. Prove '..Said' where nothing that the law and all that it calls make is longer than what came in: it says more and counts as full. Else prove '..UptoSaid'. A law counts once. -/
mutual
def uptoBulk {H : Type} : DataW H → Nat
  | .lit (.string bytes) => bytes.length + 1
  | .lit _ => 1
  | .nil => 1
  | .ptr d => uptoBulk d + 1
  | .slice elems spare => uptoBulkAll elems + uptoBulkAll spare + 1
  | .agg parts => uptoBulkAll parts + 1
  | .iface _ d => uptoBulk d + 1
  | .map entries => uptoBulkEntries entries + 1
  | .held _ => 1
def uptoBulkAll {H : Type} : List (DataW H) → Nat
  | [] => 0
  | d :: r => uptoBulk d + uptoBulkAll r
def uptoBulkEntries {H : Type} : List (Lit × DataW H) → Nat
  | [] => 0
  | x :: r => uptoBulkEntry x + uptoBulkEntries r
def uptoBulkEntry {H : Type} : Lit × DataW H → Nat
  | (.string bytes, d) => bytes.length + uptoBulk d + 1
  | (_, d) => uptoBulk d + 1
 end
def uptoSmall : (H : Type) → List (DataW H) → Bool := fun _ ds => decide (uptoBulkAll ds ≤ 1048576)
def OpenSpec.upto (s : _root_.Go.ChangeSpec) : _root_.Go.OpenSpec := { _root_.Go.OpenSpec.ofChange s with cond := some uptoSmall }

/-- 'quoinlaw14.ExtentOf', WHERE WHAT IT READS IS OF BULK AT MOST 1048576: true; the input reads as it did. -/
def extentOfUptoRow : OpenClaim := { program := "ytlcdnpecoaamcaa", sum := "0e2f7a8d21c17e8678820e241810c5629133d86175a3e4955b2ff8a58fe153a7", func := "quoin/quoinlaw14.ExtentOf", spec := "extentOf", inPlace := ["internal/bytealg.IndexByte", "internal/bytealg.Count", "internal/bytealg.Index"], unfollowed := true, recurses := true, named := ["internal/bytealg.MaxLen"], apart := false, narrowed := true }
def ExtentOfUptoSaid : Prop := extentOfUptoRow.holds Try.pinned (OpenSpec.upto extentOfSpec)

/-- 'quoinlaw14.ExtentWhole', WHERE WHAT IT READS IS OF BULK AT MOST 1048576: true; the input reads as it did. -/
def extentWholeUptoRow : OpenClaim := { program := "ytlcdnpecoaamcaa", sum := "0e2f7a8d21c17e8678820e241810c5629133d86175a3e4955b2ff8a58fe153a7", func := "quoin/quoinlaw14.ExtentWhole", spec := "extentWhole", inPlace := ["internal/bytealg.IndexByte", "internal/bytealg.Count", "internal/bytealg.Index"], unfollowed := true, recurses := true, named := ["internal/bytealg.MaxLen"], apart := false, narrowed := true }
def ExtentWholeUptoSaid : Prop := extentWholeUptoRow.holds Try.pinned (OpenSpec.upto extentWholeSpec)

/-- 'quoinlaw14.ExtentTake', WHERE WHAT IT READS IS OF BULK AT MOST 1048576: true; the input reads as it did. -/
def extentTakeUptoRow : OpenClaim := { program := "ytlcdnpecoaamcaa", sum := "0e2f7a8d21c17e8678820e241810c5629133d86175a3e4955b2ff8a58fe153a7", func := "quoin/quoinlaw14.ExtentTake", spec := "extentTake", inPlace := ["internal/bytealg.IndexByte", "internal/bytealg.Count", "internal/bytealg.Index"], unfollowed := true, recurses := true, named := ["internal/bytealg.MaxLen"], apart := false, narrowed := true }
def ExtentTakeUptoSaid : Prop := extentTakeUptoRow.holds Try.pinned (OpenSpec.upto extentTakeSpec)

/-- 'quoinlaw14.ExtentEither', WHERE WHAT IT READS IS OF BULK AT MOST 1048576: true; the input reads as it did. -/
def extentEitherUptoRow : OpenClaim := { program := "ytlcdnpecoaamcaa", sum := "0e2f7a8d21c17e8678820e241810c5629133d86175a3e4955b2ff8a58fe153a7", func := "quoin/quoinlaw14.ExtentEither", spec := "extentEither", inPlace := ["internal/bytealg.IndexByte", "internal/bytealg.Count", "internal/bytealg.Index"], unfollowed := true, recurses := true, named := ["internal/bytealg.MaxLen"], apart := false, narrowed := true }
def ExtentEitherUptoSaid : Prop := extentEitherUptoRow.holds Try.pinned (OpenSpec.upto extentEitherSpec)

end Rows
end Go.Proofs.Ytlcdnpecoaamcaa
