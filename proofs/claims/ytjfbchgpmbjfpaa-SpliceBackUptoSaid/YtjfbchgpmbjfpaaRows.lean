/-
  No cell of these rows narrows 'for every input' (looked for: loops, veiled, ifaces, maps, wideKeys, modest, calm, conditions, laid).
  DERIVED. THE GIVEN ROWS OF THIS SEAT. 6 by the template 'for every input the law returns true; each argument reads behind the call as it read before'; 0 by the template 'total and deterministic' (their statements: YtjfbchgpmbjfpaaTotals.lean).
  GIVEN WITH THE SEED: the statements are not yours to turn. If you find one false, say at which input.
  Laid BY PROGRAM, IN A SANDBOX (cutbox-rows.mjs): the forced cells as the released guide's own fill.sh prints them over the translation ba3d17ec20a4920f… (all of the seat's roots in one cut). By AI agents, Wed Nov 11 2026. No macro, syntax, notation, axiom, sorry.
-/
import Derived.Test.YtjfbchgpmbjfpaaChecked
import GoSem.Claim
import GoSem.ClaimJoined
import GoSem.ClaimMapViews
import Derived.JoinedTies
import Derived.KernelRfl
namespace Go.Proofs.Ytjfbchgpmbjfpaa
/- THE CELL 'sum', in the pinned program and in every row, IS THE sha256 OF THE DUMP (.gsa) THAT YtjfbchgpmbjfpaaProg.lean LOADS. Nothing in Lean hashes anything: it is a label: what it is worth is what the hold of that sum in a sandbox is worth. -/
noncomputable def Try.pinned : Pinned := { name := "ytjfbchgpmbjfpaa", sum := "ba3d17ec20a4920f1f7c545e2471477b99ec0df5076a8b7b28149dd41557e536", checked := Try.checked }
namespace Rows
def none {H : Type} : Left H := { results := [], args := [] }

/-- 'quoinlaw03.SplicePacks': WHATEVER THE INPUT: true; the input reads as it did. -/
def splicePacksSpec : ChangeSpec := { name := "splicePacks", fn := fun _ => fun
  | [d] => { results := [.lit (.bool true)], args := [d] }
  | _ => none }
def splicePacksRow : OpenClaim := { program := "ytjfbchgpmbjfpaa", sum := "ba3d17ec20a4920f1f7c545e2471477b99ec0df5076a8b7b28149dd41557e536", func := "quoin/quoinlaw03.SplicePacks", spec := "splicePacks", apart := false }
def SplicePacksSaid : Prop := splicePacksRow.holds Try.pinned (OpenSpec.ofChange splicePacksSpec)

/-- ITS FALSE NEIGHBOUR: 'it returns false'. Refute it at one input. -/
def splicePacksWrong : ChangeSpec := { name := "splicePacks", fn := fun _ => fun
  | [d] => { results := [.lit (.bool false)], args := [d] }
  | _ => none }
def SplicePacksWrongFalsely : Prop := splicePacksRow.holds Try.pinned (OpenSpec.ofChange splicePacksWrong)

/-- 'quoinlaw03.SpliceInserts': WHATEVER THE INPUT: true; the input reads as it did. -/
def spliceInsertsSpec : ChangeSpec := { name := "spliceInserts", fn := fun _ => fun
  | [d1, d2, d3] => { results := [.lit (.bool true)], args := [d1, d2, d3] }
  | _ => none }
def spliceInsertsRow : OpenClaim := { program := "ytjfbchgpmbjfpaa", sum := "ba3d17ec20a4920f1f7c545e2471477b99ec0df5076a8b7b28149dd41557e536", func := "quoin/quoinlaw03.SpliceInserts", spec := "spliceInserts", apart := false }
def SpliceInsertsSaid : Prop := spliceInsertsRow.holds Try.pinned (OpenSpec.ofChange spliceInsertsSpec)

/-- ITS FALSE NEIGHBOUR: 'it returns false'. Refute it at one input. -/
def spliceInsertsWrong : ChangeSpec := { name := "spliceInserts", fn := fun _ => fun
  | [d1, d2, d3] => { results := [.lit (.bool false)], args := [d1, d2, d3] }
  | _ => none }
def SpliceInsertsWrongFalsely : Prop := spliceInsertsRow.holds Try.pinned (OpenSpec.ofChange spliceInsertsWrong)

/-- 'quoinlaw03.SpliceCuts': WHATEVER THE INPUT: true; the input reads as it did. -/
def spliceCutsSpec : ChangeSpec := { name := "spliceCuts", fn := fun _ => fun
  | [d1, d2, d3] => { results := [.lit (.bool true)], args := [d1, d2, d3] }
  | _ => none }
def spliceCutsRow : OpenClaim := { program := "ytjfbchgpmbjfpaa", sum := "ba3d17ec20a4920f1f7c545e2471477b99ec0df5076a8b7b28149dd41557e536", func := "quoin/quoinlaw03.SpliceCuts", spec := "spliceCuts", apart := false }
def SpliceCutsSaid : Prop := spliceCutsRow.holds Try.pinned (OpenSpec.ofChange spliceCutsSpec)

/-- ITS FALSE NEIGHBOUR: 'it returns false'. Refute it at one input. -/
def spliceCutsWrong : ChangeSpec := { name := "spliceCuts", fn := fun _ => fun
  | [d1, d2, d3] => { results := [.lit (.bool false)], args := [d1, d2, d3] }
  | _ => none }
def SpliceCutsWrongFalsely : Prop := spliceCutsRow.holds Try.pinned (OpenSpec.ofChange spliceCutsWrong)

/-- 'quoinlaw03.SpliceBytes': WHATEVER THE INPUT: true; the input reads as it did. -/
def spliceBytesSpec : ChangeSpec := { name := "spliceBytes", fn := fun _ => fun
  | [d1, d2, d3] => { results := [.lit (.bool true)], args := [d1, d2, d3] }
  | _ => none }
def spliceBytesRow : OpenClaim := { program := "ytjfbchgpmbjfpaa", sum := "ba3d17ec20a4920f1f7c545e2471477b99ec0df5076a8b7b28149dd41557e536", func := "quoin/quoinlaw03.SpliceBytes", spec := "spliceBytes", apart := false }
def SpliceBytesSaid : Prop := spliceBytesRow.holds Try.pinned (OpenSpec.ofChange spliceBytesSpec)

/-- ITS FALSE NEIGHBOUR: 'it returns false'. Refute it at one input. -/
def spliceBytesWrong : ChangeSpec := { name := "spliceBytes", fn := fun _ => fun
  | [d1, d2, d3] => { results := [.lit (.bool false)], args := [d1, d2, d3] }
  | _ => none }
def SpliceBytesWrongFalsely : Prop := spliceBytesRow.holds Try.pinned (OpenSpec.ofChange spliceBytesWrong)

/-- 'quoinlaw03.SpliceBack': WHATEVER THE INPUT: true; the input reads as it did. -/
def spliceBackSpec : ChangeSpec := { name := "spliceBack", fn := fun _ => fun
  | [d1, d2, d3] => { results := [.lit (.bool true)], args := [d1, d2, d3] }
  | _ => none }
def spliceBackRow : OpenClaim := { program := "ytjfbchgpmbjfpaa", sum := "ba3d17ec20a4920f1f7c545e2471477b99ec0df5076a8b7b28149dd41557e536", func := "quoin/quoinlaw03.SpliceBack", spec := "spliceBack", apart := false }
def SpliceBackSaid : Prop := spliceBackRow.holds Try.pinned (OpenSpec.ofChange spliceBackSpec)

/-- ITS FALSE NEIGHBOUR: 'it returns false'. Refute it at one input. -/
def spliceBackWrong : ChangeSpec := { name := "spliceBack", fn := fun _ => fun
  | [d1, d2, d3] => { results := [.lit (.bool false)], args := [d1, d2, d3] }
  | _ => none }
def SpliceBackWrongFalsely : Prop := spliceBackRow.holds Try.pinned (OpenSpec.ofChange spliceBackWrong)

/-- 'quoinlaw03.SpliceKeeps': WHATEVER THE INPUT: true; the input reads as it did. -/
def spliceKeepsSpec : ChangeSpec := { name := "spliceKeeps", fn := fun _ => fun
  | [d1, d2, d3, d4] => { results := [.lit (.bool true)], args := [d1, d2, d3, d4] }
  | _ => none }
def spliceKeepsRow : OpenClaim := { program := "ytjfbchgpmbjfpaa", sum := "ba3d17ec20a4920f1f7c545e2471477b99ec0df5076a8b7b28149dd41557e536", func := "quoin/quoinlaw03.SpliceKeeps", spec := "spliceKeeps", apart := false }
def SpliceKeepsSaid : Prop := spliceKeepsRow.holds Try.pinned (OpenSpec.ofChange spliceKeepsSpec)

/-- ITS FALSE NEIGHBOUR: 'it returns false'. Refute it at one input. -/
def spliceKeepsWrong : ChangeSpec := { name := "spliceKeeps", fn := fun _ => fun
  | [d1, d2, d3, d4] => { results := [.lit (.bool false)], args := [d1, d2, d3, d4] }
  | _ => none }
def SpliceKeepsWrongFalsely : Prop := spliceKeepsRow.holds Try.pinned (OpenSpec.ofChange spliceKeepsWrong)

/- THE SECOND FORM. 'bulk': how many values and letters a reading holds, each counted each time it is reached (what is shared counts as often as it is met; a slice's spare places count too). A statement '..UptoSaid' is the law's where the arguments, and the package variables that the reading takes, are together of bulk at most 1048576: NARROWER than '..Said'. Prove '..Said' where nothing that the law and all that it calls make is longer than what came in: it says more and counts as full. Else prove '..UptoSaid'. A law counts once. -/
mutual
def uptoBulk {H : Type} : DataW H → Nat
  | .lit (.string bytes) => bytes.length + 1
  | .lit _ => 1
  | .nil => 1
  | .ptr d => uptoBulk d + 1
  | .slice elems spare => uptoBulkAll elems + uptoBulkAll spare + 1
  | .agg parts => uptoBulkAll parts + 1
  | .iface _ d => uptoBulk d + 1
  | .map entries => uptoBulkEntries entries + 1
  | .held _ => 1
def uptoBulkAll {H : Type} : List (DataW H) → Nat
  | [] => 0
  | d :: r => uptoBulk d + uptoBulkAll r
def uptoBulkEntries {H : Type} : List (Lit × DataW H) → Nat
  | [] => 0
  | x :: r => uptoBulkEntry x + uptoBulkEntries r
def uptoBulkEntry {H : Type} : Lit × DataW H → Nat
  | (.string bytes, d) => bytes.length + uptoBulk d + 1
  | (_, d) => uptoBulk d + 1
 end
def uptoSmall : (H : Type) → List (DataW H) → Bool := fun _ ds => decide (uptoBulkAll ds ≤ 1048576)
def OpenSpec.upto (s : _root_.Go.ChangeSpec) : _root_.Go.OpenSpec := { _root_.Go.OpenSpec.ofChange s with cond := some uptoSmall }

/-- 'quoinlaw03.SplicePacks', WHERE WHAT IT READS IS OF BULK AT MOST 1048576: true; the input reads as it did. -/
def splicePacksUptoRow : OpenClaim := { program := "ytjfbchgpmbjfpaa", sum := "ba3d17ec20a4920f1f7c545e2471477b99ec0df5076a8b7b28149dd41557e536", func := "quoin/quoinlaw03.SplicePacks", spec := "splicePacks", apart := false, narrowed := true }
def SplicePacksUptoSaid : Prop := splicePacksUptoRow.holds Try.pinned (OpenSpec.upto splicePacksSpec)

/-- 'quoinlaw03.SpliceInserts', WHERE WHAT IT READS IS OF BULK AT MOST 1048576: true; the input reads as it did. -/
def spliceInsertsUptoRow : OpenClaim := { program := "ytjfbchgpmbjfpaa", sum := "ba3d17ec20a4920f1f7c545e2471477b99ec0df5076a8b7b28149dd41557e536", func := "quoin/quoinlaw03.SpliceInserts", spec := "spliceInserts", apart := false, narrowed := true }
def SpliceInsertsUptoSaid : Prop := spliceInsertsUptoRow.holds Try.pinned (OpenSpec.upto spliceInsertsSpec)

/-- 'quoinlaw03.SpliceCuts', WHERE WHAT IT READS IS OF BULK AT MOST 1048576: true; the input reads as it did. -/
def spliceCutsUptoRow : OpenClaim := { program := "ytjfbchgpmbjfpaa", sum := "ba3d17ec20a4920f1f7c545e2471477b99ec0df5076a8b7b28149dd41557e536", func := "quoin/quoinlaw03.SpliceCuts", spec := "spliceCuts", apart := false, narrowed := true }
def SpliceCutsUptoSaid : Prop := spliceCutsUptoRow.holds Try.pinned (OpenSpec.upto spliceCutsSpec)

/-- 'quoinlaw03.SpliceBytes', WHERE WHAT IT READS IS OF BULK AT MOST 1048576: true; the input reads as it did. -/
def spliceBytesUptoRow : OpenClaim := { program := "ytjfbchgpmbjfpaa", sum := "ba3d17ec20a4920f1f7c545e2471477b99ec0df5076a8b7b28149dd41557e536", func := "quoin/quoinlaw03.SpliceBytes", spec := "spliceBytes", apart := false, narrowed := true }
def SpliceBytesUptoSaid : Prop := spliceBytesUptoRow.holds Try.pinned (OpenSpec.upto spliceBytesSpec)

/-- 'quoinlaw03.SpliceBack', WHERE WHAT IT READS IS OF BULK AT MOST 1048576: true; the input reads as it did. -/
def spliceBackUptoRow : OpenClaim := { program := "ytjfbchgpmbjfpaa", sum := "ba3d17ec20a4920f1f7c545e2471477b99ec0df5076a8b7b28149dd41557e536", func := "quoin/quoinlaw03.SpliceBack", spec := "spliceBack", apart := false, narrowed := true }
def SpliceBackUptoSaid : Prop := spliceBackUptoRow.holds Try.pinned (OpenSpec.upto spliceBackSpec)

/-- 'quoinlaw03.SpliceKeeps', WHERE WHAT IT READS IS OF BULK AT MOST 1048576: true; the input reads as it did. -/
def spliceKeepsUptoRow : OpenClaim := { program := "ytjfbchgpmbjfpaa", sum := "ba3d17ec20a4920f1f7c545e2471477b99ec0df5076a8b7b28149dd41557e536", func := "quoin/quoinlaw03.SpliceKeeps", spec := "spliceKeeps", apart := false, narrowed := true }
def SpliceKeepsUptoSaid : Prop := spliceKeepsUptoRow.holds Try.pinned (OpenSpec.upto spliceKeepsSpec)

end Rows
end Go.Proofs.Ytjfbchgpmbjfpaa
