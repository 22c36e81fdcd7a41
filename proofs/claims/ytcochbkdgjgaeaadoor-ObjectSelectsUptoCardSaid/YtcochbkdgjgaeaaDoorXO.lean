/-
  How an argument that comes in as data is opened to the print's kinds: one lemma a kind. Printed by wip/xprint.py for the seat YtcochbkdgjgaeaaDoor.
-/
import Derived.Test.YtcochbkdgjgaeaaDoorRows
import Derived.Test.YtcochbkdgjgaeaaDoorWALL
import Derived.Deep.Slices
import Derived.ChangeArms
import Derived.ChangeShapes
import Derived.RowKit
import Derived.WideShapes
import Derived.SizedLaws
namespace Go.Proofs.YtcochbkdgjgaeaaDoor.XO
open Go.RowKit Go.ChangeShapes Go.WideShapes Go.Deep Go.Proofs.YtcochbkdgjgaeaaDoorW.PrintWords

def okI64 (n : Int) : Prop := -9223372036854775808 ≤ n ∧ n ≤ 9223372036854775807
def okU8 (n : Int) : Prop := 0 ≤ n ∧ n ≤ 255
def okStr (s : ByteArray) : Prop := s.size ≤ 140737488351232
def okSl {α : Type} (B : Nat) (ok : α → Prop) (l : List α) : Prop := l.length * B ≤ 140737488351232 ∧ ∀ x ∈ l, ok x
def szOne {α : Type} (_ : α) : Nat := 1
def szStr (s : ByteArray) : Nat := s.size + 1
def szSl {α : Type} (sz : α → Nat) (l : List α) : Nat := (l.map sz).sum + 1
theorem szSl_length {α : Type} (sz : α → Nat) (h : ∀ a, 1 ≤ sz a) (l : List α) : l.length + 1 ≤ szSl sz l := by
  unfold szSl
  induction l with
  | nil => simp
  | cons a l ih =>
    have := h a
    simp only [List.length_cons, List.map_cons, List.sum_cons]
    omega
section
variable {P : Program} {t e : TypeId}
/-- The fields of a struct from one on; their cells from off on. -/
def OF {α : Type} (P : Program) (fs : List Field) (off : Nat) (d : Kd α) (ok : α → Prop) (sz : α → Nat) : Prop :=
  ∀ (H : Type) (enc : TypeId × Value → H) (W : World) (n : Nat) (cs : List Value) (ys : List (DataW H × List MemPlace)), cs.length = off + d.sz → ys.length = fs.length →
    (∀ (j : Nat) (f : Field), fs[j]? = some f → DataW.trod enc P W 0 (fun _ => true) true n f.type ((cs.drop f.offset).take (P.cellsOf f.type)) = ys[j]?) →
    (DataW.weightsEach P (fs.map (·.type)) (ys.map (·.1))).all (· ≤ reachBytes) = true → ∃ a, d.K W a (cs.drop off) ∧ ok a ∧ sz a ≤ Rows.uptoBulkAll (ys.map (·.1))
end
end Go.Proofs.YtcochbkdgjgaeaaDoor.XO
