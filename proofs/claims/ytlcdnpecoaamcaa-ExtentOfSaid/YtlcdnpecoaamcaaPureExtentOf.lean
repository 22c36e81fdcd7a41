/-
  ExtentOf, the pure statement: the range that an operator takes, as the second account says.
  Conditions: none.
-/
import Derived.Test.YtlcdnpecoaamcaaLN
import Derived.Test.YtlcdnpecoaamcaaPureExtentOfParts
import Derived.Test.YtlcdnpecoaamcaaSayExtentOf
import Derived.Test.YtlcdnpecoaamcaaX22
namespace Go.Proofs.Ytlcdnpecoaamcaa.Pure
open Go.RowKit Go.Proofs.YtlcdnpecoaamcaaW.PrintWords Go.Proofs.YtlcdnpecoaamcaaW.PrintMore Go.Proofs.Ytlcdnpecoaamcaa.X Go.Proofs.Ytlcdnpecoaamcaa.XL Go.Proofs.Ytlcdnpecoaamcaa.XO Go.Proofs.Ytlcdnpecoaamcaa.LN
theorem ExtentOf : Say.ExtentOf := by
  rintro t ⟨a, b, kind⟩ op ht _ _
  have hu : u8s t = true := u8s_ok ht
  have hl : t.length ≤ 140737488355328 := by have h1 : t.length * 1 ≤ 140737488351232 := ht.1; omega
  refine Ev.rounds (g := fun k => quoinlaw14_ExtentOf.f k t a b kind op) ?_
  obtain ⟨r, r1, r2⟩ := Of_both hu hl a b kind op
  exact Ev.bind alive_ev (Ev.pos rfl (Ev.bind r2 (Ev.bind r1 (Ev.pos (by simp) (Ev.const (by simp))))))
end Go.Proofs.Ytlcdnpecoaamcaa.Pure
