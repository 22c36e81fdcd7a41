/- The argument types of the seat Ytlcdnpecoaamcaa, opened. Printed by wip/xprint.py. -/
import Derived.Test.YtlcdnpecoaamcaaXO
import Derived.Test.YtlcdnpecoaamcaaX0
namespace Go.Proofs.Ytlcdnpecoaamcaa.XO
open Go.RowKit Go.Proofs.YtlcdnpecoaamcaaW.PrintWords Go.Proofs.Ytlcdnpecoaamcaa.X
def okS24 (x : S24) : Prop := okI64 x.f0 ∧ okI64 x.f1 ∧ okI64 x.f2
def szS24 (x : S24) : Nat := (szOne x.f0 + (szOne x.f1 + szOne x.f2)) + 1
theorem opens24 : Opens Try.prog 24 k24 okS24 szS24 := by
  have h := opens_iso (f := fun x : S24 => (x.f0, x.f1, x.f2)) (fun a => ⟨a.1, a.2.1, a.2.2⟩) (fun _ => rfl) (opens_struct Try.underlying24 (by kernel_rfl) (of_cons rfl (by kernel_rfl) (opens_i64 Try.underlying3) (of_cons rfl (by kernel_rfl) (opens_i64 Try.underlying3) (of_last rfl (by kernel_rfl) (opens_i64 Try.underlying3)))))
  exact h
def okS27 (x : S27) : Prop := okI64 x.f0 ∧ okI64 x.f1 ∧ okBool x.f2 ∧ okBool x.f3
def szS27 (x : S27) : Nat := (szOne x.f0 + (szOne x.f1 + (szOne x.f2 + szOne x.f3))) + 1
theorem opens27 : Opens Try.prog 27 k27 okS27 szS27 := by
  have h := opens_iso (f := fun x : S27 => (x.f0, x.f1, x.f2, x.f3)) (fun a => ⟨a.1, a.2.1, a.2.2.1, a.2.2.2⟩) (fun _ => rfl) (opens_struct Try.underlying27 (by kernel_rfl) (of_cons rfl (by kernel_rfl) (opens_i64 Try.underlying3) (of_cons rfl (by kernel_rfl) (opens_i64 Try.underlying3) (of_cons rfl (by kernel_rfl) (opens_bool Try.underlying4) (of_last rfl (by kernel_rfl) (opens_bool Try.underlying4))))))
  exact h
end Go.Proofs.Ytlcdnpecoaamcaa.XO
