/- The argument types of the seat Ytdeohajlijalkaa, opened. Printed by wip/xprint.py. -/
import Derived.Test.YtdeohajlijalkaaXO
import Derived.Test.YtdeohajlijalkaaX0
namespace Go.Proofs.Ytdeohajlijalkaa.XO
open Go.RowKit Go.Proofs.YtdeohajlijalkaaW.PrintWords Go.Proofs.Ytdeohajlijalkaa.X
def okS24 (x : S24) : Prop := okU8 x.f0 ∧ okU8 x.f1
def szS24 (x : S24) : Nat := (szOne x.f0 + szOne x.f1) + 1
theorem opens24 : Opens Try.prog 24 k24 okS24 szS24 := by
  have h := opens_iso (f := fun x : S24 => (x.f0, x.f1)) (fun a => ⟨a.1, a.2⟩) (fun _ => rfl) (opens_struct Try.underlying24 (by kernel_rfl) (of_cons rfl (by kernel_rfl) (opens_u8 Try.underlying5) (of_last rfl (by kernel_rfl) (opens_u8 Try.underlying5))))
  exact h
def okS26 (x : S26) : Prop := (okSl 1 okU8) x.f0 ∧ okI64 x.f1 ∧ okI64 x.f2 ∧ okS24 x.f3 ∧ okBool x.f4
def szS26 (x : S26) : Nat := ((szSl szOne) x.f0 + (szOne x.f1 + (szOne x.f2 + (szS24 x.f3 + szOne x.f4)))) + 1
theorem opens26 : Opens Try.prog 26 k26 okS26 szS26 := by
  have h := opens_iso (f := fun x : S26 => (x.f0, x.f1, x.f2, x.f3, x.f4)) (fun a => ⟨a.1, a.2.1, a.2.2.1, a.2.2.2.1, a.2.2.2.2⟩) (fun _ => rfl) (opens_struct Try.underlying26 (by kernel_rfl) (of_cons rfl (by kernel_rfl) (opens_sl (B := 1) Try.underlying22 (opens_u8 Try.underlying5) (by kernel_rfl) (by kernel_rfl)) (of_cons rfl (by kernel_rfl) (opens_i64 Try.underlying3) (of_cons rfl (by kernel_rfl) (opens_i64 Try.underlying3) (of_cons rfl (by kernel_rfl) opens24 (of_last rfl (by kernel_rfl) (opens_bool Try.underlying4)))))))
  exact h
end Go.Proofs.Ytdeohajlijalkaa.XO
