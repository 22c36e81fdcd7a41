/- The argument types of the seat YtdhdngoeaneanaaDoor, opened. Printed by wip/xprint.py. -/
import Derived.Test.YtdhdngoeaneanaaDoorXO
import Derived.Test.YtdhdngoeaneanaaDoorX0
namespace Go.Proofs.YtdhdngoeaneanaaDoor.XO
open Go.RowKit Go.Proofs.YtdhdngoeaneanaaDoorW.PrintWords Go.Proofs.YtdhdngoeaneanaaDoor.X
def okS25 (x : S25) : Prop := okU8 x.f0 ∧ okI64 x.f1 ∧ okU8 x.f2 ∧ (okSl 1 okU8) x.f3 ∧ okI64 x.f4 ∧ okBool x.f5
def szS25 (x : S25) : Nat := (szOne x.f0 + (szOne x.f1 + (szOne x.f2 + ((szSl szOne) x.f3 + (szOne x.f4 + szOne x.f5))))) + 1
theorem opens25 : Opens Tryd.prog 25 k25 okS25 szS25 := by
  have h := opens_iso (f := fun x : S25 => (x.f0, x.f1, x.f2, x.f3, x.f4, x.f5)) (fun a => ⟨a.1, a.2.1, a.2.2.1, a.2.2.2.1, a.2.2.2.2.1, a.2.2.2.2.2⟩) (fun _ => rfl) (opens_struct Tryd.underlying25 (by kernel_rfl) (of_cons rfl (by kernel_rfl) (opens_u8 Tryd.underlying5) (of_cons rfl (by kernel_rfl) (opens_i64 Tryd.underlying3) (of_cons rfl (by kernel_rfl) (opens_u8 Tryd.underlying5) (of_cons rfl (by kernel_rfl) (opens_sl (B := 1) Tryd.underlying22 (opens_u8 Tryd.underlying5) (by kernel_rfl) (by kernel_rfl)) (of_cons rfl (by kernel_rfl) (opens_i64 Tryd.underlying3) (of_last rfl (by kernel_rfl) (opens_bool Tryd.underlying4))))))))
  exact h
end Go.Proofs.YtdhdngoeaneanaaDoor.XO
