/- The argument types of the seat YtffpkldphkmjmaaDoor, opened. Printed by wip/xprint.py. -/
import Derived.Test.YtffpkldphkmjmaaDoorXO
import Derived.Test.YtffpkldphkmjmaaDoorX0
namespace Go.Proofs.YtffpkldphkmjmaaDoor.XO
open Go.RowKit Go.Proofs.YtffpkldphkmjmaaDoorW.PrintWords Go.Proofs.YtffpkldphkmjmaaDoor.X
def okS24 (x : S24) : Prop := (okSl 1 okU8) x.f0 ∧ (okSl 1 okU8) x.f1 ∧ okI64 x.f2 ∧ okI64 x.f3 ∧ okBool x.f4
def szS24 (x : S24) : Nat := ((szSl szOne) x.f0 + ((szSl szOne) x.f1 + (szOne x.f2 + (szOne x.f3 + szOne x.f4)))) + 1
theorem opens24 : Opens Tryd.prog 24 k24 okS24 szS24 := by
  have h := opens_iso (f := fun x : S24 => (x.f0, x.f1, x.f2, x.f3, x.f4)) (fun a => ⟨a.1, a.2.1, a.2.2.1, a.2.2.2.1, a.2.2.2.2⟩) (fun _ => rfl) (opens_struct Tryd.underlying24 (by kernel_rfl) (of_cons rfl (by kernel_rfl) (opens_sl (B := 1) Tryd.underlying22 (opens_u8 Tryd.underlying5) (by kernel_rfl) (by kernel_rfl)) (of_cons rfl (by kernel_rfl) (opens_sl (B := 1) Tryd.underlying22 (opens_u8 Tryd.underlying5) (by kernel_rfl) (by kernel_rfl)) (of_cons rfl (by kernel_rfl) (opens_i64 Tryd.underlying3) (of_cons rfl (by kernel_rfl) (opens_i64 Tryd.underlying3) (of_last rfl (by kernel_rfl) (opens_bool Tryd.underlying4)))))))
  exact h
end Go.Proofs.YtffpkldphkmjmaaDoor.XO
