/- The argument types of the seat Ytlbijhlbllolhaa, opened. Printed by wip/xprint.py. -/
import Derived.Test.YtlbijhlbllolhaaXO
import Derived.Test.YtlbijhlbllolhaaX0
namespace Go.Proofs.Ytlbijhlbllolhaa.XO
open Go.RowKit Go.Proofs.YtlbijhlbllolhaaW.PrintWords Go.Proofs.Ytlbijhlbllolhaa.X
def okS44 (x : S44) : Prop := (okSl 1 okU8) x.f0 ∧ (okSl 1 okU8) x.f1 ∧ okI64 x.f2 ∧ okI64 x.f3
def szS44 (x : S44) : Nat := ((szSl szOne) x.f0 + ((szSl szOne) x.f1 + (szOne x.f2 + szOne x.f3))) + 1
theorem opens44 : Opens Try.prog 44 k44 okS44 szS44 := by
  have h := opens_iso (f := fun x : S44 => (x.f0, x.f1, x.f2, x.f3)) (fun a => ⟨a.1, a.2.1, a.2.2.1, a.2.2.2⟩) (fun _ => rfl) (opens_struct Try.underlying44 (by kernel_rfl) (of_cons rfl (by kernel_rfl) (opens_sl (B := 1) Try.underlying24 (opens_u8 Try.underlying5) (by kernel_rfl) (by kernel_rfl)) (of_cons rfl (by kernel_rfl) (opens_sl (B := 1) Try.underlying24 (opens_u8 Try.underlying5) (by kernel_rfl) (by kernel_rfl)) (of_cons rfl (by kernel_rfl) (opens_i64 Try.underlying3) (of_last rfl (by kernel_rfl) (opens_i64 Try.underlying3))))))
  exact h
end Go.Proofs.Ytlbijhlbllolhaa.XO
