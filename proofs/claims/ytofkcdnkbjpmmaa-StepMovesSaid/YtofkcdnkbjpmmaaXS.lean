/- The argument types of the seat Ytofkcdnkbjpmmaa, opened. Printed by wip/xprint.py. -/
import Derived.Test.YtofkcdnkbjpmmaaXO
import Derived.Test.YtofkcdnkbjpmmaaX0
namespace Go.Proofs.Ytofkcdnkbjpmmaa.XO
open Go.RowKit Go.Proofs.YtofkcdnkbjpmmaaW.PrintWords Go.Proofs.Ytofkcdnkbjpmmaa.X
def okS27 (x : S27) : Prop := okI64 x.f0 ∧ okI64 x.f1 ∧ okI64 x.f2 ∧ okStr x.f3
def szS27 (x : S27) : Nat := (szOne x.f0 + (szOne x.f1 + (szOne x.f2 + szStr x.f3))) + 1
theorem opens27 : Opens Try.prog 27 k27 okS27 szS27 := by
  have h := opens_iso (f := fun x : S27 => (x.f0, x.f1, x.f2, x.f3)) (fun a => ⟨a.1, a.2.1, a.2.2.1, a.2.2.2⟩) (fun _ => rfl) (opens_struct Try.underlying27 (by kernel_rfl) (of_cons rfl (by kernel_rfl) (opens_i64 Try.underlying3) (of_cons rfl (by kernel_rfl) (opens_i64 Try.underlying3) (of_cons rfl (by kernel_rfl) (opens_i64 Try.underlying3) (of_last rfl (by kernel_rfl) (opens_str Try.underlying9))))))
  exact h
end Go.Proofs.Ytofkcdnkbjpmmaa.XO
