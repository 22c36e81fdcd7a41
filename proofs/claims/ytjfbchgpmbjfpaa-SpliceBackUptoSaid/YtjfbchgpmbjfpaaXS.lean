/- The argument types of the seat Ytjfbchgpmbjfpaa, opened. Printed by wip/xprint.py. -/
import Derived.Test.YtjfbchgpmbjfpaaXO
import Derived.Test.YtjfbchgpmbjfpaaX0
namespace Go.Proofs.Ytjfbchgpmbjfpaa.XO
open Go.RowKit Go.Proofs.YtjfbchgpmbjfpaaW.PrintWords Go.Proofs.Ytjfbchgpmbjfpaa.X
def okS29 (x : S29) : Prop := okI64 x.f0 ∧ okI64 x.f1 ∧ okI64 x.f2
def szS29 (x : S29) : Nat := (szOne x.f0 + (szOne x.f1 + szOne x.f2)) + 1
theorem opens29 : Opens Try.prog 29 k29 okS29 szS29 := by
  have h := opens_iso (f := fun x : S29 => (x.f0, x.f1, x.f2)) (fun a => ⟨a.1, a.2.1, a.2.2⟩) (fun _ => rfl) (opens_struct Try.underlying29 (by kernel_rfl) (of_cons rfl (by kernel_rfl) (opens_i64 Try.underlying3) (of_cons rfl (by kernel_rfl) (opens_i64 Try.underlying3) (of_last rfl (by kernel_rfl) (opens_i64 Try.underlying3)))))
  exact h
end Go.Proofs.Ytjfbchgpmbjfpaa.XO
