/- The argument types of the seat YtcochbkdgjgaeaaDoor, opened. Printed by wip/xprint.py. -/
import Derived.Test.YtcochbkdgjgaeaaDoorXO
import Derived.Test.YtcochbkdgjgaeaaDoorX0
namespace Go.Proofs.YtcochbkdgjgaeaaDoor.XO
open Go.RowKit Go.Proofs.YtcochbkdgjgaeaaDoorW.PrintWords Go.Proofs.YtcochbkdgjgaeaaDoor.X
def okS27 (x : S27) : Prop := okI64 x.f0 ∧ okI64 x.f1 ∧ okStr x.f2
def szS27 (x : S27) : Nat := (szOne x.f0 + (szOne x.f1 + szStr x.f2)) + 1
theorem opens27 : Opens Tryd.prog 27 k27 okS27 szS27 := by
  have h := opens_iso (f := fun x : S27 => (x.f0, x.f1, x.f2)) (fun a => ⟨a.1, a.2.1, a.2.2⟩) (fun _ => rfl) (opens_struct Tryd.underlying27 (by kernel_rfl) (of_cons rfl (by kernel_rfl) (opens_i64 Tryd.underlying3) (of_cons rfl (by kernel_rfl) (opens_i64 Tryd.underlying3) (of_last rfl (by kernel_rfl) (opens_str Tryd.underlying9)))))
  exact h
end Go.Proofs.YtcochbkdgjgaeaaDoor.XO
