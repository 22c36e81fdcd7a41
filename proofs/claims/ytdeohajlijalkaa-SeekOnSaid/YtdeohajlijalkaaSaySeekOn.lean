/- The pure statement of SeekOn, printed by wip/xprint.py. -/
import Derived.Test.YtdeohajlijalkaaXS
import Derived.Test.YtdeohajlijalkaaX26
namespace Go.Proofs.Ytdeohajlijalkaa.Say
open Go.RowKit Go.Proofs.YtdeohajlijalkaaW.PrintWords Go.Proofs.Ytdeohajlijalkaa.X Go.Proofs.Ytdeohajlijalkaa.XO
def SeekOn : Prop := ∀ (x0 : S26), okS26 x0 → ∃ k, quoinlaw09_SeekOn.f k x0.f0 x0.f1 x0.f2 x0.f3.f0 x0.f3.f1 x0.f4 = some true
end Go.Proofs.Ytdeohajlijalkaa.Say
