/- The pure statement of SeekLine, printed by wip/xprint.py. -/
import Derived.Test.YtdeohajlijalkaaXS
import Derived.Test.YtdeohajlijalkaaX21
namespace Go.Proofs.Ytdeohajlijalkaa.Say
open Go.RowKit Go.Proofs.YtdeohajlijalkaaW.PrintWords Go.Proofs.Ytdeohajlijalkaa.X Go.Proofs.Ytdeohajlijalkaa.XO
def SeekLine : Prop := ∀ (x0 : S26), okS26 x0 → ∃ k, quoinlaw09_SeekLine.f k x0.f0 x0.f1 x0.f2 x0.f3.f0 x0.f3.f1 x0.f4 = some true
end Go.Proofs.Ytdeohajlijalkaa.Say
