/- The pure statement of StepTimes, printed by wip/xprint.py. -/
import Derived.Test.YtofkcdnkbjpmmaaXS
import Derived.Test.YtofkcdnkbjpmmaaX46
namespace Go.Proofs.Ytofkcdnkbjpmmaa.Say
open Go.RowKit Go.Proofs.YtofkcdnkbjpmmaaW.PrintWords Go.Proofs.Ytofkcdnkbjpmmaa.X Go.Proofs.Ytofkcdnkbjpmmaa.XO
def StepTimes : Prop := ∀ (l0 : List Int) (x1 : S27), (okSl 1 okU8) l0 → okS27 x1 → ∃ k, quoinlaw07_StepTimes.f k l0 x1.f0 x1.f1 x1.f2 x1.f3 = some true
end Go.Proofs.Ytofkcdnkbjpmmaa.Say
