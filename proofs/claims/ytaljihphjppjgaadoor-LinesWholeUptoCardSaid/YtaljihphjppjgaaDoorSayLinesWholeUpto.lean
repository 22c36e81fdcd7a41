/- The pure statement of LinesWholeUpto, printed by wip/xprint.py. -/
import Derived.Test.YtaljihphjppjgaaDoorXS
import Derived.Test.YtaljihphjppjgaaDoorX19
namespace Go.Proofs.YtaljihphjppjgaaDoor.Say
open Go.RowKit Go.Proofs.YtaljihphjppjgaaDoorW.PrintWords Go.Proofs.YtaljihphjppjgaaDoor.X Go.Proofs.YtaljihphjppjgaaDoor.XO
def LinesWholeUpto : Prop := ∀ (l0 : List Int), (okSl 1 okU8) l0 → ((szSl szOne) l0 ≤ 1048576) → ∃ k, quoinlaw05_LinesWhole.f k l0 = some true
end Go.Proofs.YtaljihphjppjgaaDoor.Say
