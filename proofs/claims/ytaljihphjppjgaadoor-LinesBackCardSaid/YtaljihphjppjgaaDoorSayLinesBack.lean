/- The pure statement of LinesBack, printed by wip/xprint.py. -/
import Derived.Test.YtaljihphjppjgaaDoorXS
import Derived.Test.YtaljihphjppjgaaDoorX34
namespace Go.Proofs.YtaljihphjppjgaaDoor.Say
open Go.RowKit Go.Proofs.YtaljihphjppjgaaDoorW.PrintWords Go.Proofs.YtaljihphjppjgaaDoor.X Go.Proofs.YtaljihphjppjgaaDoor.XO
def LinesBack : Prop := ∀ (l0 : List Int) (a1 : Int), (okSl 1 okU8) l0 → okI64 a1 → ∃ k, quoinlaw05_LinesBack.f k l0 a1 = some true
end Go.Proofs.YtaljihphjppjgaaDoor.Say
