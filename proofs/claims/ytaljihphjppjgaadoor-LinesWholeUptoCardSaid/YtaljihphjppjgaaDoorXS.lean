/- The argument types of the seat YtaljihphjppjgaaDoor, opened. Printed by wip/xprint.py. -/
import Derived.Test.YtaljihphjppjgaaDoorXO
import Derived.Test.YtaljihphjppjgaaDoorX0
namespace Go.Proofs.YtaljihphjppjgaaDoor.XO
open Go.RowKit Go.Proofs.YtaljihphjppjgaaDoorW.PrintWords Go.Proofs.YtaljihphjppjgaaDoor.X
end Go.Proofs.YtaljihphjppjgaaDoor.XO
