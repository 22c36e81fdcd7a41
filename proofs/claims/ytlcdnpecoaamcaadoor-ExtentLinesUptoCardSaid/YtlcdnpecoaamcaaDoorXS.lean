/- The argument types of the seat YtlcdnpecoaamcaaDoor, opened. Printed by wip/xprint.py. -/
import Derived.Test.YtlcdnpecoaamcaaDoorXO
import Derived.Test.YtlcdnpecoaamcaaDoorX0
namespace Go.Proofs.YtlcdnpecoaamcaaDoor.XO
open Go.RowKit Go.Proofs.YtlcdnpecoaamcaaDoorW.PrintWords Go.Proofs.YtlcdnpecoaamcaaDoor.X
end Go.Proofs.YtlcdnpecoaamcaaDoor.XO
