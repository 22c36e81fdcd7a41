/- The argument types of the seat YtlbijhlbllolhaaDoor, opened. Printed by wip/xprint.py. -/
import Derived.Test.YtlbijhlbllolhaaDoorXO
import Derived.Test.YtlbijhlbllolhaaDoorX0
namespace Go.Proofs.YtlbijhlbllolhaaDoor.XO
open Go.RowKit Go.Proofs.YtlbijhlbllolhaaDoorW.PrintWords Go.Proofs.YtlbijhlbllolhaaDoor.X
end Go.Proofs.YtlbijhlbllolhaaDoor.XO
