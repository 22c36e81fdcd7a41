/- The pure statement of ExtentWhole, printed by wip/xprint.py. -/
import Derived.Test.YtlcdnpecoaamcaaXS
import Derived.Test.YtlcdnpecoaamcaaX23
namespace Go.Proofs.Ytlcdnpecoaamcaa.Say
open Go.RowKit Go.Proofs.YtlcdnpecoaamcaaW.PrintWords Go.Proofs.Ytlcdnpecoaamcaa.X Go.Proofs.Ytlcdnpecoaamcaa.XO
def ExtentWhole : Prop := ∀ (l0 : List Int) (a1 : Int) (a2 : Int), (okSl 1 okU8) l0 → okI64 a1 → okI64 a2 → ∃ k, quoinlaw14_ExtentWhole.f k l0 a1 a2 = some true
end Go.Proofs.Ytlcdnpecoaamcaa.Say
