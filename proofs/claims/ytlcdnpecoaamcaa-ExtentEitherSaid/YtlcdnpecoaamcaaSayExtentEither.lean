/- The pure statement of ExtentEither, printed by wip/xprint.py. -/
import Derived.Test.YtlcdnpecoaamcaaXS
import Derived.Test.YtlcdnpecoaamcaaX27
namespace Go.Proofs.Ytlcdnpecoaamcaa.Say
open Go.RowKit Go.Proofs.YtlcdnpecoaamcaaW.PrintWords Go.Proofs.Ytlcdnpecoaamcaa.X Go.Proofs.Ytlcdnpecoaamcaa.XO
def ExtentEither : Prop := ∀ (l0 : List Int) (x1 : S24) (a2 : ByteArray), (okSl 1 okU8) l0 → okS24 x1 → okStr a2 → ∃ k, quoinlaw14_ExtentEither.f k l0 x1.f0 x1.f1 x1.f2 a2 = some true
end Go.Proofs.Ytlcdnpecoaamcaa.Say
