/- The pure statement of SeekBack, printed by wip/xprint.py. -/
import Derived.Test.YtdeohajlijalkaaXS
import Derived.Test.YtdeohajlijalkaaX22
namespace Go.Proofs.Ytdeohajlijalkaa.Say
open Go.RowKit Go.Proofs.YtdeohajlijalkaaW.PrintWords Go.Proofs.Ytdeohajlijalkaa.X Go.Proofs.Ytdeohajlijalkaa.XO
def SeekBack : Prop := ∀ (l0 : List Int) (a1 : Int) (a2 : Int) (a3 : Int) (a4 : Int), (okSl 1 okU8) l0 → okI64 a1 → okI64 a2 → okI64 a3 → okU8 a4 → ∃ k, quoinlaw09_SeekBack.f k l0 a1 a2 a3 a4 = some true
end Go.Proofs.Ytdeohajlijalkaa.Say
