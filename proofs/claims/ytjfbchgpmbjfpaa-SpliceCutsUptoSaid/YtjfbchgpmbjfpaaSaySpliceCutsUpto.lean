/- The pure statement of SpliceCutsUpto, printed by wip/xprint.py. -/
import Derived.Test.YtjfbchgpmbjfpaaXS
import Derived.Test.YtjfbchgpmbjfpaaX27
namespace Go.Proofs.Ytjfbchgpmbjfpaa.Say
open Go.RowKit Go.Proofs.YtjfbchgpmbjfpaaW.PrintWords Go.Proofs.Ytjfbchgpmbjfpaa.X Go.Proofs.Ytjfbchgpmbjfpaa.XO
def SpliceCutsUpto : Prop := ∀ (l0 : List (S29)) (a1 : Int) (a2 : Int), (okSl 24 okS29) l0 → okI64 a1 → okI64 a2 → ((szSl szS29) l0 + szOne a1 + szOne a2 ≤ 1048576) → ∃ k, quoinlaw03_SpliceCuts.f k l0 a1 a2 = some true
end Go.Proofs.Ytjfbchgpmbjfpaa.Say
