/- The pure statement of SpliceBackUpto, printed by wip/xprint.py. -/
import Derived.Test.YtjfbchgpmbjfpaaXS
import Derived.Test.YtjfbchgpmbjfpaaX32
namespace Go.Proofs.Ytjfbchgpmbjfpaa.Say
open Go.RowKit Go.Proofs.YtjfbchgpmbjfpaaW.PrintWords Go.Proofs.Ytjfbchgpmbjfpaa.X Go.Proofs.Ytjfbchgpmbjfpaa.XO
def SpliceBackUpto : Prop := ∀ (l0 : List (S29)) (a1 : Int) (x2 : S29), (okSl 24 okS29) l0 → okI64 a1 → okS29 x2 → ((szSl szS29) l0 + szOne a1 + szS29 x2 ≤ 1048576) → ∃ k, quoinlaw03_SpliceBack.f k l0 a1 x2.f0 x2.f1 x2.f2 = some true
end Go.Proofs.Ytjfbchgpmbjfpaa.Say
