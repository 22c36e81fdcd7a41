/- The pure statement of SplicePacks, printed by wip/xprint.py. -/
import Derived.Test.YtjfbchgpmbjfpaaXS
import Derived.Test.YtjfbchgpmbjfpaaX14
namespace Go.Proofs.Ytjfbchgpmbjfpaa.Say
open Go.RowKit Go.Proofs.YtjfbchgpmbjfpaaW.PrintWords Go.Proofs.Ytjfbchgpmbjfpaa.X Go.Proofs.Ytjfbchgpmbjfpaa.XO
def SplicePacks : Prop := ∀ (l0 : List (S29)), (okSl 24 okS29) l0 → ∃ k, quoinlaw03_SplicePacks.f k l0 = some true
end Go.Proofs.Ytjfbchgpmbjfpaa.Say
