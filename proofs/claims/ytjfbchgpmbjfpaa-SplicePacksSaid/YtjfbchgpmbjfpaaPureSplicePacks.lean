/-
  SplicePacks, the pure statement: Pack and Size of the program and of the document are one function each.
  Conditions: none.
-/
import Derived.Test.YtjfbchgpmbjfpaaSP
import Derived.Test.YtjfbchgpmbjfpaaSaySplicePacks
import Derived.Test.YtjfbchgpmbjfpaaX14
import Derived.Test.YtjfbchgpmbjfpaaX8
namespace Go.Proofs.Ytjfbchgpmbjfpaa.Pure
open Go.RowKit Go.Proofs.YtjfbchgpmbjfpaaW.PrintWords Go.Proofs.YtjfbchgpmbjfpaaW.PrintMore Go.Proofs.Ytjfbchgpmbjfpaa.X Go.Proofs.Ytjfbchgpmbjfpaa.XL Go.Proofs.Ytjfbchgpmbjfpaa.XO Go.Proofs.Ytjfbchgpmbjfpaa.SP
theorem packs_awake : Ev (fun k => quoinlaw03_awake.f k) true := Ev.of quoinlaw03_awake.mono (k := 10) (by decide +kernel)
theorem SplicePacks : Say.SplicePacks := by
  intro l0 h
  have hl : l0.length < 5864062014805 := by have := h.1; omega
  refine Ev.rounds (g := fun k => quoinlaw03_SplicePacks.f k l0) ?_
  refine Ev.bind packs_awake (Ev.pos rfl ?_)
  refine Ev.bind (refPack_ev l0 hl) (Ev.bind (refSize_ev l0 (by omega)) (Ev.bind (Pack_ev l0 hl) ?_))
  have := pack_length l0
  refine Ev.bind (same_ev (pack l0) (by omega)) (Ev.pos rfl ?_)
  exact Ev.done (Size_ev l0 (by omega)) (by simp)
end Go.Proofs.Ytjfbchgpmbjfpaa.Pure
