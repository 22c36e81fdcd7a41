/-
  SeekMoves, the pure statement: the program and the document come to one function.
  Conditions: what comes in is of bulk at most 1048576.
-/
import Derived.Test.YtdeohajlijalkaaSK2
import Derived.Test.YtdeohajlijalkaaSaySeekMovesUpto
import Derived.Test.YtdeohajlijalkaaX20
namespace Go.Proofs.Ytdeohajlijalkaa.Pure
open Go.RowKit Go.Proofs.YtdeohajlijalkaaW.PrintWords Go.Proofs.YtdeohajlijalkaaW.PrintMore Go.Proofs.Ytdeohajlijalkaa.X Go.Proofs.Ytdeohajlijalkaa.XL Go.Proofs.Ytdeohajlijalkaa.XO Go.Proofs.Ytdeohajlijalkaa.LN Go.Proofs.Ytdeohajlijalkaa.SK
theorem smallMoves {t : List Int} {n : Nat} (h : szSl (szOne (α := Int)) t + n ≤ 1048576) : t.length ≤ 1048576 := by
  have h1 := szSl_length (szOne (α := Int)) (fun _ => Nat.le_refl _) t
  omega
theorem SeekMovesUpto : Say.SeekMovesUpto := by
  rintro ⟨t, at_, count, ⟨key, b⟩, z⟩ ⟨ht, ha, hc, ⟨hk, hb⟩, _⟩ hsm
  have hu := u8s_ok ht
  have h1 : szSl (szOne (α := Int)) t + (szOne at_ + (szOne count + (szS24 ⟨key, b⟩ + szOne z))) + 1 ≤ 1048576 := hsm
  have hl : t.length ≤ 1048576 := smallMoves (n := 0) (by omega)
  have hl1 : t.length ≤ 1099511627776 := by omega
  have hl2 : t.length ≤ 140737488355328 := by omega
  refine Ev.rounds (g := fun k => quoinlaw09_SeekMoves.f k t at_ count key b z) ?_
  refine Ev.bind awake_ev (Ev.pos rfl (Ev.bind (refMove_ev hl1 at_ count key b) (Ev.bind (Move_ev hu hl2 at_ count key b) (Ev.pos (by simp) ?_))))
  exact Ev.eq (Ev.now _) (by simp)
end Go.Proofs.Ytdeohajlijalkaa.Pure
