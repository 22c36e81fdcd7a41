/-
  SeekAgains, the pure statement: the program and the document come to one function.
  Conditions: what comes in is of bulk at most 1048576.
-/
import Derived.Test.YtdeohajlijalkaaSK2
import Derived.Test.YtdeohajlijalkaaSaySeekAgainsUpto
import Derived.Test.YtdeohajlijalkaaX25
namespace Go.Proofs.Ytdeohajlijalkaa.Pure
open Go.RowKit Go.Proofs.YtdeohajlijalkaaW.PrintWords Go.Proofs.YtdeohajlijalkaaW.PrintMore Go.Proofs.Ytdeohajlijalkaa.X Go.Proofs.Ytdeohajlijalkaa.XL Go.Proofs.Ytdeohajlijalkaa.XO Go.Proofs.Ytdeohajlijalkaa.LN Go.Proofs.Ytdeohajlijalkaa.SK
theorem smallAgains {t : List Int} {n : Nat} (h : szSl (szOne (α := Int)) t + n ≤ 1048576) : t.length ≤ 1048576 := by
  have h1 := szSl_length (szOne (α := Int)) (fun _ => Nat.le_refl _) t
  omega
theorem SeekAgainsUpto : Say.SeekAgainsUpto := by
  rintro ⟨t, at_, count, ⟨key, b⟩, z⟩ ⟨ht, ha, hc, ⟨hk, hb⟩, _⟩ hsm
  have hu := u8s_ok ht
  have h1 : szSl (szOne (α := Int)) t + (szOne at_ + (szOne count + (szS24 ⟨key, b⟩ + szOne z))) + 1 ≤ 1048576 := hsm
  have hl : t.length ≤ 1048576 := smallAgains (n := 0) (by omega)
  have hl1 : t.length ≤ 1099511627776 := by omega
  have hl2 : t.length ≤ 140737488355328 := by omega
  refine Ev.rounds (g := fun k => quoinlaw09_SeekAgains.f k t at_ count key b z) ?_
  have h0 : Ev (fun k => seek_Again.f k ([97, 120, 120] : List Int) 0 1 116 120 false) (0, 1, 2, 0) := Ev.of (fun k => seek_Again.mono _ _ _ _ _ _ k) (k := 40) (by decide +kernel)
  refine Ev.bind h0 (Ev.pos rfl ?_)
  refine Ev.step (f := fun k => ((quoinref09_Again.f k t at_ count key b z).bind fun bt261 => ((seek_Again.f k t at_ count key b z).bind fun bt266 => (if (bt266.1 == bt261.1 && (bt266.2.1 == bt261.2.1 && (bt266.2.2.1 == bt261.2.2.1))) = true then (some (bt266.2.2.2 == bt261.2.2.2)) else (some false))))) (fun k => rfl) ?_
  refine Ev.bind (refAgain_ev hl1 at_ count key b z) (Ev.bind (Again_ev hu hl2 at_ count key b z) (Ev.pos (by simp) ?_))
  exact Ev.eq (Ev.now _) (by simp)
end Go.Proofs.Ytdeohajlijalkaa.Pure
