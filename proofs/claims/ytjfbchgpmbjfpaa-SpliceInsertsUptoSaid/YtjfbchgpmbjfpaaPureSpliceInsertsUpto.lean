/-
  SpliceInserts, the pure statement: the program's Insert and the document's are one function.
  Conditions: what comes in is of bulk at most 1048576.
-/
import Derived.Test.YtjfbchgpmbjfpaaSP3
import Derived.Test.YtjfbchgpmbjfpaaSaySpliceInsertsUpto
import Derived.Test.YtjfbchgpmbjfpaaX20
import Derived.Test.YtjfbchgpmbjfpaaX8
namespace Go.Proofs.Ytjfbchgpmbjfpaa.Pure
open Go.RowKit Go.Proofs.YtjfbchgpmbjfpaaW.PrintWords Go.Proofs.YtjfbchgpmbjfpaaW.PrintMore Go.Proofs.Ytjfbchgpmbjfpaa.X Go.Proofs.Ytjfbchgpmbjfpaa.XL Go.Proofs.Ytjfbchgpmbjfpaa.XO Go.Proofs.Ytjfbchgpmbjfpaa.SP
theorem inserts_awake : Ev (fun k => quoinlaw03_awake.f k) true := Ev.of quoinlaw03_awake.mono (k := 10) (by decide +kernel)
theorem szS_pos (s : S29) : 1 ≤ szS29 s := by unfold szS29; omega
theorem insert_length (l : List S29) (n : Int) (s : S29) : (ins l n s).1.length ≤ l.length + l.length + 1 := by
  unfold ins
  split
  · split
    · have h := layAll_length [] (prt 0 n 0 l ++ [s] ++ prt n (sumA 0 l) 0 l)
      have p1 := part_length 0 n 0 l
      have p2 := part_length n (sumA 0 l) 0 l
      simp at h ⊢
      omega
    · simp
  · simp
theorem SpliceInsertsUpto : Say.SpliceInsertsUpto := by
  intro l0 n s _ _ _ hb
  have h1 := szSl_length szS29 szS_pos l0
  have hl : l0.length ≤ 2097155 := by omega
  refine Ev.rounds (g := fun k => quoinlaw03_SpliceInserts.f k l0 n s.f0 s.f1 s.f2) ?_
  refine Ev.bind inserts_awake (Ev.pos rfl ?_)
  refine Ev.bind (refInsert_ev l0 hl n s) (Ev.bind (Insert_ev l0 hl n s) ?_)
  have h2 := insert_length l0 n s
  refine Ev.bind (same_ev _ (by omega)) (Ev.pos rfl ?_)
  exact Ev.eq (Ev.now _) (by simp)
end Go.Proofs.Ytjfbchgpmbjfpaa.Pure
