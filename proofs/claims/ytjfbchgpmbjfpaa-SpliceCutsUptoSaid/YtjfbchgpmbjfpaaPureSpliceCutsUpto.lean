/-
  SpliceCuts, the pure statement: the program's Cut, Delete, Slice and the document's are one function each.
  Conditions: what comes in is of bulk at most 1048576.
-/
import Derived.Test.YtjfbchgpmbjfpaaSP3
import Derived.Test.YtjfbchgpmbjfpaaSaySpliceCutsUpto
import Derived.Test.YtjfbchgpmbjfpaaX27
import Derived.Test.YtjfbchgpmbjfpaaX8
namespace Go.Proofs.Ytjfbchgpmbjfpaa.Pure
open Go.RowKit Go.Proofs.YtjfbchgpmbjfpaaW.PrintWords Go.Proofs.YtjfbchgpmbjfpaaW.PrintMore Go.Proofs.Ytjfbchgpmbjfpaa.X Go.Proofs.Ytjfbchgpmbjfpaa.XL Go.Proofs.Ytjfbchgpmbjfpaa.XO Go.Proofs.Ytjfbchgpmbjfpaa.SP
theorem cuts_awake : Ev (fun k => quoinlaw03_awake.f k) true := Ev.of quoinlaw03_awake.mono (k := 10) (by decide +kernel)
theorem szS_pos (s : S29) : 1 ≤ szS29 s := by unfold szS29; omega
theorem all0 (l : List S29) : (layAll [] l).length ≤ l.length := by simpa using layAll_length [] l
theorem cut_length (l : List S29) (n : Int) : (cut l n).1.length ≤ l.length ∧ (cut l n).2.1.length ≤ l.length := by
  unfold cut
  split
  · exact ⟨Nat.le_trans (all0 _) (part_length _ _ _ _), Nat.le_trans (all0 _) (part_length _ _ _ _)⟩
  · simp
theorem slice_length (l : List S29) (a b : Int) : (slice l a b).1.length ≤ l.length := by
  unfold slice
  split
  · exact Nat.le_trans (all0 _) (part_length _ _ _ _)
  · simp
theorem delete_length (l : List S29) (a b : Int) : (delete l a b).1.length ≤ l.length + l.length := by
  unfold delete
  split
  · have h := all0 (prt 0 a 0 l ++ prt b (sumA 0 l) 0 l)
    have p1 := part_length 0 a 0 l
    have p2 := part_length b (sumA 0 l) 0 l
    simp at h ⊢
    omega
  · simp
theorem SpliceCutsUpto : Say.SpliceCutsUpto := by
  intro l0 a b _ _ _ hb
  have h1 := szSl_length szS29 szS_pos l0
  have hl : l0.length ≤ 2097155 := by omega
  refine Ev.rounds (g := fun k => quoinlaw03_SpliceCuts.f k l0 a b) ?_
  have c1 := cut_length l0 a
  have c2 := slice_length l0 a b
  have c3 := delete_length l0 a b
  refine Ev.bind cuts_awake (Ev.pos rfl ?_)
  refine Ev.bind (refCut_ev l0 hl a) (Ev.bind (refDelete_ev l0 hl a b) (Ev.bind (refSlice_ev l0 hl a b) (Ev.bind (Cut_ev l0 hl a) (Ev.bind (Delete_ev l0 hl a b) (Ev.bind (Slice_ev l0 hl a b) ?_)))))
  refine Ev.bind (same_ev _ (by omega)) (Ev.pos rfl (Ev.bind (same_ev _ (by omega)) (Ev.pos rfl (Ev.pos rfl ?_))))
  refine Ev.bind (same_ev _ (by omega)) (Ev.pos rfl (Ev.pos rfl (Ev.bind (same_ev _ (by omega)) (Ev.pos rfl ?_))))
  exact Ev.eq (Ev.now _) (by simp)
end Go.Proofs.Ytjfbchgpmbjfpaa.Pure
