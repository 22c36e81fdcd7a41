/-
  Layer 3 (splice): parts, and Cut, Insert, Delete, Slice as plain functions.
-/
import Derived.Test.YtjfbchgpmbjfpaaSP
import Derived.Test.YtjfbchgpmbjfpaaX18
import Derived.Test.YtjfbchgpmbjfpaaX17
import Derived.Test.YtjfbchgpmbjfpaaX24
import Derived.Test.YtjfbchgpmbjfpaaX19
import Derived.Test.YtjfbchgpmbjfpaaX25
import Derived.Test.YtjfbchgpmbjfpaaX26
namespace Go.Proofs.Ytjfbchgpmbjfpaa.SP
open Go.RowKit Go.Proofs.YtjfbchgpmbjfpaaW.PrintWords Go.Proofs.YtjfbchgpmbjfpaaW.PrintMore Go.Proofs.Ytjfbchgpmbjfpaa.X Go.Proofs.Ytjfbchgpmbjfpaa.XL Go.Proofs.Ytjfbchgpmbjfpaa.XO

def prt (a b : Int) (at_ : Int) : List S29 → List S29
  | [] => []
  | s :: l => if mx a at_ < mn b (wrap64 (at_ + s.f2)) then ⟨s.f0, wrap64 (wrap64 (s.f1 + mx a at_) - at_), wrap64 (mn b (wrap64 (at_ + s.f2)) - mx a at_)⟩ :: prt a b (wrap64 (at_ + s.f2)) l
    else prt a b (wrap64 (at_ + s.f2)) l
theorem part_length (a b at_ : Int) (l : List S29) : (prt a b at_ l).length ≤ l.length := by
  induction l generalizing at_ with
  | nil => simp [prt]
  | cons s l ih =>
    have h := ih (wrap64 (at_ + s.f2))
    unfold prt
    split <;> simp <;> omega
theorem part_l0 (a b : Int) (l : List S29) (hl : l.length < 5864062014805) : ∀ (suf pre out : List S29) (at_ : Int), l = pre ++ suf → out.length ≤ pre.length →
    Ev (fun k => splice_part.l0 k a b out at_ l (l.length : Int) (pre.length : Int)) (out ++ prt a b at_ suf) := by
  intro suf
  induction suf with
  | nil =>
    intro pre out at_ h _
    subst h
    refine Ev.step (fun k => rfl) (Ev.neg (by simp) ?_)
    exact Ev.eq (Ev.now _) (by simp [prt])
  | cons s suf ih =>
    intro pre out at_ h ho
    have hn := len_mid pre suf s
    rw [← h] at hn
    have h2 : l = (pre ++ [s]) ++ suf := by rw [h, snoc_eq]
    refine Ev.step (fun k => rfl) (Ev.pos (by omega) (Ev.pos (by omega) (Ev.pos (by omega) ?_)))
    rw [show rd_T29 l (pre.length : Int) = s from by rw [h]; exact rd_mid _ _ _, wrap_len pre s (by omega)]
    unfold prt
    by_cases hc : mx a at_ < mn b (wrap64 (at_ + s.f2))
    · rw [if_pos hc]
      refine Ev.pos hc (Ev.pos (by omega) ?_)
      exact Ev.eq (ih (pre ++ [s]) _ _ h2 (by simp; omega)) (by simp)
    · rw [if_neg hc]
      refine Ev.neg hc ?_
      exact ih (pre ++ [s]) _ _ h2 (by simp; omega)
theorem part_ev (l : List S29) (a b : Int) (hl : l.length < 5864062014805) : Ev (fun k => splice_part.f k l a b) (prt a b 0 l) := part_l0 a b l hl l [] [] 0 rfl (by simp)
/-- Parts of right spans are right. -/
theorem part_rt (a b : Int) (l : List S29) : ∀ at_ : Int, -9223372036854775808 ≤ at_ → at_ ≤ 9223372036854775807 → l.all rt = true → (prt a b at_ l).all rt = true := by
  induction l with
  | nil => intro at_ _ _ _; rfl
  | cons s l ih =>
    intro at_ h1 h2 h
    simp only [List.all_cons, Bool.and_eq_true] at h
    have hw := wrap64_range (at_ + s.f2)
    have hi := ih (wrap64 (at_ + s.f2)) hw.1 hw.2 h.2
    unfold prt
    split
    · rename_i hc
      simp only [List.all_cons, Bool.and_eq_true]
      refine ⟨?_, hi⟩
      have hr := of_decide_eq_true h.1
      rw [mx_eq, mn_eq] at hc ⊢
      have e : wrap64 (at_ + s.f2) = at_ + s.f2 := by
        unfold wrap64 at hc ⊢
        omega
      rw [e] at hc ⊢
      refine decide_eq_true ?_
      simp only
      unfold wrap64
      omega
    · exact hi
/-- What is wrong with a list and two places: 0 nothing. -/
def fault (l : List S29) (a b : Int) : Int := if l.all rt = true then (if a < 0 ∨ a > b ∨ b > sumA 0 l then 30 else 0) else 10
theorem fault_ev (l : List S29) (a b : Int) (hl : l.length ≤ 9000000000000000) : Ev (fun k => splice_fault.f k l a b) (if fault l a b = 0 then sumA 0 l else 0, fault l a b) := by
  refine Ev.bind (sized_ev l hl) ?_
  unfold fault
  by_cases hr : l.all rt = true
  · rw [if_pos hr, if_pos hr]
    refine Ev.pos rfl ?_
    by_cases h1 : a < 0
    · have e : (if a < 0 ∨ a > b ∨ b > sumA 0 l then 30 else 0) = (30 : Int) := if_pos (Or.inl h1)
      rw [e]
      exact Ev.pos h1 (Ev.now _)
    · refine Ev.neg h1 ?_
      by_cases h2 : a > b
      · have e : (if a < 0 ∨ a > b ∨ b > sumA 0 l then 30 else 0) = (30 : Int) := if_pos (Or.inr (Or.inl h2))
        rw [e]
        exact Ev.pos h2 (Ev.now _)
      · refine Ev.neg h2 ?_
        by_cases h3 : b > sumA 0 l
        · have e : (if a < 0 ∨ a > b ∨ b > sumA 0 l then 30 else 0) = (30 : Int) := if_pos (Or.inr (Or.inr h3))
          rw [e]
          exact Ev.pos h3 (Ev.now _)
        · have e : (if a < 0 ∨ a > b ∨ b > sumA 0 l then 30 else 0) = (0 : Int) := if_neg (by omega)
          rw [e]
          exact Ev.neg h3 (Ev.now _)
  · rw [if_neg hr, if_neg hr]
    exact Ev.neg (by decide) (Ev.eq (Ev.now _) (by rfl))
def cut (l : List S29) (n : Int) : List S29 × List S29 × Int := if fault l n n = 0 then (layAll [] (prt 0 n 0 l), layAll [] (prt n (sumA 0 l) 0 l), 0) else ([], [], fault l n n)
def ins (l : List S29) (n : Int) (s : S29) : List S29 × Int := if rt s = true then (if fault l n n = 0 then (layAll [] (prt 0 n 0 l ++ [s] ++ prt n (sumA 0 l) 0 l), 0) else ([], fault l n n)) else ([], 10)
def delete (l : List S29) (a b : Int) : List S29 × Int := if fault l a b = 0 then (layAll [] (prt 0 a 0 l ++ prt b (sumA 0 l) 0 l), 0) else ([], fault l a b)
def slice (l : List S29) (a b : Int) : List S29 × Int := if fault l a b = 0 then (layAll [] (prt a b 0 l), 0) else ([], fault l a b)
section
variable (l : List S29) (hl : l.length ≤ 2097155)
include hl
theorem Cut_ev (n : Int) : Ev (fun k => splice_Cut.f k l n) (cut l n) := by
  have p1 := part_length 0 n 0 l
  have p2 := part_length n (sumA 0 l) 0 l
  refine Ev.bind (fault_ev l n n (by omega)) ?_
  unfold cut
  by_cases h : fault l n n = 0
  · rw [if_pos h, if_pos h]
    refine Ev.pos h (Ev.bind (part_ev l _ _ (by omega)) (Ev.bind (packed_ev _ _ (by simp; omega)) (Ev.bind (part_ev l _ _ (by omega)) (Ev.bind (packed_ev _ _ (by simp; omega)) (Ev.now _)))))
  · rw [if_neg h, if_neg h]
    exact Ev.neg h (Ev.now _)
theorem Slice_ev (a b : Int) : Ev (fun k => splice_Slice.f k l a b) (slice l a b) := by
  have p1 := part_length a b 0 l
  refine Ev.bind (fault_ev l a b (by omega)) ?_
  unfold slice
  by_cases h : fault l a b = 0
  · rw [if_pos h, if_pos h]
    refine Ev.pos h (Ev.bind (part_ev l _ _ (by omega)) (Ev.bind (packed_ev _ _ (by simp; omega)) (Ev.now _)))
  · rw [if_neg h, if_neg h]
    exact Ev.neg h (Ev.now _)
theorem Delete_ev (a b : Int) : Ev (fun k => splice_Delete.f k l a b) (delete l a b) := by
  have p1 := part_length 0 a 0 l
  have p2 := part_length b (sumA 0 l) 0 l
  refine Ev.bind (fault_ev l a b (by omega)) ?_
  unfold delete
  by_cases h : fault l a b = 0
  · rw [if_pos h, if_pos h, layAll_append]
    have p3 := layAll_length [] (prt 0 a 0 l)
    simp only [List.length_nil] at p3
    refine Ev.pos h (Ev.bind (part_ev l _ _ (by omega)) (Ev.bind (packed_ev _ _ (by simp; omega)) (Ev.bind (part_ev l _ _ (by omega)) (Ev.bind (packed_ev _ _ (by dsimp only; omega)) (Ev.now _)))))
  · rw [if_neg h, if_neg h]
    exact Ev.neg h (Ev.now _)
theorem Insert_ev (n : Int) (s : S29) : Ev (fun k => splice_Insert.f k l n s.f0 s.f1 s.f2) (ins l n s) := by
  have p1 := part_length 0 n 0 l
  have p2 := part_length n (sumA 0 l) 0 l
  refine Ev.cbind (right_eq _ _ _) ?_
  unfold ins
  by_cases hs : rt s = true
  · rw [if_pos hs]
    refine Ev.pos hs (Ev.bind (fault_ev l n n (by omega)) ?_)
    by_cases h : fault l n n = 0
    · rw [if_pos h, if_pos h, layAll_append, layAll_append]
      have p3 := layAll_length [] (prt 0 n 0 l)
      have p4 := layAll_length (layAll [] (prt 0 n 0 l)) [s]
      simp only [List.length_nil] at p3
      simp only [List.length_cons, List.length_nil] at p4
      refine Ev.pos h (Ev.bind (part_ev l _ _ (by omega)) (Ev.bind (packed_ev _ _ (by simp; omega)) (Ev.bind (packed_ev _ [s] (by simp; omega)) (Ev.bind (part_ev l _ _ (by omega)) (Ev.bind (packed_ev _ _ (by dsimp only; omega)) (Ev.now _))))))
    · rw [if_neg h, if_neg h]
      exact Ev.neg h (Ev.now _)
  · rw [if_neg hs]
    exact Ev.neg hs (Ev.now _)
end
end Go.Proofs.Ytjfbchgpmbjfpaa.SP
