/-
  Layer 3 (splice): the document's Cut, Insert, Delete, Slice come to the same functions.
-/
import Derived.Test.YtjfbchgpmbjfpaaSP2
import Derived.Test.YtjfbchgpmbjfpaaX15
import Derived.Test.YtjfbchgpmbjfpaaX21
import Derived.Test.YtjfbchgpmbjfpaaX16
import Derived.Test.YtjfbchgpmbjfpaaX22
import Derived.Test.YtjfbchgpmbjfpaaX23
namespace Go.Proofs.Ytjfbchgpmbjfpaa.SP
open Go.RowKit Go.Proofs.YtjfbchgpmbjfpaaW.PrintWords Go.Proofs.YtjfbchgpmbjfpaaW.PrintMore Go.Proofs.Ytjfbchgpmbjfpaa.X Go.Proofs.Ytjfbchgpmbjfpaa.XL Go.Proofs.Ytjfbchgpmbjfpaa.XO

theorem refPart_l0 (a b : Int) (l : List S29) (hl : l.length < 5864062014805) : ∀ (suf pre out : List S29) (at_ : Int), l = pre ++ suf → out.length ≤ pre.length →
    Ev (fun k => quoinref03_part.l0 k l a b out at_ (pre.length : Int)) (out ++ prt a b at_ suf) := by
  intro suf
  induction suf with
  | nil =>
    intro pre out at_ h _
    subst h
    refine Ev.step (fun k => rfl) (Ev.neg (by simp) ?_)
    exact Ev.eq (Ev.now _) (by simp [prt])
  | cons s suf ih =>
    intro pre out at_ h ho
    have hn := len_mid pre suf s
    rw [← h] at hn
    have h2 : l = (pre ++ [s]) ++ suf := by rw [h, snoc_eq]
    have hi1 := ih (pre ++ [s]) (out ++ [⟨s.f0, wrap64 (wrap64 (s.f1 + mx a at_) - at_), wrap64 (mn b (wrap64 (at_ + s.f2)) - mx a at_)⟩]) (wrap64 (at_ + s.f2)) h2 (by simp; omega)
    have hi2 := ih (pre ++ [s]) out (wrap64 (at_ + s.f2)) h2 (by simp; omega)
    have hw := wrap_len pre s (by omega)
    refine Ev.step (fun k => rfl) (Ev.pos (by omega) (Ev.pos (by omega) ?_))
    rw [show rd_T29 l (pre.length : Int) = s from by rw [h]; exact rd_mid _ _ _]
    have hj : ∀ x11, x11 = mx a at_ → Ev (fun k => quoinref03_part.j1 k l a b out at_ (pre.length : Int) x11 (wrap64 (at_ + s.f2)) s.f0 s.f1 s.f2) (out ++ prt a b at_ (s :: suf)) := by
      intro x11 hx
      subst hx
      unfold prt
      by_cases hc : wrap64 (at_ + s.f2) > b
      · have e : mn b (wrap64 (at_ + s.f2)) = b := by unfold mn; omega
        rw [e] at hi1 ⊢
        refine Ev.step (fun k => rfl) (Ev.pos hc ?_)
        rw [hw]
        by_cases hd : mx a at_ < b
        · rw [if_pos hd]
          exact Ev.pos hd (Ev.pos (by omega) (Ev.eq hi1 (by simp)))
        · rw [if_neg hd]
          exact Ev.neg hd hi2
      · have e : mn b (wrap64 (at_ + s.f2)) = wrap64 (at_ + s.f2) := by unfold mn; omega
        rw [e] at hi1 ⊢
        refine Ev.step (fun k => rfl) (Ev.neg hc ?_)
        rw [hw]
        by_cases hd : mx a at_ < wrap64 (at_ + s.f2)
        · rw [if_pos hd]
          exact Ev.pos hd (Ev.pos (by omega) (Ev.eq hi1 (by simp)))
        · rw [if_neg hd]
          exact Ev.neg hd hi2
    by_cases hc : at_ < a
    · exact Ev.pos hc (hj a (by unfold mx; omega))
    · exact Ev.neg hc (hj at_ (by unfold mx; omega))
theorem refPart_ev (l : List S29) (a b : Int) (hl : l.length < 5864062014805) : Ev (fun k => quoinref03_part.f k l a b) (prt a b 0 l) := refPart_l0 a b l hl l [] [] 0 rfl (by simp)
theorem size_of (l : List S29) (h : l.all rt = true) : size l = sumA 0 l := if_pos h
theorem pack_of (l : List S29) (h : l.all rt = true) : pack l = layAll [] l := if_pos h
section
variable (l : List S29) (hl : l.length ≤ 2097155)
include hl
theorem refCut_ev (n : Int) : Ev (fun k => quoinref03_Cut.f k l n) (cut l n) := by
  have p1 := part_length 0 n 0 l
  have p2 := part_length n (sumA 0 l) 0 l
  refine Ev.bind (allRight_ev l (by omega)) ?_
  unfold cut fault
  by_cases hr : l.all rt = true
  · rw [if_pos hr]
    refine Ev.pos hr ?_
    have hj : ∀ b : Bool, b = decide (n < 0 ∨ n > n ∨ n > sumA 0 l) → Ev (fun k => quoinref03_Cut.j0 k l n b) (if (if n < 0 ∨ n > n ∨ n > sumA 0 l then (30 : Int) else 0) = 0 then (layAll [] (prt 0 n 0 l), layAll [] (prt n (sumA 0 l) 0 l), (0 : Int)) else ([], [], if n < 0 ∨ n > n ∨ n > sumA 0 l then 30 else 0)) := by
      intro b hb
      by_cases hc : n < 0 ∨ n > n ∨ n > sumA 0 l
      · rw [if_pos hc, if_neg (by decide)]
        rw [decide_eq_true hc] at hb
        exact Ev.step (fun k => rfl) (Ev.pos hb (Ev.now _))
      · rw [if_neg hc, if_pos rfl]
        rw [decide_eq_false hc] at hb
        refine Ev.step (fun k => rfl) (Ev.neg (by rw [hb]; decide) ?_)
        refine Ev.bind (refPart_ev l _ _ (by omega)) (Ev.bind (refPack_ev _ (by omega)) (Ev.bind (refSize_ev l (by omega)) ?_))
        rw [size_of l hr]
        refine Ev.bind (refPart_ev l _ _ (by omega)) (Ev.bind (refPack_ev _ (by omega)) ?_)
        rw [pack_of _ (part_rt _ _ _ _ (by decide) (by decide) hr), pack_of _ (part_rt _ _ _ _ (by decide) (by decide) hr)]
        exact Ev.now _
    by_cases h1 : n < 0
    · exact Ev.pos h1 (hj true (decide_eq_true (Or.inl h1)).symm)
    · refine Ev.neg h1 (Ev.bind (refSize_ev l (by omega)) ?_)
      rw [size_of l hr]
      exact hj _ (by rw [decide_eq_decide]; omega)
  · rw [if_neg hr]
    exact Ev.neg hr (Ev.now _)
theorem refSlice_ev (a b : Int) : Ev (fun k => quoinref03_Slice.f k l a b) (slice l a b) := by
  have p1 := part_length a b 0 l
  refine Ev.bind (allRight_ev l (by omega)) ?_
  unfold slice fault
  by_cases hr : l.all rt = true
  · rw [if_pos hr]
    refine Ev.pos hr ?_
    have hj : ∀ z : Bool, z = decide (a < 0 ∨ a > b ∨ b > sumA 0 l) → Ev (fun k => quoinref03_Slice.j0 k l a b z) (if (if a < 0 ∨ a > b ∨ b > sumA 0 l then (30 : Int) else 0) = 0 then (layAll [] (prt a b 0 l), (0 : Int)) else ([], if a < 0 ∨ a > b ∨ b > sumA 0 l then 30 else 0)) := by
      intro z hb
      by_cases hc : a < 0 ∨ a > b ∨ b > sumA 0 l
      · rw [if_pos hc, if_neg (by decide)]
        rw [decide_eq_true hc] at hb
        exact Ev.step (fun k => rfl) (Ev.pos hb (Ev.now _))
      · rw [if_neg hc, if_pos rfl]
        rw [decide_eq_false hc] at hb
        refine Ev.step (fun k => rfl) (Ev.neg (by rw [hb]; decide) ?_)
        refine Ev.bind (refPart_ev l _ _ (by omega)) (Ev.bind (refPack_ev _ (by omega)) ?_)
        rw [pack_of _ (part_rt _ _ _ _ (by decide) (by decide) hr)]
        exact Ev.now _
    by_cases h1 : a < 0
    · exact Ev.pos h1 (hj true (decide_eq_true (Or.inl h1)).symm)
    · refine Ev.neg h1 ?_
      by_cases h2 : b < a
      · exact Ev.pos h2 (hj true (decide_eq_true (Or.inr (Or.inl h2))).symm)
      · refine Ev.neg h2 (Ev.bind (refSize_ev l (by omega)) ?_)
        rw [size_of l hr]
        exact hj _ (by rw [decide_eq_decide]; omega)
  · rw [if_neg hr]
    exact Ev.neg hr (Ev.now _)
theorem refDelete_ev (a b : Int) : Ev (fun k => quoinref03_Delete.f k l a b) (delete l a b) := by
  have p1 := part_length 0 a 0 l
  have p2 := part_length b (sumA 0 l) 0 l
  refine Ev.bind (allRight_ev l (by omega)) ?_
  unfold delete fault
  by_cases hr : l.all rt = true
  · rw [if_pos hr]
    refine Ev.pos hr ?_
    have hj : ∀ z : Bool, z = decide (a < 0 ∨ a > b ∨ b > sumA 0 l) → Ev (fun k => quoinref03_Delete.j0 k l a b z) (if (if a < 0 ∨ a > b ∨ b > sumA 0 l then (30 : Int) else 0) = 0 then (layAll [] (prt 0 a 0 l ++ prt b (sumA 0 l) 0 l), (0 : Int)) else ([], if a < 0 ∨ a > b ∨ b > sumA 0 l then 30 else 0)) := by
      intro z hb
      by_cases hc : a < 0 ∨ a > b ∨ b > sumA 0 l
      · rw [if_pos hc, if_neg (by decide)]
        rw [decide_eq_true hc] at hb
        exact Ev.step (fun k => rfl) (Ev.pos hb (Ev.now _))
      · rw [if_neg hc, if_pos rfl]
        rw [decide_eq_false hc] at hb
        refine Ev.step (fun k => rfl) (Ev.neg (by rw [hb]; decide) ?_)
        refine Ev.bind (refPart_ev l _ _ (by omega)) (Ev.bind (refSize_ev l (by omega)) ?_)
        rw [size_of l hr]
        refine Ev.bind (refPart_ev l _ _ (by omega)) (Ev.pos (by omega) (Ev.bind (refPack_ev _ (by simp; omega)) ?_))
        rw [pack_of _ (by rw [List.all_append, part_rt _ _ _ _ (by decide) (by decide) hr, part_rt _ _ _ _ (by decide) (by decide) hr]; rfl)]
        exact Ev.now _
    by_cases h1 : a < 0
    · exact Ev.pos h1 (hj true (decide_eq_true (Or.inl h1)).symm)
    · refine Ev.neg h1 ?_
      by_cases h2 : b < a
      · exact Ev.pos h2 (hj true (decide_eq_true (Or.inr (Or.inl h2))).symm)
      · refine Ev.neg h2 (Ev.bind (refSize_ev l (by omega)) ?_)
        rw [size_of l hr]
        exact hj _ (by rw [decide_eq_decide]; omega)
  · rw [if_neg hr]
    exact Ev.neg hr (Ev.now _)
theorem refInsert_ev (n : Int) (s : S29) : Ev (fun k => quoinref03_Insert.f k l n s.f0 s.f1 s.f2) (ins l n s) := by
  have p1 := part_length 0 n 0 l
  have p2 := part_length n (sumA 0 l) 0 l
  refine Ev.bind (allRight_ev l (by omega)) ?_
  have hbad : ∀ r : List S29 × Int, r = ([], 10) → Ev (fun k => quoinref03_Insert.j0 k l n true s.f0 s.f1 s.f2) r := by
    intro r hr
    subst hr
    exact ⟨1, fun k hk => by obtain ⟨m, rfl⟩ : ∃ m, k = m + 1 := ⟨k - 1, by omega⟩; rfl⟩
  by_cases hr : l.all rt = true
  · refine Ev.pos hr (Ev.cbind (ref_right_eq _ _ _) ?_)
    have hs0 : rt ⟨s.f0, s.f1, s.f2⟩ = rt s := rfl
    rw [hs0]
    by_cases hs : rt s = true
    · rw [hs]
      refine Ev.step (f := fun k => if n < 0 then quoinref03_Insert.j1 k l n true s.f0 s.f1 s.f2 else (quoinref03_Size.f k l).bind fun z => quoinref03_Insert.j1 k l n (decide (n > z)) s.f0 s.f1 s.f2) (fun k => rfl) ?_
      unfold ins fault
      rw [if_pos hs, if_pos hr]
      have hj : ∀ b : Bool, b = decide (n < 0 ∨ n > n ∨ n > sumA 0 l) → Ev (fun k => quoinref03_Insert.j1 k l n b s.f0 s.f1 s.f2) (if (if n < 0 ∨ n > n ∨ n > sumA 0 l then (30 : Int) else 0) = 0 then (layAll [] (prt 0 n 0 l ++ [s] ++ prt n (sumA 0 l) 0 l), (0 : Int)) else ([], if n < 0 ∨ n > n ∨ n > sumA 0 l then 30 else 0)) := by
        intro b hb
        by_cases hc : n < 0 ∨ n > n ∨ n > sumA 0 l
        · rw [if_pos hc, if_neg (by decide)]
          rw [decide_eq_true hc] at hb
          exact Ev.step (fun k => rfl) (Ev.pos hb (Ev.now _))
        · rw [if_neg hc, if_pos rfl]
          rw [decide_eq_false hc] at hb
          refine Ev.step (fun k => rfl) (Ev.neg (by rw [hb]; decide) ?_)
          refine Ev.bind (refPart_ev l _ _ (by omega)) (Ev.cbind rfl (Ev.pos (by simp; omega) (Ev.cbind rfl (Ev.bind (refSize_ev l (by omega)) ?_))))
          rw [size_of l hr]
          refine Ev.bind (refPart_ev l _ _ (by omega)) (Ev.pos (by simp; omega) (Ev.bind (refPack_ev _ (by simp; omega)) ?_))
          rw [pack_of _ (by rw [List.all_append, List.all_append, part_rt _ _ _ _ (by decide) (by decide) hr, part_rt _ _ _ _ (by decide) (by decide) hr]; simpa using hs)]
          exact Ev.now _
      by_cases h1 : n < 0
      · exact Ev.pos h1 (hj true (decide_eq_true (Or.inl h1)).symm)
      · refine Ev.neg h1 (Ev.bind (refSize_ev l (by omega)) ?_)
        rw [size_of l hr]
        exact hj _ (by rw [decide_eq_decide]; omega)
    · have hs' : rt s = false := by simpa using hs
      rw [hs']
      exact hbad _ (by unfold ins; rw [if_neg hs])
  · refine Ev.neg hr (hbad _ ?_)
    unfold ins fault
    rw [if_neg hr]
    split
    · rw [if_neg (by decide)]
    · rfl
end
end Go.Proofs.Ytjfbchgpmbjfpaa.SP
