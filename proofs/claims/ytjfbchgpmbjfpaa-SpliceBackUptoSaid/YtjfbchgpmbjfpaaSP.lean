/-
  Layer 3 (splice): what the printed functions come to, as plain functions on lists of spans.
-/
import Derived.Test.YtjfbchgpmbjfpaaXL
import Derived.Test.YtjfbchgpmbjfpaaXS
import Derived.Test.YtjfbchgpmbjfpaaX4
import Derived.Test.YtjfbchgpmbjfpaaX5
import Derived.Test.YtjfbchgpmbjfpaaX10
import Derived.Test.YtjfbchgpmbjfpaaX11
import Derived.Test.YtjfbchgpmbjfpaaX12
import Derived.Test.YtjfbchgpmbjfpaaX13
import Derived.Test.YtjfbchgpmbjfpaaX2
import Derived.Test.YtjfbchgpmbjfpaaX3
import Derived.Test.YtjfbchgpmbjfpaaX9
import Derived.Test.YtjfbchgpmbjfpaaX6
import Derived.Test.YtjfbchgpmbjfpaaX7
namespace Go.Proofs.Ytjfbchgpmbjfpaa.SP
open Go.RowKit Go.Proofs.YtjfbchgpmbjfpaaW.PrintWords Go.Proofs.YtjfbchgpmbjfpaaW.PrintMore Go.Proofs.Ytjfbchgpmbjfpaa.X Go.Proofs.Ytjfbchgpmbjfpaa.XL Go.Proofs.Ytjfbchgpmbjfpaa.XO

def rt (s : S29) : Bool := decide ((s.f0 = 0 ∨ s.f0 = 1) ∧ 0 ≤ s.f1 ∧ s.f1 ≤ 2147483647 ∧ 0 ≤ s.f2 ∧ s.f2 ≤ 2147483647 - s.f1)
theorem right_eq (a b c : Int) : splice_right.f a b c = some (rt ⟨a, b, c⟩) := by
  unfold splice_right.f rt
  repeat' split
  all_goals first
    | (rw [wrap64_id (by omega) (by omega)]; congr 1; rw [decide_eq_decide]; simp only; omega)
    | (congr 1; symm; rw [decide_eq_false_iff_not]; simp only; omega)
theorem ref_right_eq (a b c : Int) : quoinref03_Right.f a b c = some (rt ⟨a, b, c⟩) := right_eq a b c

theorem rd_mid (pre suf : List S29) (s : S29) : rd_T29 (pre ++ s :: suf) (pre.length : Int) = s := by
  unfold rd_T29
  rw [Int.toNat_natCast]
  exact getD_mid _ _ _ _

def sumA (a : Int) : List S29 → Int
  | [] => a
  | s :: l => sumA (wrap64 (a + s.f2)) l

theorem sized_l0 (l : List S29) (hl : l.length ≤ 9000000000000000) : ∀ (suf pre : List S29) (a : Int), l = pre ++ suf →
    Ev (fun k => splice_sized.l0 k a l (l.length : Int) (pre.length : Int)) (if suf.all rt = true then (sumA a suf, true) else (0, false)) := by
  intro suf
  induction suf with
  | nil =>
    intro pre a h
    subst h
    refine Ev.step (fun k => rfl) (Ev.neg (by simp) ?_)
    exact Ev.now _
  | cons s suf ih =>
    intro pre a h
    have hn := len_mid pre suf s
    rw [← h] at hn
    have h2 : l = (pre ++ [s]) ++ suf := by rw [h, snoc_eq]
    refine Ev.step (fun k => rfl) (Ev.pos (by omega) (Ev.pos (by omega) (Ev.pos (by omega) ?_)))
    rw [show rd_T29 l (pre.length : Int) = s from by rw [h]; exact rd_mid _ _ _, wrap_len pre s (by omega)]
    refine Ev.cbind (right_eq _ _ _) ?_
    have hs : rt ⟨s.f0, s.f1, s.f2⟩ = rt s := rfl
    rw [hs]
    by_cases hr : rt s = true
    · refine Ev.pos hr ?_
      simp only [List.all_cons, hr, Bool.true_and]
      exact ih (pre ++ [s]) _ h2
    · refine Ev.neg hr ?_
      simp only [List.all_cons, hr, Bool.false_and]
      exact Ev.now _
theorem sized_ev (l : List S29) (hl : l.length ≤ 9000000000000000) : Ev (fun k => splice_sized.f k l) (if l.all rt = true then (sumA 0 l, true) else (0, false)) := sized_l0 l hl l [] 0 rfl

theorem allRight_l0 (l : List S29) (hl : l.length ≤ 9000000000000000) : ∀ (suf pre : List S29), l = pre ++ suf →
    Ev (fun k => quoinref03_allRight.l0 k l (pre.length : Int)) (suf.all rt) := by
  intro suf
  induction suf with
  | nil =>
    intro pre h
    subst h
    refine Ev.step (fun k => rfl) (Ev.neg (by simp) ?_)
    exact Ev.now _
  | cons s suf ih =>
    intro pre h
    have hn := len_mid pre suf s
    rw [← h] at hn
    have h2 : l = (pre ++ [s]) ++ suf := by rw [h, snoc_eq]
    refine Ev.step (fun k => rfl) (Ev.pos (by omega) (Ev.pos (by omega) ?_))
    rw [show rd_T29 l (pre.length : Int) = s from by rw [h]; exact rd_mid _ _ _, wrap_len pre s (by omega)]
    refine Ev.cbind (ref_right_eq _ _ _) ?_
    have hs : rt ⟨s.f0, s.f1, s.f2⟩ = rt s := rfl
    rw [hs]
    by_cases hr : rt s = true
    · refine Ev.pos hr ?_
      simp only [List.all_cons, hr, Bool.true_and]
      exact ih (pre ++ [s]) h2
    · refine Ev.neg hr ?_
      simp only [List.all_cons, hr, Bool.false_and]
      exact Ev.now _
theorem allRight_ev (l : List S29) (hl : l.length ≤ 9000000000000000) : Ev (fun k => quoinref03_allRight.f k l) (l.all rt) := allRight_l0 l hl l [] rfl

theorem refSize_l0 (l : List S29) (hl : l.length ≤ 9000000000000000) : ∀ (suf pre : List S29) (a : Int), l = pre ++ suf →
    Ev (fun k => quoinref03_Size.l0 k l a (pre.length : Int)) (sumA a suf) := by
  intro suf
  induction suf with
  | nil =>
    intro pre a h
    subst h
    refine Ev.step (fun k => rfl) (Ev.neg (by simp) ?_)
    exact Ev.now _
  | cons s suf ih =>
    intro pre a h
    have hn := len_mid pre suf s
    rw [← h] at hn
    have h2 : l = (pre ++ [s]) ++ suf := by rw [h, snoc_eq]
    refine Ev.step (fun k => rfl) (Ev.pos (by omega) (Ev.pos (by omega) ?_))
    rw [show rd_T29 l (pre.length : Int) = s from by rw [h]; exact rd_mid _ _ _, wrap_len pre s (by omega)]
    exact ih (pre ++ [s]) _ h2
def size (l : List S29) : Int := if l.all rt = true then sumA 0 l else 0
theorem refSize_ev (l : List S29) (hl : l.length ≤ 9000000000000000) : Ev (fun k => quoinref03_Size.f k l) (size l) := by
  unfold size
  refine Ev.bind (allRight_ev l hl) ?_
  by_cases h : l.all rt = true
  · rw [if_pos h]
    exact Ev.pos h (refSize_l0 l hl l [] 0 rfl)
  · rw [if_neg h]
    exact Ev.neg h (Ev.now _)
theorem Size_ev (l : List S29) (hl : l.length ≤ 9000000000000000) : Ev (fun k => splice_Size.f k l) (size l) := by
  refine Ev.done (sized_ev l hl) ?_
  unfold size
  split <;> rfl

/-- A span laid behind a list. -/
def lay (l : List S29) (s : S29) : List S29 :=
  if s.f2 = 0 then l
  else if 0 < l.length then
    (if (l.getD (l.length - 1) z29).f0 = s.f0 then
      (if wrap64 ((l.getD (l.length - 1) z29).f1 + (l.getD (l.length - 1) z29).f2) = s.f1 then
        l.set (l.length - 1) ⟨(l.getD (l.length - 1) z29).f0, (l.getD (l.length - 1) z29).f1, wrap64 ((l.getD (l.length - 1) z29).f2 + s.f2)⟩
      else l ++ [s])
    else l ++ [s])
  else l ++ [s]
theorem lay_length (l : List S29) (s : S29) : (lay l s).length ≤ l.length + 1 := by
  unfold lay
  repeat' split
  all_goals simp
theorem wrap_pred (l : List S29) (hl : l.length ≤ 9000000000000000) : wrap64 ((l.length : Int) - 1) = (l.length : Int) - 1 := wrap64_id (by omega) (by omega)
theorem rd_last (l : List S29) (h : 0 < l.length) : rd_T29 l ((l.length : Int) - 1) = l.getD (l.length - 1) z29 := by
  unfold rd_T29
  rw [show ((l.length : Int) - 1).toNat = l.length - 1 from by omega]
theorem refLay_eq (l : List S29) (s : S29) (hl : l.length < 5864062014805) : quoinref03_lay.f l s.f0 s.f1 s.f2 = some (lay l s) := by
  unfold quoinref03_lay.f lay
  rw [wrap_pred l (by omega)]
  by_cases h0 : s.f2 = 0
  · rw [if_pos h0, if_pos h0]
  · rw [if_neg h0, if_neg h0]
    by_cases h1 : 0 < l.length
    · rw [if_pos (by omega), if_pos (by omega), if_pos (by omega), if_pos h1, rd_last l h1, show ((l.length : Int) - 1).toNat = l.length - 1 from by omega]
      repeat' split
      all_goals first | rfl | omega
    · rw [if_neg (by omega), if_neg h1, if_pos hl]
def layAll : List S29 → List S29 → List S29
  | out, [] => out
  | out, s :: l => layAll (lay out s) l
theorem layAll_append (out l m : List S29) : layAll out (l ++ m) = layAll (layAll out l) m := by
  induction l generalizing out with
  | nil => rfl
  | cons s l ih => exact ih _
theorem layAll_length (out l : List S29) : (layAll out l).length ≤ out.length + l.length := by
  induction l generalizing out with
  | nil => simp [layAll]
  | cons s l ih =>
    have h1 := ih (lay out s)
    have h2 := lay_length out s
    simp only [layAll, List.length_cons]
    omega
theorem refPack_l0 (l : List S29) (hl : l.length < 5864062014805) : ∀ (suf pre out : List S29), l = pre ++ suf → out.length ≤ pre.length →
    Ev (fun k => quoinref03_Pack.l0 k l out (pre.length : Int)) (layAll out suf) := by
  intro suf
  induction suf with
  | nil =>
    intro pre out h _
    subst h
    refine Ev.step (fun k => rfl) (Ev.neg (by simp) ?_)
    exact Ev.now _
  | cons s suf ih =>
    intro pre out h ho
    have hn := len_mid pre suf s
    rw [← h] at hn
    have h2 : l = (pre ++ [s]) ++ suf := by rw [h, snoc_eq]
    refine Ev.step (fun k => rfl) (Ev.pos (by omega) (Ev.pos (by omega) ?_))
    rw [show rd_T29 l (pre.length : Int) = s from by rw [h]; exact rd_mid _ _ _, wrap_len pre s (by omega)]
    refine Ev.cbind (refLay_eq out s (by omega)) ?_
    refine ih (pre ++ [s]) (lay out s) h2 ?_
    have := lay_length out s
    simp
    omega
theorem packed_l0 (l : List S29) (B : Nat) (hB : B + l.length < 5864062014805) : ∀ (suf pre out : List S29), l = pre ++ suf → out.length ≤ B + pre.length →
    Ev (fun k => splice_packed.l0 k out l (l.length : Int) (pre.length : Int)) (layAll out suf) := by
  intro suf
  induction suf with
  | nil =>
    intro pre out h _
    subst h
    refine Ev.step (fun k => rfl) (Ev.neg (by simp) ?_)
    exact Ev.now _
  | cons s suf ih =>
    intro pre out h ho
    have hn := len_mid pre suf s
    rw [← h] at hn
    have h2 : l = (pre ++ [s]) ++ suf := by rw [h, snoc_eq]
    have hll := lay_length out s
    have hih := ih (pre ++ [s]) (lay out s) h2 (by simp; omega)
    refine Ev.step (fun k => rfl) (Ev.pos (by omega) (Ev.pos (by omega) (Ev.pos (by omega) ?_)))
    rw [show rd_T29 l (pre.length : Int) = s from by rw [h]; exact rd_mid _ _ _, wrap_len pre s (by omega), wrap_pred out (by omega)]
    show Ev _ (layAll (lay out s) suf)
    unfold lay at hih ⊢
    by_cases h0 : s.f2 = 0
    · rw [if_pos h0] at hih ⊢
      exact Ev.pos h0 hih
    · rw [if_neg h0] at hih ⊢
      refine Ev.neg h0 ?_
      by_cases h1 : 0 < out.length
      · rw [if_pos h1] at hih ⊢
        refine Ev.pos (by omega) (Ev.pos (by omega) (Ev.pos (by omega) ?_))
        rw [rd_last out h1, show ((out.length : Int) - 1).toNat = out.length - 1 from by omega]
        by_cases h3 : (out.getD (out.length - 1) z29).f0 = s.f0
        · rw [if_pos h3] at hih ⊢
          refine Ev.pos h3 ?_
          by_cases h4 : wrap64 ((out.getD (out.length - 1) z29).f1 + (out.getD (out.length - 1) z29).f2) = s.f1
          · rw [if_pos h4] at hih ⊢
            exact Ev.pos h4 hih
          · rw [if_neg h4] at hih ⊢
            exact Ev.neg h4 (Ev.pos (by omega) hih)
        · rw [if_neg h3] at hih ⊢
          exact Ev.neg h3 (Ev.pos (by omega) hih)
      · rw [if_neg h1] at hih ⊢
        exact Ev.neg (by omega) (Ev.pos (by omega) hih)
theorem packed_ev (out l : List S29) (h : out.length + l.length < 5864062014805) : Ev (fun k => splice_packed.f k out l) (layAll out l) := packed_l0 l out.length h l [] out rfl (by simp)
def pack (l : List S29) : List S29 := if l.all rt = true then layAll [] l else []
theorem refPack_ev (l : List S29) (h : l.length < 5864062014805) : Ev (fun k => quoinref03_Pack.f k l) (pack l) := by
  unfold pack
  refine Ev.bind (allRight_ev l (by omega)) ?_
  by_cases hr : l.all rt = true
  · rw [if_pos hr]
    exact Ev.pos hr (refPack_l0 l h l [] [] rfl (by simp))
  · rw [if_neg hr]
    exact Ev.neg hr (Ev.now _)
theorem Pack_ev (l : List S29) (h : l.length < 5864062014805) : Ev (fun k => splice_Pack.f k l) (pack l) := by
  unfold pack
  refine Ev.bind (sized_ev l (by omega)) ?_
  by_cases hr : l.all rt = true
  · rw [if_pos hr, if_pos hr]
    exact Ev.pos rfl (Ev.pass (packed_ev [] l (by simpa using h)))
  · rw [if_neg hr, if_neg hr]
    exact Ev.neg (by decide) (Ev.now _)
theorem pack_length (l : List S29) : (pack l).length ≤ l.length := by
  unfold pack
  split
  · simpa using layAll_length [] l
  · simp

theorem same_l0 (l : List S29) (hl : l.length ≤ 9000000000000000) : ∀ (suf pre : List S29), l = pre ++ suf →
    Ev (fun k => quoinlaw03_same.l0 k l l (pre.length : Int)) true := by
  intro suf
  induction suf with
  | nil =>
    intro pre h
    subst h
    refine Ev.step (fun k => rfl) (Ev.neg (by simp) ?_)
    exact Ev.now _
  | cons s suf ih =>
    intro pre h
    have hn := len_mid pre suf s
    rw [← h] at hn
    have h2 : l = (pre ++ [s]) ++ suf := by rw [h, snoc_eq]
    refine Ev.step (fun k => rfl) (Ev.pos (by omega) (Ev.pos (by omega) (Ev.pos (by omega) (Ev.neg (by simp) ?_))))
    rw [wrap_len pre s (by omega)]
    exact ih (pre ++ [s]) h2
theorem same_ev (l : List S29) (hl : l.length ≤ 9000000000000000) : Ev (fun k => quoinlaw03_same.f k l l) true := by
  refine Ev.pos rfl ?_
  exact same_l0 l hl l [] rfl
end Go.Proofs.Ytjfbchgpmbjfpaa.SP
