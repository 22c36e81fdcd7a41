/-
  Layer 3 (splice): the bytes of a list of spans; a packed list is told by its bytes.
-/
import Derived.Test.YtjfbchgpmbjfpaaSP2
namespace Go.Proofs.Ytjfbchgpmbjfpaa.SP
open Go.RowKit Go.Proofs.YtjfbchgpmbjfpaaW.PrintWords Go.Proofs.YtjfbchgpmbjfpaaW.PrintMore Go.Proofs.Ytjfbchgpmbjfpaa.X Go.Proofs.Ytjfbchgpmbjfpaa.XL Go.Proofs.Ytjfbchgpmbjfpaa.XO

/-- The byte number i (from 0 on). -/
def byte : List S29 → Int → Option (Int × Int)
  | [], _ => none
  | s :: l, i => if i < s.f2 then some (s.f0, s.f1 + i) else byte l (i - s.f2)
def tot : List S29 → Int
  | [] => 0
  | s :: l => s.f2 + tot l
def follows (s t : S29) : Prop := s.f0 = t.f0 ∧ s.f1 + s.f2 = t.f1
/-- Packed: each has bytes, none follows the one ahead of it. -/
def Pk : List S29 → Prop
  | [] => True
  | s :: l => 1 ≤ s.f2 ∧ (∀ t, l.head? = some t → ¬ follows s t) ∧ Pk l
theorem rt_of {s : S29} (h : rt s = true) : (s.f0 = 0 ∨ s.f0 = 1) ∧ 0 ≤ s.f1 ∧ s.f1 ≤ 2147483647 ∧ 0 ≤ s.f2 ∧ s.f2 ≤ 2147483647 - s.f1 := of_decide_eq_true h
theorem rt_mk {s : S29} (h : (s.f0 = 0 ∨ s.f0 = 1) ∧ 0 ≤ s.f1 ∧ s.f1 ≤ 2147483647 ∧ 0 ≤ s.f2 ∧ s.f2 ≤ 2147483647 - s.f1) : rt s = true := decide_eq_true h
theorem tot_nonneg {l : List S29} (h : l.all rt = true) : 0 ≤ tot l := by
  induction l with
  | nil => simp [tot]
  | cons s l ih =>
    simp only [List.all_cons, Bool.and_eq_true] at h
    have := ih h.2
    have := rt_of h.1
    simp only [tot]
    omega
theorem tot_bound {l : List S29} (h : l.all rt = true) : tot l ≤ 2147483647 * (l.length : Int) := by
  induction l with
  | nil => simp [tot]
  | cons s l ih =>
    simp only [List.all_cons, Bool.and_eq_true] at h
    have := ih h.2
    have := rt_of h.1
    simp only [tot, List.length_cons]
    omega
theorem sumA_tot {l : List S29} (h : l.all rt = true) : ∀ a : Int, 0 ≤ a → a + tot l ≤ 9223372036854775807 → sumA a l = a + tot l := by
  induction l with
  | nil => intro a _ _; simp [sumA, tot]
  | cons s l ih =>
    intro a h0 h1
    simp only [List.all_cons, Bool.and_eq_true] at h
    have h2 := rt_of h.1
    have h3 := tot_nonneg h.2
    simp only [sumA, tot] at h1 ⊢
    rw [wrap64_id (by omega) (by omega), ih h.2 _ (by omega) (by omega)]
    omega
theorem tot_append (l m : List S29) : tot (l ++ m) = tot l + tot m := by
  induction l with
  | nil => simp [tot]
  | cons s l ih => simp only [List.cons_append, tot, ih]; omega
theorem byte_append {l : List S29} (h : l.all rt = true) (m : List S29) : ∀ i : Int, 0 ≤ i → byte (l ++ m) i = if i < tot l then byte l i else byte m (i - tot l) := by
  induction l with
  | nil =>
    intro i hi
    have e : tot [] = 0 := rfl
    rw [if_neg (by omega), e, Int.sub_zero]
    rfl
  | cons s l ih =>
    intro i hi
    have e : tot (s :: l) = s.f2 + tot l := rfl
    simp only [List.all_cons, Bool.and_eq_true] at h
    have h2 := rt_of h.1
    have h3 := tot_nonneg h.2
    simp only [List.cons_append, byte]
    by_cases h1 : i < s.f2
    · rw [if_pos h1, if_pos (by omega), if_pos h1]
    · rw [if_neg h1, ih h.2 _ (by omega)]
      by_cases h4 : i - s.f2 < tot l
      · rw [if_pos h4, if_pos (by omega), if_neg h1]
      · rw [if_neg h4, if_neg (by omega)]
        congr 1
        omega
theorem byte_none {l : List S29} (h : l.all rt = true) : ∀ i : Int, tot l ≤ i → byte l i = none := by
  induction l with
  | nil => intro i _; rfl
  | cons s l ih =>
    intro i hi
    simp only [List.all_cons, Bool.and_eq_true] at h
    have h3 := tot_nonneg h.2
    simp only [byte, tot] at hi ⊢
    rw [if_neg (by omega)]
    exact ih h.2 _ (by omega)
theorem canon : ∀ (l m : List S29), Pk l → Pk m → (∀ i : Int, 0 ≤ i → byte l i = byte m i) → l = m := by
  intro l
  induction l with
  | nil =>
    intro m _ hm h
    cases m with
    | nil => rfl
    | cons t m =>
      have h0 := h 0 (Int.le_refl _)
      simp only [byte] at h0
      rw [if_pos (by have := hm.1; omega)] at h0
      cases h0
  | cons s l ih =>
    intro m hl hm h
    cases m with
    | nil =>
      have h0 := h 0 (Int.le_refl _)
      simp only [byte] at h0
      rw [if_pos (by have := hl.1; omega)] at h0
      cases h0
    | cons t m =>
      have h0 := h 0 (Int.le_refl _)
      simp only [byte] at h0
      have hs := hl.1
      have ht := hm.1
      rw [if_pos (by omega), if_pos (by omega)] at h0
      simp only [Option.some.injEq, Prod.mk.injEq] at h0
      have e2 : s.f2 = t.f2 := by
        by_cases h1 : s.f2 < t.f2
        · exfalso
          have h2 := h s.f2 (by omega)
          simp only [byte] at h2
          rw [if_neg (by omega), if_pos h1] at h2
          cases l with
          | nil => simp only [byte] at h2; cases h2
          | cons u l =>
            have hu := hl.2.2.1
            simp only [byte] at h2
            rw [if_pos (by omega)] at h2
            simp only [Option.some.injEq, Prod.mk.injEq] at h2
            exact hl.2.1 u rfl ⟨by omega, by omega⟩
        · by_cases h3 : t.f2 < s.f2
          · exfalso
            have h2 := h t.f2 (by omega)
            simp only [byte] at h2
            rw [if_pos h3, if_neg (by omega)] at h2
            cases m with
            | nil => simp only [byte] at h2; cases h2
            | cons u m =>
              have hu := hm.2.2.1
              simp only [byte] at h2
              rw [if_pos (by omega)] at h2
              simp only [Option.some.injEq, Prod.mk.injEq] at h2
              exact hm.2.1 u rfl ⟨by omega, by omega⟩
          · omega
      have e : s = t := by
        obtain ⟨a, b, c⟩ := s
        obtain ⟨a', b', c'⟩ := t
        simp only at h0 e2
        simp only [S29.mk.injEq]
        omega
      subst e
      rw [ih m hl.2.2 hm.2.2 (fun i hi => ?_)]
      have h1 := h (i + s.f2) (by omega)
      simp only [byte] at h1
      rw [if_neg (by omega), if_neg (by omega)] at h1
      rwa [show i + s.f2 - s.f2 = i from by omega] at h1
theorem Pk_snoc : ∀ (l : List S29) (t s : S29), Pk (l ++ [t]) → 1 ≤ s.f2 → ¬ follows t s → Pk (l ++ [t] ++ [s]) := by
  intro l
  induction l with
  | nil =>
    intro t s h hs hf
    refine ⟨h.1, fun u hu => ?_, hs, (fun u hu => by cases hu), trivial⟩
    obtain rfl : s = u := by simpa using hu
    exact hf
  | cons a l ih =>
    intro t s h hs hf
    refine ⟨h.1, fun u hu => h.2.1 u ?_, ih t s h.2.2 hs hf⟩
    cases l <;> simpa using hu
theorem Pk_last : ∀ (l : List S29) (t s : S29), Pk (l ++ [t]) → 1 ≤ s.f2 → t.f0 = s.f0 → t.f1 = s.f1 → Pk (l ++ [s]) := by
  intro l
  induction l with
  | nil =>
    intro t s h hs _ _
    exact ⟨hs, (fun u hu => by cases hu), trivial⟩
  | cons a l ih =>
    intro t s h hs h0 h1
    refine ⟨h.1, fun u hu => ?_, ih t s h.2.2 hs h0 h1⟩
    cases l with
    | nil =>
      obtain rfl : s = u := by simpa using hu
      have := h.2.1 t rfl
      unfold follows at this ⊢
      rw [← h0, ← h1]
      exact this
    | cons b l => exact h.2.1 u (by simpa using hu)
theorem snoc_cases (l : List S29) : l = [] ∨ ∃ m t, l = m ++ [t] := by
  rcases List.eq_nil_or_concat l with h | ⟨m, t, h⟩
  · exact .inl h
  · exact .inr ⟨m, t, by simpa using h⟩
theorem lay_spec {l : List S29} {s : S29} (hl : l.all rt = true) (hs : rt s = true) (hp : Pk l) :
    (lay l s).all rt = true ∧ Pk (lay l s) ∧ tot (lay l s) = tot l + s.f2 ∧ ∀ i : Int, 0 ≤ i → byte (lay l s) i = byte (l ++ [s]) i := by
  have h1 := rt_of hs
  unfold lay
  by_cases h0 : s.f2 = 0
  · rw [if_pos h0]
    refine ⟨hl, hp, by omega, fun i hi => ?_⟩
    rw [byte_append hl _ i hi]
    by_cases h2 : i < tot l
    · rw [if_pos h2]
    · rw [if_neg h2, byte_none hl i (by omega)]
      simp only [byte]
      rw [if_neg (by omega)]
  · rw [if_neg h0]
    have hsn : (l ++ [s]).all rt = true := by rw [List.all_append, hl]; simpa using hs
    have htn : tot (l ++ [s]) = tot l + s.f2 := by rw [tot_append]; simp [tot]
    rcases snoc_cases l with rfl | ⟨m, t, rfl⟩
    · rw [if_neg (by simp)]
      exact ⟨hsn, ⟨by omega, (fun u hu => by cases hu), trivial⟩, htn, fun _ _ => rfl⟩
    · have hln : (m ++ [t]).length - 1 = m.length := by simp
      rw [if_pos (by simp), hln, getD_mid m [] t z29]
      have hm : m.all rt = true ∧ rt t = true := by simpa [List.all_append] using hl
      have ht := rt_of hm.2
      by_cases h2 : t.f0 = s.f0
      · rw [if_pos h2, wrap64_id (by omega) (by omega)]
        by_cases h3 : t.f1 + t.f2 = s.f1
        · rw [if_pos h3, wrap64_id (by omega) (by omega), List.set_append_right _ _ (Nat.le_refl _), Nat.sub_self]
          have hr : rt ⟨t.f0, t.f1, t.f2 + s.f2⟩ = true := rt_mk (by simp only; omega)
          refine ⟨by rw [List.all_append, hm.1]; simpa using hr, Pk_last m t _ hp (by simp only; omega) rfl rfl, ?_, fun i hi => ?_⟩
          · rw [tot_append, tot_append]; simp [tot]; omega
          · rw [List.set_cons_zero, byte_append hm.1 _ i hi, List.append_assoc, byte_append hm.1 _ i hi]
            by_cases h4 : i < tot m
            · rw [if_pos h4, if_pos h4]
            · rw [if_neg h4, if_neg h4]
              simp only [List.cons_append, List.nil_append, byte]
              by_cases h5 : i - tot m < t.f2
              · rw [if_pos (by omega), if_pos h5]
              · rw [if_neg h5]
                by_cases h6 : i - tot m < t.f2 + s.f2
                · rw [if_pos h6, if_pos (by omega)]
                  simp only [Option.some.injEq, Prod.mk.injEq]
                  omega
                · rw [if_neg h6, if_neg (by omega)]
        · rw [if_neg h3]
          exact ⟨hsn, Pk_snoc m t s hp (by omega) (fun hf => h3 hf.2), htn, fun _ _ => rfl⟩
      · rw [if_neg h2]
        exact ⟨hsn, Pk_snoc m t s hp (by omega) (fun hf => h2 hf.1), htn, fun _ _ => rfl⟩
theorem byte_append_congr {l l' m : List S29} (hl : l.all rt = true) (hl' : l'.all rt = true) (ht : tot l = tot l') (h : ∀ i : Int, 0 ≤ i → byte l i = byte l' i) (i : Int) (hi : 0 ≤ i) : byte (l ++ m) i = byte (l' ++ m) i := by
  rw [byte_append hl _ i hi, byte_append hl' _ i hi, ht, h i hi]
theorem layAll_spec : ∀ (l out : List S29), out.all rt = true → l.all rt = true → Pk out →
    (layAll out l).all rt = true ∧ Pk (layAll out l) ∧ tot (layAll out l) = tot out + tot l ∧ ∀ i : Int, 0 ≤ i → byte (layAll out l) i = byte (out ++ l) i := by
  intro l
  induction l with
  | nil =>
    intro out ho _ hp
    exact ⟨ho, hp, by simp [tot, layAll], fun i _ => by simp [layAll]⟩
  | cons s l ih =>
    intro out ho hl hp
    simp only [List.all_cons, Bool.and_eq_true] at hl
    obtain ⟨a, b, c, d⟩ := lay_spec ho hl.1 hp
    obtain ⟨a', b', c', d'⟩ := ih (lay out s) a hl.2 b
    have hsn : (out ++ [s]).all rt = true := by rw [List.all_append, ho]; simpa using hl.1
    refine ⟨a', b', by simp only [layAll, tot]; rw [c', c]; omega, fun i hi => ?_⟩
    rw [show layAll out (s :: l) = layAll (lay out s) l from rfl, d' i hi, byte_append_congr a hsn (by rw [c, tot_append]; simp [tot]) d i hi]
    simp
theorem pk_spec {l : List S29} (hl : l.all rt = true) : (layAll [] l).all rt = true ∧ Pk (layAll [] l) ∧ tot (layAll [] l) = tot l ∧ ∀ i : Int, 0 ≤ i → byte (layAll [] l) i = byte l i := by
  obtain ⟨a, b, c, d⟩ := layAll_spec l [] rfl hl trivial
  exact ⟨a, b, by simpa [tot] using c, fun i hi => by simpa using d i hi⟩
/-- The part of the bytes from a to b - 1, the list beginning at p. -/
theorem prt_spec (a b : Int) : ∀ (l : List S29) (p : Int), 0 ≤ p → p + tot l ≤ 9223372036854775807 → l.all rt = true →
    tot (prt a b p l) = max 0 (min b (p + tot l) - max a p) ∧ ∀ i : Int, 0 ≤ i → byte (prt a b p l) i = if i < min b (p + tot l) - max a p then byte l (i + (max a p - p)) else none := by
  intro l
  induction l with
  | nil =>
    intro p _ _ _
    refine ⟨by simp only [prt, tot]; omega, fun i _ => ?_⟩
    simp only [prt, byte]
    split <;> rfl
  | cons s l ih =>
    intro p hp ht h
    simp only [List.all_cons, Bool.and_eq_true] at h
    have h2 := rt_of h.1
    have h3 := tot_nonneg h.2
    simp only [tot] at ht
    obtain ⟨i1, i2⟩ := ih (p + s.f2) (by omega) (by omega) h.2
    unfold prt
    rw [mx_eq, mn_eq, wrap64_id (n := p + s.f2) (by omega) (by omega)]
    have e : tot (s :: l) = s.f2 + tot l := rfl
    rw [e]
    by_cases hc : max a p < min b (p + s.f2)
    · rw [if_pos hc]
      have e1 : wrap64 (wrap64 (s.f1 + max a p) - p) = s.f1 + max a p - p := by unfold wrap64; omega
      have e2 : wrap64 (min b (p + s.f2) - max a p) = min b (p + s.f2) - max a p := by unfold wrap64; omega
      rw [e1, e2]
      refine ⟨by simp only [tot]; rw [i1]; omega, fun i hi => ?_⟩
      simp only [byte]
      by_cases h5 : i < min b (p + s.f2) - max a p
      · rw [if_pos h5, if_pos (by omega), if_pos (by omega)]
        simp only [Option.some.injEq, Prod.mk.injEq, true_and]
        omega
      · rw [if_neg h5, i2 _ (by omega)]
        by_cases h6 : i < min b (p + (s.f2 + tot l)) - max a p
        · rw [if_pos h6, if_pos (by omega), if_neg (by omega)]
          congr 1
          omega
        · rw [if_neg h6, if_neg (by omega)]
    · rw [if_neg hc]
      refine ⟨by rw [i1]; omega, fun i hi => ?_⟩
      rw [i2 i hi]
      by_cases h6 : i < min b (p + (s.f2 + tot l)) - max a p
      · rw [if_pos h6, if_pos (by omega)]
        simp only [byte]
        rw [if_neg (by omega)]
        congr 1
        omega
      · rw [if_neg h6, if_neg (by omega)]
end Go.Proofs.Ytjfbchgpmbjfpaa.SP
