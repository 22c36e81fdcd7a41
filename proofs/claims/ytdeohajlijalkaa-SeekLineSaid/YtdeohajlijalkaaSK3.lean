/-
  Layer 9 (seek): the n-th byte told by counts.
-/
import Derived.Test.YtdeohajlijalkaaSK
namespace Go.Proofs.Ytdeohajlijalkaa.SK
open Go.RowKit Go.Proofs.YtdeohajlijalkaaW.PrintWords Go.Proofs.YtdeohajlijalkaaW.PrintMore Go.Proofs.Ytdeohajlijalkaa.X Go.Proofs.Ytdeohajlijalkaa.XL Go.Proofs.Ytdeohajlijalkaa.XO Go.Proofs.Ytdeohajlijalkaa.LN
theorem cnt_succ (b : Int) {t : List Int} {n : Nat} (h : n < t.length) : cnt b (t.take (n + 1)) = cnt b (t.take n) + (if t.getD n 0 = b then 1 else 0) := by
  rw [take_snoc h, cnt_append]
  simp [cnt]
theorem cntb_mono (b : Int) {t : List Int} {p q : Nat} (hp : p ≤ q) (hq : q ≤ t.length) : cnt b (t.take p) ≤ cnt b (t.take q) := by
  obtain ⟨d, rfl⟩ : ∃ d, q = p + d := ⟨q - p, by omega⟩
  induction d with
  | zero => exact Int.le_refl _
  | succ d ih =>
    rw [← Nat.add_assoc, cnt_succ b (by omega)]
    have := ih (by omega) (by omega)
    split <;> omega
theorem nthA_iff {t : List Int} {b : Int} : ∀ {d p n q : Nat}, p + d ≤ t.length → (nthA t b d p n = some q ↔ p ≤ q ∧ q < p + d ∧ t.getD q 0 = b ∧ cnt b (t.take q) = cnt b (t.take p) + n) := by
  intro d
  induction d with
  | zero =>
    intro p n q _
    constructor
    · intro h; cases h
    · intro h; omega
  | succ d ih =>
    intro p n q hl
    have hs := cnt_succ b (t := t) (n := p) (by omega)
    unfold nthA
    by_cases hb : t.getD p 0 = b
    · rw [if_pos hb] at hs ⊢
      by_cases h0 : n = 0
      · rw [if_pos h0]
        subst h0
        constructor
        · intro h
          obtain rfl := Option.some.inj h
          exact ⟨Nat.le_refl _, by omega, hb, by simp⟩
        · intro h
          by_cases hpq : p = q
          · rw [hpq]
          · have := cntb_mono b (t := t) (p := p + 1) (q := q) (by omega) (by omega)
            have h4 := h.2.2.2
            omega
      · rw [if_neg h0, ih (p := p + 1) (n := n - 1) (by omega)]
        constructor
        · rintro ⟨h1, h2, h3, h4⟩
          exact ⟨by omega, by omega, h3, by omega⟩
        · rintro ⟨h1, h2, h3, h4⟩
          by_cases hpq : p = q
          · subst hpq; omega
          · exact ⟨by omega, by omega, h3, by omega⟩
    · rw [if_neg hb] at hs ⊢
      rw [ih (p := p + 1) (n := n) (by omega)]
      constructor
      · rintro ⟨h1, h2, h3, h4⟩
        exact ⟨by omega, by omega, h3, by omega⟩
      · rintro ⟨h1, h2, h3, h4⟩
        by_cases hpq : p = q
        · subst hpq; exact absurd h3 hb
        · exact ⟨by omega, by omega, h3, by omega⟩
theorem nthB_iff {t : List Int} {b : Int} {s : Nat} : ∀ {d n q : Nat}, s + d ≤ t.length → (nthB t b s d n = some q ↔ s ≤ q ∧ q < s + d ∧ t.getD q 0 = b ∧ cnt b (t.take (s + d)) = cnt b (t.take q) + 1 + n) := by
  intro d
  induction d with
  | zero =>
    intro n q _
    constructor
    · intro h; cases h
    · intro h; omega
  | succ d ih =>
    intro n q hl
    have hs := cnt_succ b (t := t) (n := s + d) (by omega)
    rw [Nat.add_assoc] at hs
    unfold nthB
    by_cases hb : t.getD (s + d) 0 = b
    · rw [if_pos hb] at hs ⊢
      by_cases h0 : n = 0
      · rw [if_pos h0]
        subst h0
        constructor
        · intro h
          obtain rfl := Option.some.inj h
          exact ⟨by omega, by omega, hb, by omega⟩
        · rintro ⟨h1, h2, h3, h4⟩
          by_cases hpq : s + d = q
          · rw [hpq]
          · have h5 := cnt_succ b (t := t) (n := q) (by omega)
            rw [if_pos h3] at h5
            have := cntb_mono b (t := t) (p := q + 1) (q := s + d) (by omega) (by omega)
            omega
      · rw [if_neg h0, ih (n := n - 1) (by omega)]
        constructor
        · rintro ⟨h1, h2, h3, h4⟩
          exact ⟨by omega, by omega, h3, by omega⟩
        · rintro ⟨h1, h2, h3, h4⟩
          by_cases hpq : s + d = q
          · subst hpq; omega
          · exact ⟨by omega, by omega, h3, by omega⟩
    · rw [if_neg hb] at hs ⊢
      rw [ih (n := n) (by omega)]
      constructor
      · rintro ⟨h1, h2, h3, h4⟩
        exact ⟨by omega, by omega, h3, by omega⟩
      · rintro ⟨h1, h2, h3, h4⟩
        by_cases hpq : s + d = q
        · subst hpq; exact absurd h3 hb
        · exact ⟨by omega, by omega, h3, by omega⟩
/-- In one line. -/
theorem same_fin {t : List Int} {a q : Nat} (ha : a ≤ t.length) (h1 : a ≤ q) (h2 : q ≤ fin t a) : fin t q = fin t a := by
  have := fin_le ha
  exact (fin_unique h2 this (fun j h3 h4 => fin_ne (by omega) h4) (fun h => fin_at h)).symm
theorem same_beg {t : List Int} {a q : Nat} (h1 : a ≤ q) (h2 : q ≤ fin t a) : beg t q = beg t a := by
  have := beg_le t a
  refine (beg_unique (by omega) (beg_st t a) (fun j h3 h4 => ?_)).symm
  by_cases hj : j < a
  · exact beg_ne h3 hj
  · exact fin_ne (t := t) (p := a) (by omega) (by omega)
end Go.Proofs.Ytdeohajlijalkaa.SK
