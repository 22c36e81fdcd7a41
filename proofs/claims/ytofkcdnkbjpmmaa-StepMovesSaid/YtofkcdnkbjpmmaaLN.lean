/-
 Lines of a text, plainly: where a line begins (beg), where its bytes end (fin), which line comes n-th (sg); and what lines.Of, Start, End come to.
-/
import Derived.Test.YtofkcdnkbjpmmaaXL
import Derived.Test.YtofkcdnkbjpmmaaXS
import Derived.Test.YtofkcdnkbjpmmaaX4
import Derived.Test.YtofkcdnkbjpmmaaX7
import Derived.Test.YtofkcdnkbjpmmaaX8
import Derived.Test.YtofkcdnkbjpmmaaX9
namespace Go.Proofs.Ytofkcdnkbjpmmaa.LN
open Go.RowKit Go.Proofs.YtofkcdnkbjpmmaaW.PrintWords Go.Proofs.YtofkcdnkbjpmmaaW.PrintMore Go.Proofs.Ytofkcdnkbjpmmaa.X Go.Proofs.Ytofkcdnkbjpmmaa.XL Go.Proofs.Ytofkcdnkbjpmmaa.XO

theorem u8s_iff {l : List Int} : u8s l = true ↔ ∀ x ∈ l, 0 ≤ x ∧ x ≤ 255 := by
 unfold u8s
 rw [List.all_eq_true]
 constructor
 ·intro h x hx; exact of_decide_eq_true (h x hx)
 ·intro h x hx; exact decide_eq_true (h x hx)
theorem u8s_ok {B : Nat} {l : List Int} (h : okSl B okU8 l) : u8s l = true := u8s_iff.2 (fun x hx => h.2 x hx)
theorem u8s_take {l : List Int} (h : u8s l = true) (n : Nat) : u8s (l.take n) = true := u8s_iff.2 (fun x hx => u8s_iff.1 h x (List.mem_of_mem_take hx))
theorem u8s_drop {l : List Int} (h : u8s l = true) (n : Nat) : u8s (l.drop n) = true := u8s_iff.2 (fun x hx => u8s_iff.1 h x (List.mem_of_mem_drop hx))
theorem cnt_nonneg (c : Int) (l : List Int) : 0 ≤ cnt c l := by
 induction l with
 | nil => simp [cnt]
 | cons x l ih => simp only [cnt]; split <;> omega
theorem cnt_append (c : Int) (l m : List Int) : cnt c (l ++ m) = cnt c l + cnt c m := by
 induction l with
 | nil => simp [cnt]
 | cons x l ih => simp only [List.cons_append, cnt, ih]; omega
theorem cnt_le (c : Int) (l : List Int) : cnt c l ≤ (l.length : Int) := by
 induction l with
 | nil => simp [cnt]
 | cons x l ih => simp only [cnt, List.length_cons]; split <;> omega
theorem take_snoc {t : List Int} {n : Nat} (h : n < t.length) : t.take (n + 1) = t.take n ++ [t.getD n 0] := by
 rw [List.take_succ_eq_append_getElem h, List.getD_eq_getElem?_getD, List.getElem?_eq_getElem h]; rfl
theorem cnt_take_succ {t : List Int} {n : Nat} (h : n < t.length) : cnt 10 (t.take (n + 1)) = cnt 10 (t.take n) + (if t.getD n 0 = 10 then 1 else 0) := by
 rw [take_snoc h, cnt_append]
 simp [cnt]
/-- Bytes ahead of the first line end. -/
def run10 : List Int → Nat
 | [] => 0
 | x :: l => if x = 10 then 0 else run10 l + 1
theorem run10_le (l : List Int) : run10 l ≤ l.length := by
 induction l with
 | nil => simp [run10]
 | cons x l ih => simp only [run10]; split <;> simp; omega
theorem run10_at {l : List Int} (h : run10 l < l.length) : l.getD (run10 l) 0 = 10 := by
 induction l with
 | nil => simp at h
 | cons x l ih =>
  simp only [run10] at h ⊢
  split
  ·rename_i e; simpa using e
  ·rename_i e
   rw [if_neg e] at h
   simpa using ih (by simpa using h)
theorem run10_ne {l : List Int} {j : Nat} (h : j < run10 l) : l.getD j 0 ≠ 10 := by
 induction l generalizing j with
 | nil => simp [run10] at h
 | cons x l ih =>
  simp only [run10] at h
  split at h
  ·omega
  ·rename_i e
   cases j with
   | zero => simpa using e
   | succ j => simpa using ih (j := j) (by omega)
theorem idx_run (l : List Int) : idx 10 l = if run10 l < l.length then (run10 l : Int) else -1 := by
 induction l with
 | nil => simp [idx, run10]
 | cons x l ih =>
  by_cases e : x = 10
  ·simp [idx, run10, e]
  ·have e1 : run10 (x :: l) = run10 l + 1 := by simp [run10, e]
   have e2 : idx 10 (x :: l) = if idx 10 l = -1 then -1 else idx 10 l + 1 := by simp [idx, e]
   rw [e1, e2, ih]
   by_cases h : run10 l < l.length
   ·rw [if_pos h, if_neg (by omega), if_pos (by simp; omega)]
    simp
   ·rw [if_neg h, if_pos rfl, if_neg (by simp; omega)]
/-- The end of the bytes of the line of a place. -/
def fin (t : List Int) (p : Nat) : Nat := p + run10 (t.drop p)
theorem fin_ge (t : List Int) (p : Nat) : p ≤ fin t p := Nat.le_add_right _ _
theorem fin_le {t : List Int} {p : Nat} (h : p ≤ t.length) : fin t p ≤ t.length := by
 have := run10_le (t.drop p)
 rw [List.length_drop] at this
 unfold fin
 omega
theorem getD_drop (t : List Int) (p j : Nat) : (t.drop p).getD j 0 = t.getD (p + j) 0 := by
 rw [List.getD_eq_getElem?_getD, List.getD_eq_getElem?_getD, List.getElem?_drop]
theorem fin_at {t : List Int} {p : Nat} (h : fin t p < t.length) : t.getD (fin t p) 0 = 10 := by
 have h1 : run10 (t.drop p) < (t.drop p).length := by rw [List.length_drop]; unfold fin at h; omega
 have h2 := run10_at h1
 rwa [getD_drop] at h2
theorem fin_ne {t : List Int} {p j : Nat} (h1 : p ≤ j) (h2 : j < fin t p) : t.getD j 0 ≠ 10 := by
 have h3 := run10_ne (l := t.drop p) (j := j - p) (by unfold fin at h2; omega)
 rwa [getD_drop, Nat.add_sub_cancel' h1] at h3
theorem fin_unique {t : List Int} {p q : Nat} (hp : p ≤ q) (hq : q ≤ t.length) (h1 : ∀ j, p ≤ j → j < q → t.getD j 0 ≠ 10) (h2 : q < t.length → t.getD q 0 = 10) : q = fin t p := by
 rcases Nat.lt_trichotomy q (fin t p) with h | h | h
 ·have := fin_le (t := t) (p := p) (by omega)
  exact absurd (h2 (by omega)) (fin_ne hp h)
 ·exact h
 ·exact absurd (fin_at (by omega)) (h1 _ (fin_ge t p) h)
/-- Where the line of a place begins. -/
def beg (t : List Int) : Nat → Nat
 | 0 => 0
 | n + 1 => if t.getD n 0 = 10 then n + 1 else beg t n
/-- A line begins there. -/
def isSt (t : List Int) (p : Nat) : Prop := p = 0 ∨ t.getD (p - 1) 0 = 10
theorem beg_le (t : List Int) (n : Nat) : beg t n ≤ n := by
 induction n with
 | zero => simp [beg]
 | succ n ih => simp only [beg]; split <;> omega
theorem beg_st (t : List Int) (n : Nat) : isSt t (beg t n) := by
 induction n with
 | zero => exact .inl rfl
 | succ n ih =>
  simp only [beg]
  split
  ·rename_i e; exact .inr (by simpa using e)
  ·exact ih
theorem beg_ne {t : List Int} {n j : Nat} (h1 : beg t n ≤ j) (h2 : j < n) : t.getD j 0 ≠ 10 := by
 induction n with
 | zero => omega
 | succ n ih =>
  simp only [beg] at h1
  split at h1
  ·omega
  ·rename_i e
   by_cases hj : j = n
   ·rw [hj]; exact e
   ·exact ih h1 (by omega)
theorem beg_unique {t : List Int} {p q : Nat} (hp : p ≤ q) (h1 : isSt t p) (h2 : ∀ j, p ≤ j → j < q → t.getD j 0 ≠ 10) : p = beg t q := by
 have hb := beg_le t q
 rcases Nat.lt_trichotomy p (beg t q) with h | h | h
 ·rcases beg_st t q with h3 | h3
  ·omega
  ·exact absurd h3 (h2 _ (by omega) (by omega))
 ·exact h
 ·rcases h1 with h3 | h3
  ·omega
  ·exact absurd h3 (beg_ne (t := t) (n := q) (by omega) (by omega))
theorem cnt_same {t : List Int} {p q : Nat} (hp : p ≤ q) (hq : q ≤ t.length) (h : ∀ j, p ≤ j → j < q → t.getD j 0 ≠ 10) : cnt 10 (t.take q) = cnt 10 (t.take p) := by
 obtain ⟨d, rfl⟩ : ∃ d, q = p + d := ⟨q - p, by omega⟩
 induction d with
 | zero => rfl
 | succ d ih =>
  rw [← Nat.add_assoc, cnt_take_succ (by omega), if_neg (h _ (by omega) (by omega)), ih (by omega) (by omega) (fun j h1 h2 => h j h1 (by omega))]
  simp
theorem cnt_mono {t : List Int} {p q : Nat} (hp : p ≤ q) (hq : q ≤ t.length) : cnt 10 (t.take p) ≤ cnt 10 (t.take q) := by
 obtain ⟨d, rfl⟩ : ∃ d, q = p + d := ⟨q - p, by omega⟩
 induction d with
 | zero => exact Int.le_refl _
 | succ d ih =>
  rw [← Nat.add_assoc, cnt_take_succ (by omega)]
  have := ih (by omega) (by omega)
  split <;> omega
theorem beg_fin {t : List Int} {p : Nat} (h : p ≤ t.length) : fin t (beg t p) = fin t p := by
 have hb := beg_le t p
 refine (fin_unique (Nat.le_trans hb (fin_ge t p)) (fin_le h) (fun j h1 h2 => ?_) (fun h1 => fin_at h1)).symm
 by_cases hj : j < p
 ·exact beg_ne h1 hj
 ·exact fin_ne (by omega) h2
theorem cnt_beg {t : List Int} {p : Nat} (h : p ≤ t.length) : cnt 10 (t.take p) = cnt 10 (t.take (beg t p)) := cnt_same (beg_le t p) h (fun _ h1 h2 => beg_ne h1 h2)
/-- The n-th line behind the one that begins at p. -/
def sg (t : List Int) (p : Nat) : Nat → Option Nat
 | 0 => some p
 | n + 1 => if fin t p < t.length then sg t (fin t p + 1) n else none
theorem cnt_next {t : List Int} {p : Nat} (h : fin t p < t.length) : cnt 10 (t.take (fin t p + 1)) = cnt 10 (t.take p) + 1 := by
 rw [cnt_take_succ h, if_pos (fin_at h), cnt_same (fin_ge t p) (by omega) (fun j h1 h2 => fin_ne h1 h2)]
theorem sg_some {t : List Int} : ∀ {n p q : Nat}, p ≤ t.length → isSt t p → sg t p n = some q → isSt t q ∧ p ≤ q ∧ q ≤ t.length ∧ cnt 10 (t.take q) = cnt 10 (t.take p) + n := by
 intro n
 induction n with
 | zero =>
  intro p q hp hs h
  simp only [sg, Option.some.injEq] at h
  subst h
  exact ⟨hs, Nat.le_refl _, hp, by simp⟩
 | succ n ih =>
  intro p q hp hs h
  simp only [sg] at h
  split at h
  ·rename_i hf
   obtain ⟨h1, h2, h3, h4⟩ := ih (by omega) (.inr (by simpa using fin_at hf)) h
   have := fin_ge t p
   exact ⟨h1, by omega, h3, by rw [h4, cnt_next hf]; omega⟩
  ·cases h
theorem sg_of {t : List Int} : ∀ {n p q : Nat}, isSt t p → p ≤ q → q ≤ t.length → isSt t q → cnt 10 (t.take q) = cnt 10 (t.take p) + n → sg t p n = some q := by
 intro n
 induction n with
 | zero =>
  intro p q hs hp hq hsq hc
  simp only [sg, Option.some.injEq]
  rcases Nat.lt_or_eq_of_le hp with h | h
  ·rcases hsq with h1 | h1
   ·omega
   ·have h2 : q - 1 + 1 = q := by omega
    have h3 := cnt_take_succ (t := t) (n := q - 1) (by omega)
    rw [if_pos h1, h2] at h3
    have h4 := cnt_mono (t := t) (p := p) (q := q - 1) (by omega) (by omega)
    omega
  ·exact h
 | succ n ih =>
  intro p q hs hp hq hsq hc
  have hf : fin t p < q := by
   rcases Nat.lt_or_ge (fin t p) q with h | h
   ·exact h
   ·have := cnt_same (t := t) hp hq (fun j h1 h2 => fin_ne h1 (by omega))
    omega
  simp only [sg]
  rw [if_pos (by omega)]
  refine ih (.inr (by simpa using fin_at (by omega))) (by omega) hq hsq ?_
  rw [cnt_next (by omega), hc]
  omega
/-- The line that holds a place. -/
theorem sg_beg {t : List Int} {p : Nat} (h : p ≤ t.length) : sg t 0 (cnt 10 (t.take p)).toNat = some (beg t p) := by
 have hc := cnt_nonneg 10 (t.take p)
 refine sg_of (.inl rfl) (Nat.zero_le _) (Nat.le_trans (beg_le t p) h) (beg_st t p) ?_
 rw [← cnt_beg h]
 simp [cnt]
 omega

section
variable {t : List Int} (hu : u8s t = true)
include hu
theorem Of_eq (at_ : Int) : lines_Of.f t at_ = some (if 0 ≤ at_ ∧ at_ ≤ t.length then (cnt 10 (t.take at_.toNat), 0) else (0, 2)) := by
 unfold lines_Of.f
 by_cases h : 0 ≤ at_ ∧ at_ ≤ (t.length : Int)
 ·have e1 : lines_has.f t at_ = some true := by unfold lines_has.f; rw [if_pos h.1, decide_eq_true h.2]
  rw [e1, if_pos h]
  simp only [Option.bind_some, if_true]
  rw [if_pos h.1, if_pos h.2]
  unfold bytes_Count.f
  rw [u8s_take hu]
  rfl
 ·have e1 : lines_has.f t at_ = some false := by
   unfold lines_has.f
   by_cases h0 : at_ ≥ 0
   ·rw [if_pos h0, decide_eq_false (fun h1 => h ⟨h0, h1⟩)]
   ·rw [if_neg h0]
  rw [e1, if_neg h]
  rfl
theorem IndexByte_eq (n : Nat) : bytes_IndexByte.f (t.drop n) 10 = some (if run10 (t.drop n) < (t.drop n).length then (run10 (t.drop n) : Int) else -1) := by
 unfold bytes_IndexByte.f
 rw [u8s_drop hu, idx_run]
 rfl
end
section
variable {t : List Int} (hu : u8s t = true) (hl : t.length ≤ 140737488355328)
include hu hl
theorem Start_l0 : ∀ (n p : Nat), (n : Int) ≤ 9223372036854775807 → p ≤ t.length → Ev (fun k => lines_Start.l0 k t (n : Int) (p : Int)) (match sg t p n with | some q => ((q : Int), 0) | none => (0, 2)) := by
 intro n
 induction n with
 | zero =>
  intro p _ hp
  exact Ev.step (fun k => rfl) (Ev.neg (by simp) (Ev.now _))
 | succ n ih =>
  intro p hn hp
  refine Ev.step (fun k => rfl) (Ev.pos (by omega) (Ev.pos (by omega) (Ev.pos (by omega) ?_)))
  rw [Int.toNat_natCast]
  refine Ev.cbind (IndexByte_eq hu p) ?_
  have hr := run10_le (t.drop p)
  rw [List.length_drop] at hr ⊢
  simp only [sg]
  by_cases h : run10 (t.drop p) < t.length - p
  ·rw [if_pos h, if_pos (by unfold fin; omega)]
   refine Ev.neg (by omega) ?_
   rw [wrap64_id (n := ((n + 1 : Nat) : Int) - 1) (by omega) (by omega), wrap64_id (n := (run10 (t.drop p) : Int) + 1) (by omega) (by omega), wrap64_id (by omega) (by omega)]
   rw [show ((n + 1 : Nat) : Int) - 1 = (n : Int) from by omega, show (p : Int) + ((run10 (t.drop p) : Int) + 1) = ((fin t p + 1 : Nat) : Int) from by unfold fin; omega]
   exact ih _ (by omega) (by unfold fin; omega)
  ·rw [if_neg h, if_neg (by unfold fin; omega)]
   exact Ev.pos (by omega) (Ev.now _)
def startR (t : List Int) (n : Int) : Int × Int := if n < 0 then (0, 2) else match sg t 0 n.toNat with | some q => ((q : Int), 0) | none => (0, 2)
theorem Start_ev (n : Int) (hn : n ≤ 9223372036854775807) : Ev (fun k => lines_Start.f k t n) (startR t n) := by
 unfold startR
 by_cases h : n < 0
 ·rw [if_pos h]
  exact Ev.pos h (Ev.now _)
 ·rw [if_neg h]
  refine Ev.neg h ?_
  have e : n = (n.toNat : Int) := by omega
  have h1 := Start_l0 hu hl n.toNat 0 (by omega) (Nat.zero_le _)
  rw [← e] at h1
  exact h1
theorem tail_eq {p : Nat} (hp : p ≤ t.length) : lines_tail.f t (p : Int) = some (fin t p : Int) := by
 unfold lines_tail.f
 rw [if_pos (by omega), if_pos (by omega), Int.toNat_natCast, IndexByte_eq hu p]
 simp only [Option.bind_some]
 have hr := run10_le (t.drop p)
 rw [List.length_drop] at hr ⊢
 by_cases h : run10 (t.drop p) < t.length - p
 ·rw [if_pos h, if_pos (by omega), wrap64_id (by omega) (by omega)]
  unfold fin
  simp
 ·rw [if_neg h, if_neg (by omega)]
  unfold fin
  congr 1
  omega
def endR (t : List Int) (n : Int) : Int × Int := if n < 0 then (0, 2) else match sg t 0 n.toNat with | some q => ((fin t q : Nat), 0) | none => (0, 2)
theorem End_ev (n : Int) (hn : n ≤ 9223372036854775807) : Ev (fun k => lines_End.f k t n) (endR t n) := by
 refine Ev.bind (Start_ev hu hl n hn) ?_
 unfold startR endR
 by_cases h : n < 0
 ·rw [if_pos h, if_pos h]
  exact Ev.neg (by decide) (Ev.now _)
 ·rw [if_neg h, if_neg h]
  cases hs : sg t 0 n.toNat with
  | none => exact Ev.neg (by decide) (Ev.now _)
  | some q =>
   have hq := (sg_some (Nat.zero_le _) (.inl rfl) hs).2.2.1
   exact Ev.pos rfl (Ev.cbind (tail_eq hu hl hq) (Ev.now _))
/-- The line that holds a place: where it begins and ends. -/
theorem Start_of {p : Nat} (hp : p ≤ t.length) : Ev (fun k => lines_Start.f k t (cnt 10 (t.take p))) ((beg t p : Int), 0) := by
 have h0 := cnt_nonneg 10 (t.take p)
 have h1 := cnt_le 10 (t.take p)
 have h2 := List.length_take_le p t
 refine Ev.eq (Start_ev hu hl _ (by omega)) ?_
 unfold startR
 rw [if_neg (by omega), sg_beg hp]
theorem End_of {p : Nat} (hp : p ≤ t.length) : Ev (fun k => lines_End.f k t (cnt 10 (t.take p))) ((fin t p : Int), 0) := by
 have h0 := cnt_nonneg 10 (t.take p)
 have h1 := cnt_le 10 (t.take p)
 have h2 := List.length_take_le p t
 refine Ev.eq (End_ev hu hl _ (by omega)) ?_
 unfold endR
 rw [if_neg (by omega), sg_beg hp]
 simp only
 rw [beg_fin hp]
end
end Go.Proofs.Ytofkcdnkbjpmmaa.LN
