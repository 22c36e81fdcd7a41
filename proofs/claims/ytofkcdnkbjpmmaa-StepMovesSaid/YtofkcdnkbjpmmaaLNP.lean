/-
 Lines of a text, plainly, further: what lines.Count, Column, At, Rest, First come to.
-/
import Derived.Test.YtofkcdnkbjpmmaaLN
import Derived.Test.YtofkcdnkbjpmmaaX5
import Derived.Test.YtofkcdnkbjpmmaaX16
import Derived.Test.YtofkcdnkbjpmmaaX10
import Derived.Test.YtofkcdnkbjpmmaaX45
import Derived.Test.YtofkcdnkbjpmmaaX11
import Derived.Test.YtofkcdnkbjpmmaaX15
import Derived.Test.YtofkcdnkbjpmmaaX8
import Derived.Test.YtofkcdnkbjpmmaaX14
import Derived.Test.YtofkcdnkbjpmmaaX13
namespace Go.Proofs.Ytofkcdnkbjpmmaa.LN
open Go.RowKit Go.Proofs.YtofkcdnkbjpmmaaW.PrintWords Go.Proofs.YtofkcdnkbjpmmaaW.PrintMore Go.Proofs.Ytofkcdnkbjpmmaa.X Go.Proofs.Ytofkcdnkbjpmmaa.XL Go.Proofs.Ytofkcdnkbjpmmaa.XO
theorem rd_at (t : List Int) (p : Nat) : rd t (p : Int) = t.getD p 0 := by unfold rd; rw [Int.toNat_natCast]
theorem getD_take {t : List Int} {n j : Nat} (h : j < n) : (t.take n).getD j 0 = t.getD j 0 := by
 rw [List.getD_eq_getElem?_getD, List.getD_eq_getElem?_getD, List.getElem?_take, if_pos h]
/-- The place where the cursor rests, nearest to a place of the text. -/
def rest (t : List Int) (p : Nat) : Nat := if beg t p < p ∧ fin t p = p then p - 1 else p
def clamp (t : List Int) (a : Int) : Nat := (mn (mx a 0) (t.length : Int)).toNat
theorem clamp_le (t : List Int) (a : Int) : clamp t a ≤ t.length := by unfold clamp; rw [mn_eq, mx_eq]; omega
theorem clamp_int (t : List Int) (a : Int) : mn (mx a 0) (t.length : Int) = (clamp t a : Int) := by unfold clamp; rw [mn_eq, mx_eq]; omega
theorem clamp_id {t : List Int} {p : Nat} (h : p ≤ t.length) : clamp t (p : Int) = p := by unfold clamp; rw [mn_eq, mx_eq]; omega
/-- The last column of a line that begins at q, as a place. -/
def last (t : List Int) (q : Nat) : Nat := max q (fin t q - 1)
def atV (t : List Int) (q : Nat) (c : Int) : Int := if c = -1 then (last t q : Int) else if c > (last t q : Int) - q then (last t q : Int) else (q : Int) + c
def atR (t : List Int) (n c : Int) : Int × Int := if (startR t n).2 = 0 then (if c < -1 then (0, 2) else (atV t (startR t n).1.toNat c, 0)) else (0, 2)
def colR (t : List Int) (a : Int) : Int × Int := if 0 ≤ a ∧ a ≤ t.length then (a - beg t a.toNat, 0) else (0, 2)
/-- Behind the blanks, at most d of them. -/
def skip (t : List Int) (i : Nat) : Nat → Nat
 | 0 => i
 | d + 1 => if t.getD i 0 = 32 then skip t (i + 1) d else if t.getD i 0 = 9 then skip t (i + 1) d else i
def firstV (t : List Int) (q : Nat) : Nat := if skip t q (fin t q - q) < fin t q then skip t q (fin t q - q) else last t q
def firstR (t : List Int) (n : Int) : Int × Int := if (startR t n).2 = 0 then ((firstV t (startR t n).1.toNat : Int), 0) else (0, (startR t n).2)
theorem startR_cases (t : List Int) (n : Int) : (startR t n = (0, 2)) ∨ ∃ q : Nat, q ≤ t.length ∧ isSt t q ∧ startR t n = ((q : Int), 0) ∧ 0 ≤ n ∧ cnt 10 (t.take q) = n := by
 unfold startR
 by_cases h : n < 0
 ·rw [if_pos h]; exact .inl rfl
 ·rw [if_neg h]
  cases e : sg t 0 n.toNat with
  | none => exact .inl rfl
  | some q =>
   obtain ⟨h1, _, h3, h4⟩ := sg_some (Nat.zero_le _) (.inl rfl) e
   rw [show cnt 10 (t.take 0) = 0 from rfl] at h4
   exact .inr ⟨q, h3, h1, rfl, by omega, by omega⟩
section
variable {t : List Int}
theorem Lib_l0 {t : List Int} (hl : t.length ≤ 140737488355328) (p : Nat) (hp : p ≤ t.length) : ∀ j, j ≤ p → (∀ i, j ≤ i → i < p → t.getD i 0 ≠ 10) → Ev (fun k => bytealg_LastIndexByte.l0 k (t.take p) 10 ((j : Int) - 1)) ((beg t p : Int) - 1) := by
 intro j
 have hlen : (t.take p).length = p := by rw [List.length_take]; omega
 induction j with
 | zero =>
  intro _ hn
  have e : beg t p = 0 := (beg_unique (Nat.zero_le _) (.inl rfl) (fun i h1 h2 => hn i h1 h2)).symm
  rw [e]
  exact Ev.step (fun _ => rfl) (Ev.neg (by omega) (Ev.eq (Ev.now _) (by omega)))
 | succ j ih =>
  intro hj hn
  refine Ev.step (f := fun k => if ((j + 1 : Nat) : Int) - 1 ≥ 0 then (if 0 ≤ ((j + 1 : Nat) : Int) - 1 then (if ((j + 1 : Nat) : Int) - 1 < ((t.take p).length : Int) then (if (rd (t.take p) (((j + 1 : Nat) : Int) - 1)) = 10 then (some (((j + 1 : Nat) : Int) - 1)) else (bytealg_LastIndexByte.l0 k (t.take p) 10 (wrap64 (((j + 1 : Nat) : Int) - 1 - 1)))) else (none)) else (none)) else (some (-1))) (fun _ => rfl) (Ev.pos (by omega) (Ev.pos (by omega) (Ev.pos (by omega) ?_)))
  rw [show ((j + 1 : Nat) : Int) - 1 = (j : Int) from by omega, rd_at, getD_take (by omega), wrap64_id (n := (j : Int) - 1) (by omega) (by omega)]
  by_cases hx : t.getD j 0 = 10
  ·have e : j + 1 = beg t p := beg_unique hj (.inr hx) (fun i h1 h2 => hn i h1 h2)
   exact Ev.pos hx (Ev.eq (Ev.now _) (by omega))
  ·refine Ev.neg hx (ih (by omega) (fun i h1 h2 => ?_))
   rcases Nat.lt_or_eq_of_le h1 with h | h
   ·exact hn i h h2
   ·rw [← h]; exact hx
theorem head_ev (hl : t.length ≤ 140737488355328) {p : Nat} (hp : p ≤ t.length) : Ev (fun k => lines_head.f k t (p : Int)) (beg t p : Int) := by
 have hb := beg_le t p
 have hlen : (t.take p).length = p := by rw [List.length_take]; omega
 have h := Lib_l0 hl p hp p (Nat.le_refl _) (fun i h1 h2 => by omega)
 have h2 : Ev (fun k => bytes_LastIndexByte.f k (t.take p) 10) ((beg t p : Int) - 1) := by
  refine Ev.pass ?_
  unfold bytealg_LastIndexByte.f
  rw [hlen, wrap64_id (n := (p : Int) - 1) (by omega) (by omega)]
  exact h
 unfold lines_head.f
 rw [Int.toNat_natCast]
 refine Ev.pos (by omega) (Ev.pos (by omega) (Ev.done h2 ?_))
 rw [wrap64_id (by omega) (by omega)]
 omega
theorem Column_ev (hl : t.length ≤ 140737488355328) (a : Int) : Ev (fun k => lines_Column.f k t a) (colR t a) := by
 unfold colR lines_Column.f lines_has.f
 by_cases h0 : a ≥ 0
 ·rw [if_pos h0]
  by_cases h1 : a ≤ (t.length : Int)
  ·rw [if_pos ⟨h0, h1⟩, decide_eq_true h1]
   obtain ⟨p, rfl⟩ := Int.eq_ofNat_of_zero_le h0
   have hb := beg_le t p
   refine Ev.cbind rfl (Ev.pos rfl (Ev.done (head_ev hl (p := p) (by omega)) ?_))
   rw [wrap64_id (by omega) (by omega), Int.toNat_natCast]
  ·rw [if_neg (fun h => h1 h.2), decide_eq_false h1]
   exact Ev.cbind rfl (Ev.neg (by decide) (Ev.now _))
 ·rw [if_neg h0, if_neg (fun h => h0 h.1)]
  exact Ev.cbind rfl (Ev.neg (by decide) (Ev.now _))
section
variable (hu : u8s t = true) (hl : t.length ≤ 140737488355328)
include hu hl
theorem At_j0 {q : Nat} (hq : q ≤ t.length) (c : Int) (hc : -1 ≤ c) : Ev (fun k => lines_At.j0 k t c (q : Int) false) (atV t q c, 0) := by
 have hf := fin_ge t q
 have hf2 := fin_le hq
 have e1 : mx (q : Int) (wrap64 ((fin t q : Int) - 1)) = (last t q : Int) := by
  rw [mx_eq, wrap64_id (by omega) (by omega)]
  unfold last
  omega
 have e2 : wrap64 ((last t q : Int) - q) = (last t q : Int) - q := by
  unfold last
  exact wrap64_id (by omega) (by omega)
 refine Ev.step (f := fun _ => (lines_tail.f t (q : Int)).bind fun t117 => (if c = (-1) then (some (mx (q : Int) (wrap64 (t117 - 1)), 0)) else (if c > (wrap64 ((mx (q : Int) (wrap64 (t117 - 1))) - (q : Int))) then (some (mx (q : Int) (wrap64 (t117 - 1)), 0)) else (some (wrap64 ((q : Int) + c), 0))))) (fun _ => rfl) (Ev.cbind (tail_eq hu hl hq) ?_)
 rw [e1, e2]
 by_cases h1 : c = -1
 ·have hr : atV t q c = (last t q : Int) := by unfold atV; rw [if_pos h1]
  rw [hr]
  exact Ev.pos h1 (Ev.now _)
 ·by_cases h2 : c > (last t q : Int) - q
  ·have hr : atV t q c = (last t q : Int) := by unfold atV; rw [if_neg h1, if_pos h2]
   rw [hr]
   exact Ev.neg h1 (Ev.pos h2 (Ev.now _))
  ·have hr : atV t q c = (q : Int) + c := by unfold atV; rw [if_neg h1, if_neg h2]
   rw [hr]
   refine Ev.neg h1 (Ev.neg h2 (Ev.const ?_))
   have hla : (last t q : Int) ≤ 140737488355328 := by unfold last; omega
   rw [wrap64_id (by omega) (by omega)]
theorem At_ev (n c : Int) (hn : n ≤ 9223372036854775807) : Ev (fun k => lines_At.f k t n c) (atR t n c) := by
 refine Ev.bind (Start_ev hu hl n hn) ?_
 unfold atR
 have bad : Ev (fun k => lines_At.j0 k t c (startR t n).1 true) (0, 2) := Ev.step (f := fun _ => some (0, 2)) (fun _ => rfl) (Ev.now _)
 by_cases h : (startR t n).2 = 0
 ·rw [if_pos h]
  refine Ev.pos h ?_
  by_cases hc : c < -1
  ·rw [if_pos hc, decide_eq_true hc]
   exact bad
  ·rw [if_neg hc, decide_eq_false hc]
   rcases startR_cases t n with e | ⟨q, hq, _, e, _⟩
   ·rw [e] at h; cases h
   ·rw [e]
    exact At_j0 hu hl hq c (by omega)
 ·rw [if_neg h]
  exact Ev.neg h bad
omit hu in
theorem First_l0 (from_ to_ : Nat) (ht : to_ ≤ t.length) : ∀ (d i : Nat), i + d = to_ → Ev (fun k => lines_First.l0 k t (from_ : Int) (to_ : Int) (i : Int)) ((if skip t i d < to_ then (skip t i d : Int) else mx (from_ : Int) (wrap64 ((to_ : Int) - 1))), 0) := by
 intro d
 induction d with
 | zero =>
  intro i hi
  unfold skip
  rw [if_neg (by omega)]
  exact Ev.step (fun _ => rfl) (Ev.neg (by omega) (Ev.now _))
 | succ d ih =>
  intro i hi
  have hw : wrap64 ((i : Int) + 1) = ((i + 1 : Nat) : Int) := by rw [wrap64_id (by omega) (by omega)]; omega
  refine Ev.step (f := fun k => if (i : Int) < (to_ : Int) then (if 0 ≤ (i : Int) then (if (i : Int) < (t.length : Int) then (if (rd t (i : Int)) = 32 then (lines_First.l0 k t (from_ : Int) (to_ : Int) (wrap64 ((i : Int) + 1))) else (if (rd t (i : Int)) = 9 then (lines_First.l0 k t (from_ : Int) (to_ : Int) (wrap64 ((i : Int) + 1))) else (some ((i : Int), 0)))) else (none)) else (none)) else (some (mx (from_ : Int) (wrap64 ((to_ : Int) - 1)), 0))) (fun _ => rfl) ?_
  rw [hw, rd_at]
  clear hw
  refine Ev.pos (by omega) (Ev.pos (by omega) (Ev.pos (by omega) ?_))
  unfold skip
  by_cases h1 : t.getD i 0 = 32
  ·rw [if_pos h1]
   exact Ev.pos h1 (ih (i + 1) (by omega))
  ·rw [if_neg h1]
   by_cases h2 : t.getD i 0 = 9
   ·rw [if_pos h2]
    exact Ev.neg h1 (Ev.pos h2 (ih (i + 1) (by omega)))
   ·rw [if_neg h2, if_pos (by omega)]
    exact Ev.neg h1 (Ev.neg h2 (Ev.now _))
theorem First_ev (n : Int) (hn : n ≤ 9223372036854775807) : Ev (fun k => lines_First.f k t n) (firstR t n) := by
 refine Ev.bind (Start_ev hu hl n hn) ?_
 unfold firstR
 by_cases h : (startR t n).2 = 0
 ·rw [if_pos h]
  refine Ev.pos h ?_
  rcases startR_cases t n with e | ⟨q, hq, _, e, _⟩
  ·rw [e] at h; cases h
  ·rw [e]
   have hf := fin_ge t q
   have hf2 := fin_le hq
   refine Ev.cbind (tail_eq hu hl hq) (Ev.eq (First_l0 hl q (fin t q) hf2 (fin t q - q) q (by omega)) ?_)
   simp only [Int.toNat_natCast]
   unfold firstV
   by_cases hs : skip t q (fin t q - q) < fin t q
   ·rw [if_pos hs, if_pos hs]
   ·rw [if_neg hs, if_neg hs, mx_eq, wrap64_id (by omega) (by omega)]
    unfold last
    congr 1
    omega
 ·rw [if_neg h]
  exact Ev.neg h (Ev.now _)
theorem Count_eq : lines_Count.f t = some (cnt 10 t + 1) := by
 have h0 := cnt_nonneg 10 t
 have h1 := cnt_le 10 t
 unfold lines_Count.f bytes_Count.f
 rw [hu]
 simp only [show u8s [10] = true from rfl, Bool.and_self, if_true, List.length_cons, List.length_nil, Option.bind_some]
 rw [show rd [10] 0 = 10 from rfl, wrap64_id (by omega) (by omega)]
end
end
end Go.Proofs.Ytofkcdnkbjpmmaa.LN
