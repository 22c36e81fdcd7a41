/-
 The second account's lines, plainly: what quoinref05's Count, Start, End, Of, Column, At, Rest, First come to.
-/
import Derived.Test.YtofkcdnkbjpmmaaLNP
import Derived.Test.YtofkcdnkbjpmmaaX26
import Derived.Test.YtofkcdnkbjpmmaaX28
import Derived.Test.YtofkcdnkbjpmmaaX29
import Derived.Test.YtofkcdnkbjpmmaaX27
import Derived.Test.YtofkcdnkbjpmmaaX34
import Derived.Test.YtofkcdnkbjpmmaaX30
import Derived.Test.YtofkcdnkbjpmmaaX36
import Derived.Test.YtofkcdnkbjpmmaaX32
import Derived.Test.YtofkcdnkbjpmmaaX33
namespace Go.Proofs.Ytofkcdnkbjpmmaa.LN
open Go.RowKit Go.Proofs.YtofkcdnkbjpmmaaW.PrintWords Go.Proofs.YtofkcdnkbjpmmaaW.PrintMore Go.Proofs.Ytofkcdnkbjpmmaa.X Go.Proofs.Ytofkcdnkbjpmmaa.XL Go.Proofs.Ytofkcdnkbjpmmaa.XO
section
variable {t : List Int} (hl : t.length ≤ 140737488355328)
include hl
theorem refStart_l0 : ∀ (d p n : Nat), p + d = t.length → ((n : Int) + 1) ≤ 9223372036854775807 →
  Ev (fun k => quoinref05_Start.l0 k t ((n : Int) + 1) (p : Int)) (match sg t p (n + 1) with | some q => ((q : Int), 0) | none => (0, 2)) := by
 intro d
 induction d with
 | zero =>
  intro p n hp hn
  have hf := fin_ge t p
  have e : sg t p (n + 1) = none := by unfold sg; rw [if_neg (by omega)]
  rw [e]
  exact Ev.step (fun k => rfl) (Ev.neg (by omega) (Ev.now _))
 | succ d ih =>
  intro p n hp hn
  refine Ev.step (f := fun k => if (p : Int) < (t.length : Int) then (if 0 ≤ (p : Int) then (if (rd t (p : Int)) = 10 then (if (wrap64 (((n : Int) + 1) - 1)) = 0 then (some (wrap64 ((p : Int) + 1), 0)) else (quoinref05_Start.l0 k t (wrap64 (((n : Int) + 1) - 1)) (wrap64 ((p : Int) + 1)))) else (quoinref05_Start.l0 k t ((n : Int) + 1) (wrap64 ((p : Int) + 1)))) else (none)) else (some (0, 2))) (fun k => rfl) (Ev.pos (by omega) (Ev.pos (by omega) ?_))
  rw [rd_at, wrap64_id (n := (n : Int) + 1 - 1) (by omega) (by omega), wrap64_id (n := (p : Int) + 1) (by omega) (by omega), show (p : Int) + 1 = ((p + 1 : Nat) : Int) from by omega]
  by_cases hx : t.getD p 0 = 10
  ·have hf : p = fin t p := fin_unique (Nat.le_refl _) (by omega) (fun j h1 h2 => by omega) (fun _ => hx)
   have e : sg t p (n + 1) = sg t (p + 1) n := by
    conv => lhs; unfold sg
    rw [← hf, if_pos (by omega)]
   rw [e]
   refine Ev.pos hx ?_
   cases n with
   | zero => exact Ev.pos (by simp) (Ev.now _)
   | succ n =>
    refine Ev.neg (by omega) ?_
    rw [show ((n + 1 : Nat) : Int) + 1 - 1 = (n : Int) + 1 from by omega]
    exact ih (p + 1) n (by omega) (by omega)
  ·have h0 := fin_ge t p
   have h1 : fin t p ≠ p := fun h => hx (by have := fin_at (t := t) (p := p) (by omega); rwa [h] at this)
   have hf : fin t p = fin t (p + 1) := fin_unique (by omega) (fin_le (by omega)) (fun j h1 h2 => fin_ne (by omega) h2) (fun h => fin_at h)
   have e : sg t p (n + 1) = sg t (p + 1) (n + 1) := by
    conv => lhs; unfold sg
    conv => rhs; unfold sg
    rw [hf]
   rw [e]
   exact Ev.neg hx (ih (p + 1) n (by omega) hn)
theorem refStart_ev (n : Int) (hn : n ≤ 9223372036854775807) : Ev (fun k => quoinref05_Start.f k t n) (startR t n) := by
 unfold startR
 by_cases h : n < 0
 ·rw [if_pos h]
  exact Ev.pos h (Ev.now _)
 ·rw [if_neg h]
  refine Ev.neg h ?_
  by_cases h0 : n = 0
  ·subst h0
   exact Ev.pos rfl (Ev.now _)
  ·refine Ev.neg h0 ?_
   have h1 := refStart_l0 hl t.length 0 (n.toNat - 1) (by omega) (by omega)
   rw [show ((n.toNat - 1 : Nat) : Int) + 1 = n from by omega, show n.toNat - 1 + 1 = n.toNat from by omega] at h1
   exact h1
end
theorem refCount_l0 {t : List Int} (hl : t.length ≤ 140737488355328) : ∀ (d p : Nat) (c : Int), p + d = t.length → 0 ≤ c → c ≤ (p : Int) + 1 →
  Ev (fun k => quoinref05_Count.l0 k t c (p : Int)) (c + cnt 10 (t.drop p)) := by
 intro d
 induction d with
 | zero =>
  intro p c hp h0 h1
  rw [List.drop_eq_nil_of_le (by omega)]
  exact Ev.step (fun k => rfl) (Ev.neg (by omega) (Ev.eq (Ev.now _) (by simp [cnt])))
 | succ d ih =>
  intro p c hp h0 h1
  refine Ev.step (f := fun k => if (p : Int) < (t.length : Int) then (if 0 ≤ (p : Int) then (if (rd t (p : Int)) = 10 then (quoinref05_Count.l0 k t (wrap64 (c + 1)) (wrap64 ((p : Int) + 1))) else (quoinref05_Count.l0 k t c (wrap64 ((p : Int) + 1)))) else (none)) else (some c)) (fun k => rfl) (Ev.pos (by omega) (Ev.pos (by omega) ?_))
  rw [rd_at, wrap64_id (n := (p : Int) + 1) (by omega) (by omega), wrap64_id (n := c + 1) (by omega) (by omega), show (p : Int) + 1 = ((p + 1 : Nat) : Int) from by omega]
  have hd : t.drop p = t.getD p 0 :: t.drop (p + 1) := by
   rw [List.drop_eq_getElem_cons (by omega : p < t.length), List.getD_eq_getElem?_getD, List.getElem?_eq_getElem (by omega)]
   rfl
  rw [hd]
  by_cases hx : t.getD p 0 = 10
  ·refine Ev.pos hx (Ev.eq (ih (p + 1) (c + 1) (by omega) (by omega) (by omega)) ?_)
   simp only [cnt]
   rw [if_pos hx]
   omega
  ·refine Ev.neg hx (Ev.eq (ih (p + 1) c (by omega) (by omega) (by omega)) ?_)
   simp only [cnt]
   rw [if_neg hx]
   omega
/-- The number of a place's line. -/
def ofR (t : List Int) (a : Int) : Int × Int := if 0 ≤ a ∧ a ≤ t.length then (cnt 10 (t.take a.toNat), 0) else (0, 2)
theorem refOf_ev {t : List Int} (hl : t.length ≤ 140737488355328) (a : Int) : Ev (fun k => quoinref05_Of.f k t a) (ofR t a) := by
 unfold ofR
 by_cases h0 : a < 0
 ·rw [if_neg (by omega)]
  exact Ev.pos h0 (Ev.now _)
 ·by_cases h1 : a > (t.length : Int)
  ·rw [if_neg (by omega)]
   exact Ev.neg h0 (Ev.pos h1 (Ev.now _))
  ·rw [if_pos (by omega)]
   have hlen : (t.take a.toNat).length = a.toNat := by rw [List.length_take]; omega
   have h2 := refCount_l0 (t := t.take a.toNat) (by omega) a.toNat 0 1 (by omega) (by omega) (by omega)
   rw [List.drop_zero] at h2
   have h3 := cnt_nonneg 10 (t.take a.toNat)
   have h4 := cnt_le 10 (t.take a.toNat)
   refine Ev.neg h0 (Ev.neg h1 (Ev.pos (by omega) (Ev.pos (by omega) (Ev.bind h2 (Ev.eq (Ev.now _) ?_)))))
   rw [wrap64_id (by omega) (by omega)]
   congr 1
   omega
section
variable {t : List Int} (hl : t.length ≤ 140737488355328)
include hl
theorem refCount_ev : Ev (fun k => quoinref05_Count.f k t) (cnt 10 t + 1) := by
 have h := refCount_l0 hl t.length 0 1 (by omega) (by omega) (by omega)
 rw [List.drop_zero, Int.add_comm] at h
 exact h
theorem refEnd_l0 : ∀ (d p : Nat), p + d = t.length → Ev (fun k => quoinref05_End.l0 k t (p : Int)) ((fin t p : Int), 0) := by
 intro d
 induction d with
 | zero =>
  intro p hp
  have h1 := fin_ge t p
  have h2 := fin_le (t := t) (p := p) (by omega)
  have e : fin t p = p := by omega
  rw [e]
  exact Ev.step (fun _ => rfl) (Ev.neg (by omega) (Ev.now _))
 | succ d ih =>
  intro p hp
  have hw : wrap64 ((p : Int) + 1) = ((p + 1 : Nat) : Int) := by rw [wrap64_id (by omega) (by omega)]; omega
  refine Ev.step (f := fun k => if (p : Int) < (t.length : Int) then (if 0 ≤ (p : Int) then (if (rd t (p : Int)) = 10 then (some ((p : Int), 0)) else (quoinref05_End.l0 k t (wrap64 ((p : Int) + 1)))) else (none)) else (some ((p : Int), 0))) (fun _ => rfl) ?_
  rw [hw, rd_at]
  clear hw
  refine Ev.pos (by omega) (Ev.pos (by omega) ?_)
  by_cases hx : t.getD p 0 = 10
  ·have e : p = fin t p := fin_unique (Nat.le_refl _) (by omega) (fun j h1 h2 => by omega) (fun _ => hx)
   rw [← e]
   exact Ev.pos hx (Ev.now _)
  ·have h0 := fin_ge t p
   have h1 : fin t p ≠ p := fun h => hx (by have := fin_at (t := t) (p := p) (by omega); rwa [h] at this)
   have hf : fin t p = fin t (p + 1) := fin_unique (by omega) (fin_le (by omega)) (fun j h1 h2 => fin_ne (by omega) h2) (fun h => fin_at h)
   rw [hf]
   exact Ev.neg hx (ih (p + 1) (by omega))
theorem refEnd_ev (n : Int) (hn : n ≤ 9223372036854775807) : Ev (fun k => quoinref05_End.f k t n) (endR t n) := by
 refine Ev.bind (refStart_ev hl n hn) ?_
 unfold endR startR
 by_cases h : n < 0
 ·rw [if_pos h, if_pos h]
  exact Ev.neg (by decide) (Ev.now _)
 ·rw [if_neg h, if_neg h]
  cases hs : sg t 0 n.toNat with
  | none => exact Ev.neg (by decide) (Ev.now _)
  | some q =>
   have hq := (sg_some (Nat.zero_le _) (.inl rfl) hs).2.2.1
   exact Ev.pos rfl (refEnd_l0 hl (t.length - q) q (by omega))
theorem begin_ev : ∀ p : Nat, p ≤ t.length → Ev (fun k => quoinref05_begin.f k t (p : Int)) (beg t p : Int) := by
 intro p
 induction p with
 | zero =>
  intro _
  have e : beg t 0 = 0 := by have := beg_le t 0; omega
  rw [e]
  exact Ev.step (f := fun k => if ((0 : Nat) : Int) > 0 then (if 0 ≤ (wrap64 (((0 : Nat) : Int) - 1)) then (if (wrap64 (((0 : Nat) : Int) - 1)) < (t.length : Int) then (if (rd t (wrap64 (((0 : Nat) : Int) - 1))) = 10 then (some ((0 : Nat) : Int)) else (quoinref05_begin.l0 k t (wrap64 (((0 : Nat) : Int) - 1)))) else (none)) else (none)) else (some ((0 : Nat) : Int))) (fun _ => rfl) (Ev.neg (by omega) (Ev.now _))
 | succ p ih =>
  intro hp
  have hw : wrap64 (((p + 1 : Nat) : Int) - 1) = (p : Int) := by rw [wrap64_id (by omega) (by omega)]; omega
  refine Ev.step (f := fun k => if ((p + 1 : Nat) : Int) > 0 then (if 0 ≤ (wrap64 (((p + 1 : Nat) : Int) - 1)) then (if (wrap64 (((p + 1 : Nat) : Int) - 1)) < (t.length : Int) then (if (rd t (wrap64 (((p + 1 : Nat) : Int) - 1))) = 10 then (some ((p + 1 : Nat) : Int)) else (quoinref05_begin.l0 k t (wrap64 (((p + 1 : Nat) : Int) - 1)))) else (none)) else (none)) else (some ((p + 1 : Nat) : Int))) (fun _ => rfl) ?_
  rw [hw, rd_at]
  clear hw
  refine Ev.pos (by omega) (Ev.pos (by omega) (Ev.pos (by omega) ?_))
  by_cases hx : t.getD p 0 = 10
  ·have e : p + 1 = beg t (p + 1) := beg_unique (Nat.le_refl _) (.inr hx) (fun j h1 h2 => by omega)
   rw [← e]
   exact Ev.pos hx (Ev.now _)
  ·have e : beg t p = beg t (p + 1) := beg_unique (by have := beg_le t p; omega) (beg_st t p) (fun j h1 h2 => by
    by_cases hj : j < p
    ·exact beg_ne h1 hj
    ·obtain rfl : j = p := by omega
     exact hx)
   rw [← e]
   exact Ev.neg hx (ih (by omega))
theorem refColumn_ev (a : Int) : Ev (fun k => quoinref05_Column.f k t a) (colR t a) := by
 by_cases h0 : a < 0
 ·have e : colR t a = (0, 2) := by unfold colR; rw [if_neg (by omega)]
  rw [e]
  exact Ev.pos h0 (Ev.now _)
 ·by_cases h1 : a > (t.length : Int)
  ·have e : colR t a = (0, 2) := by unfold colR; rw [if_neg (by omega)]
   rw [e]
   exact Ev.neg h0 (Ev.pos h1 (Ev.now _))
  ·obtain ⟨p, rfl⟩ := Int.eq_ofNat_of_zero_le (a := a) (by omega)
   have e : colR t (p : Int) = ((p : Int) - beg t p, 0) := by unfold colR; rw [if_pos (by omega), Int.toNat_natCast]
   have hb := beg_le t p
   rw [e]
   refine Ev.neg h0 (Ev.neg h1 (Ev.done (begin_ev hl p (by omega)) ?_))
   rw [wrap64_id (by omega) (by omega)]
theorem refRest_ev (a : Int) : Ev (fun k => quoinref05_Rest.f k t a) (rest t (clamp t a) : Int) := by
 unfold quoinref05_Rest.f
 rw [clamp_int]
 have hp := clamp_le t a
 generalize clamp t a = p at hp
 have hb := beg_le t p
 have hf := fin_ge t p
 have hf2 := fin_le hp
 have hw : wrap64 ((p : Int) - 1) = (p : Int) - 1 := wrap64_id (by omega) (by omega)
 have key : fin t p = p → Ev (fun k => (quoinref05_begin.f k t (p : Int)).bind fun t273 => (if (p : Int) = t273 then (some (p : Int)) else (some (wrap64 ((p : Int) - 1))))) (rest t p : Int) := by
  intro h
  refine Ev.bind (begin_ev hl p hp) ?_
  by_cases h1 : (p : Int) = (beg t p : Int)
  ·have e : rest t p = p := by unfold rest; rw [if_neg (by omega)]
   rw [e]
   exact Ev.pos h1 (Ev.now _)
  ·have e : rest t p = p - 1 := by unfold rest; rw [if_pos (by omega)]
   rw [e]
   refine Ev.neg h1 (Ev.const ?_)
   rw [hw]
   congr 1
   omega
 by_cases h : (p : Int) < (t.length : Int)
 ·refine Ev.pos h (Ev.pos (by omega) ?_)
  rw [rd_at]
  by_cases hx : t.getD p 0 = 10
  ·exact Ev.pos hx (key (fin_unique (Nat.le_refl _) (by omega) (fun j h1 h2 => by omega) (fun _ => hx)).symm)
  ·have e : rest t p = p := by
    unfold rest
    rw [if_neg (fun hh => hx (by have := fin_at (t := t) (p := p) (by rw [hh.2]; omega); rwa [hh.2] at this))]
   rw [e]
   exact Ev.neg hx (Ev.now _)
 ·exact Ev.neg h (key (by omega))
theorem refAt_ev (n c : Int) (hn : n ≤ 9223372036854775807) : Ev (fun k => quoinref05_At.f k t n c) (atR t n c) := by
 refine Ev.bind (refStart_ev hl n hn) ?_
 have bad : Ev (fun k => quoinref05_At.j0 k t n c (startR t n).1 true) (0, 2) := Ev.step (f := fun _ => some (0, 2)) (fun _ => rfl) (Ev.now _)
 rcases startR_cases t n with e | ⟨q, hq, _, e, hn0, _⟩
 ·have e2 : atR t n c = (0, 2) := by unfold atR; rw [e, if_neg (by decide)]
  rw [e2]
  rw [e] at bad ⊢
  exact Ev.neg (by decide) bad
 ·by_cases hc : c < -1
  ·have e2 : atR t n c = (0, 2) := by unfold atR; rw [e, if_pos rfl, if_pos hc]
   rw [e2]
   rw [e] at bad ⊢
   refine Ev.pos rfl ?_
   rw [decide_eq_true hc]
   exact bad
  ·have e2 : atR t n c = (atV t q c, 0) := by unfold atR; rw [e, if_pos rfl, if_neg hc]; rfl
   have e3 : endR t n = ((fin t q : Int), 0) := by
    unfold startR at e
    unfold endR
    rw [if_neg (by omega)] at e ⊢
    cases hs : sg t 0 n.toNat with
    | none => rw [hs] at e; simp at e
    | some q' =>
     rw [hs] at e
     have e4 : ((q' : Nat) : Int) = (q : Int) := congrArg Prod.fst e
     obtain rfl : q' = q := by omega
     rfl
   have hE := refEnd_ev hl n hn
   rw [e3] at hE
   rw [e2, e]
   refine Ev.pos rfl ?_
   rw [decide_eq_false hc]
   have hf := fin_ge t q
   have hf2 := fin_le hq
   have hw : wrap64 ((fin t q : Int) - (q : Int)) = (fin t q : Int) - q := wrap64_id (by omega) (by omega)
   have j1 : ∀ b : Bool, (b = true → 0 ≤ c ∧ c < (fin t q : Int) - q) → (b = false → ¬ (0 ≤ c ∧ c < (fin t q : Int) - q)) → Ev (fun k => quoinref05_At.j1 k c (q : Int) (fin t q : Int) b) (atV t q c, 0) := by
    intro b h1 h2
    cases b with
    | true =>
     obtain ⟨h3, h4⟩ := h1 rfl
     have e5 : atV t q c = (q : Int) + c := by unfold atV last; rw [if_neg (by omega), if_neg (by omega)]
     rw [e5]
     refine Ev.step (f := fun _ => some (wrap64 ((q : Int) + c), 0)) (fun _ => rfl) (Ev.const ?_)
     rw [wrap64_id (by omega) (by omega)]
    | false =>
     have h3 := h2 rfl
     refine Ev.step (f := fun _ => if (q : Int) < (fin t q : Int) then (some (wrap64 ((fin t q : Int) - 1), 0)) else (some ((q : Int), 0))) (fun _ => rfl) ?_
     by_cases h4 : (q : Int) < (fin t q : Int)
     ·have e5 : atV t q c = (fin t q : Int) - 1 := by
       unfold atV last
       by_cases h5 : c = -1
       ·rw [if_pos h5]; omega
       ·rw [if_neg h5, if_pos (by omega)]; omega
      rw [e5]
      refine Ev.pos h4 (Ev.const ?_)
      rw [wrap64_id (by omega) (by omega)]
     ·have e5 : atV t q c = (q : Int) := by
       unfold atV last
       by_cases h5 : c = -1
       ·rw [if_pos h5]; omega
       ·rw [if_neg h5]
        by_cases h6 : c > ((max q (fin t q - 1) : Nat) : Int) - q
        ·rw [if_pos h6]; omega
        ·rw [if_neg h6]; omega
      rw [e5]
      exact Ev.neg h4 (Ev.now _)
   refine Ev.step (f := fun k => (quoinref05_End.f k t n).bind fun bt270 => (if c ≥ 0 then (quoinref05_At.j1 k c (q : Int) bt270.1 (decide (c < (wrap64 (bt270.1 - (q : Int)))))) else (quoinref05_At.j1 k c (q : Int) bt270.1 false))) (fun _ => rfl) (Ev.bind hE ?_)
   rw [hw]
   by_cases h0 : c ≥ 0
   ·refine Ev.pos h0 (j1 _ (fun h => ⟨h0, of_decide_eq_true h⟩) (fun h hh => of_decide_eq_false h hh.2))
   ·exact Ev.neg h0 (j1 false (fun h => absurd h (by decide)) (fun _ h => h0 h.1))
theorem refFirst_l0 (q e : Nat) (hqe : q ≤ e) (he : e ≤ t.length) : ∀ (d i : Nat), i + d = e → Ev (fun k => quoinref05_First.l0 k t (q : Int) (e : Int) (i : Int)) ((if skip t i d < e then (skip t i d : Int) else ((max q (e - 1) : Nat) : Int)), 0) := by
 intro d
 induction d with
 | zero =>
  intro i hi
  have e0 : skip t i 0 = i := rfl
  rw [e0, if_neg (by omega)]
  refine Ev.step (f := fun _ => if (i : Int) < (e : Int) then none else (if (q : Int) < (e : Int) then (some (wrap64 ((e : Int) - 1), 0)) else (some ((q : Int), 0)))) (fun k => ?_) (Ev.neg (by omega) ?_)
  ·show (if (i : Int) < (e : Int) then _ else _) = _
   rw [if_neg (show ¬ (i : Int) < (e : Int) from by omega), if_neg (show ¬ (i : Int) < (e : Int) from by omega)]
  ·by_cases h : (q : Int) < (e : Int)
   ·refine Ev.pos h (Ev.const ?_)
    rw [wrap64_id (by omega) (by omega)]
    congr 2
    omega
   ·refine Ev.neg h (Ev.const ?_)
    congr 2
    omega
 | succ d ih =>
  intro i hi
  have hw : wrap64 ((i : Int) + 1) = ((i + 1 : Nat) : Int) := by rw [wrap64_id (by omega) (by omega)]; omega
  refine Ev.step (f := fun k => if (i : Int) < (e : Int) then (if 0 ≤ (i : Int) then (if (i : Int) < (t.length : Int) then (if (rd t (i : Int)) = 32 then (quoinref05_First.l0 k t (q : Int) (e : Int) (wrap64 ((i : Int) + 1))) else (if (rd t (i : Int)) = 9 then (quoinref05_First.l0 k t (q : Int) (e : Int) (wrap64 ((i : Int) + 1))) else (some ((i : Int), 0)))) else (none)) else (none)) else none) (fun k => ?_) ?_
  ·show (if (i : Int) < (e : Int) then _ else _) = _
   rw [if_pos (show (i : Int) < (e : Int) from by omega), if_pos (show (i : Int) < (e : Int) from by omega)]
  ·rw [hw, rd_at]
   clear hw
   refine Ev.pos (by omega) (Ev.pos (by omega) (Ev.pos (by omega) ?_))
   by_cases h1 : t.getD i 0 = 32
   ·have e1 : skip t i (d + 1) = skip t (i + 1) d := by conv => lhs; unfold skip; rw [if_pos h1]
    rw [e1]
    exact Ev.pos h1 (ih (i + 1) (by omega))
   ·by_cases h2 : t.getD i 0 = 9
    ·have e1 : skip t i (d + 1) = skip t (i + 1) d := by conv => lhs; unfold skip; rw [if_neg h1, if_pos h2]
     rw [e1]
     exact Ev.neg h1 (Ev.pos h2 (ih (i + 1) (by omega)))
    ·have e1 : skip t i (d + 1) = i := by conv => lhs; unfold skip; rw [if_neg h1, if_neg h2]
     rw [e1, if_pos (by omega)]
     exact Ev.neg h1 (Ev.neg h2 (Ev.now _))
theorem refFirst_ev (n : Int) (hn : n ≤ 9223372036854775807) : Ev (fun k => quoinref05_First.f k t n) (firstR t n) := by
 refine Ev.bind (refStart_ev hl n hn) ?_
 rcases startR_cases t n with e | ⟨q, hq, _, e, hn0, _⟩
 ·have e2 : firstR t n = (0, 2) := by unfold firstR; rw [e, if_neg (by decide)]
  rw [e2, e]
  exact Ev.neg (by decide) (Ev.now _)
 ·have e2 : firstR t n = ((firstV t q : Int), 0) := by unfold firstR; rw [e, if_pos rfl]; rfl
  have e3 : endR t n = ((fin t q : Int), 0) := by
   unfold startR at e
   unfold endR
   rw [if_neg (by omega)] at e ⊢
   cases hs : sg t 0 n.toNat with
   | none => rw [hs] at e; simp at e
   | some q' =>
    rw [hs] at e
    have e4 : ((q' : Nat) : Int) = (q : Int) := congrArg Prod.fst e
    obtain rfl : q' = q := by omega
    rfl
  have hE := refEnd_ev hl n hn
  have hf := fin_ge t q
  rw [e3] at hE
  rw [e2, e]
  refine Ev.pos rfl (Ev.bind hE (Ev.eq (refFirst_l0 hl q (fin t q) hf (fin_le hq) (fin t q - q) q (by omega)) ?_))
  unfold firstV last
  by_cases hs : skip t q (fin t q - q) < fin t q
  ·rw [if_pos hs, if_pos hs]
  ·rw [if_neg hs, if_neg hs]
end
end Go.Proofs.Ytofkcdnkbjpmmaa.LN
