/-
  LinesWhole, the pure statement (where what comes in is of bulk at most 1048576): the lines of Split with line ends between are the text.
  Conditions: bulk at most 1048576.
-/
import Derived.Test.YtaljihphjppjgaaDoorLNP
import Derived.Test.YtaljihphjppjgaaDoorSayLinesWholeUpto
import Derived.Test.YtaljihphjppjgaaDoorX19
import Derived.Test.YtaljihphjppjgaaDoorX14
import Derived.Test.YtaljihphjppjgaaDoorX4
import Derived.Test.YtaljihphjppjgaaDoorX6
import Derived.Test.YtaljihphjppjgaaDoorX18
namespace Go.Proofs.YtaljihphjppjgaaDoor.Pure
open Go.RowKit Go.Proofs.YtaljihphjppjgaaDoorW.PrintWords Go.Proofs.YtaljihphjppjgaaDoorW.PrintMore Go.Proofs.YtaljihphjppjgaaDoor.X Go.Proofs.YtaljihphjppjgaaDoor.XL Go.Proofs.YtaljihphjppjgaaDoor.XO Go.Proofs.YtaljihphjppjgaaDoor.LN
theorem alive_ev : Ev (fun k => quoinlaw05_alive.f k) true := Ev.of quoinlaw05_alive.mono (k := 40) (by decide +kernel)
theorem startR_st {t : List Int} {q : Nat} (hq : q ≤ t.length) (hs : isSt t q) : startR t (cnt 10 (t.take q)) = ((q : Int), 0) := by
  have h0 := cnt_nonneg 10 (t.take q)
  have e : sg t 0 (cnt 10 (t.take q)).toNat = some q := sg_of (.inl rfl) (Nat.zero_le _) hq hs (by rw [show cnt 10 (t.take 0) = 0 from rfl]; omega)
  unfold startR
  rw [if_neg (by omega), e]
theorem endR_st {t : List Int} {q : Nat} (hq : q ≤ t.length) (hs : isSt t q) : endR t (cnt 10 (t.take q)) = ((fin t q : Int), 0) := by
  have h0 := cnt_nonneg 10 (t.take q)
  have e : sg t 0 (cnt 10 (t.take q)).toNat = some q := sg_of (.inl rfl) (Nat.zero_le _) hq hs (by rw [show cnt 10 (t.take 0) = 0 from rfl]; omega)
  unfold endR
  rw [if_neg (by omega), e]
/-- The lines from a place on. -/
theorem split_at {t : List Int} {q : Nat} (hq : q ≤ t.length) : splitR (t.drop q) = (t.take (fin t q)).drop q :: (if fin t q < t.length then splitR (t.drop (fin t q + 1)) else []) := by
  have hr := run10_le (t.drop q)
  have hd : (t.drop q).length = t.length - q := List.length_drop
  have hf : fin t q = q + run10 (t.drop q) := rfl
  have hi := idx_run (t.drop q)
  rcases idx_cases (t.drop q) with ⟨h1, h2, _⟩ | ⟨i, h1, h2, h3, _⟩
  · rw [h1] at hi
    have hn : ¬ run10 (t.drop q) < (t.drop q).length := fun h => by rw [if_pos h] at hi; omega
    rw [h2, if_neg (by omega), show fin t q = t.length from by omega, List.take_length]
  · have hn : run10 (t.drop q) < (t.drop q).length := by
      by_cases h : run10 (t.drop q) < (t.drop q).length
      · exact h
      · rw [if_neg h, h1] at hi; omega
    rw [if_pos hn, h1] at hi
    obtain rfl : i = run10 (t.drop q) := by omega
    rw [h3, if_pos (by omega), List.drop_drop, hf, show q + (run10 (t.drop q) + 1) = q + run10 (t.drop q) + 1 from by omega, List.drop_take, Nat.add_sub_cancel_left]
section
variable {t : List Int} (hu : u8s t = true) (hl : t.length ≤ 1048576)
include hl
theorem Whole_j1 {L : List (List Int)} {i : Nat} {q : Nat} (hq : q ≤ t.length) (hs : isSt t q) (hi : cnt 10 (t.take q) = (i : Int)) (hL : rd_L1 L (i : Int) = (t.take (fin t q)).drop q) (hlen : i < L.length) {acc : List Int} (hacc : (i = 0 ∧ acc = []) ∨ (0 < i ∧ acc = t.take (q - 1)))
    (h : Ev (fun k => quoinlaw05_LinesWhole.l0 k t L (t.take (fin t q)) (wrap64 ((i : Int) + 1))) true) : Ev (fun k => quoinlaw05_LinesWhole.j1 k t L acc (i : Int) false) true := by
  have hf := fin_ge t q
  have hf2 := fin_le hq
  have hpl : (rd_L1 L (i : Int)).length = fin t q - q := by rw [hL, List.length_drop, List.length_take]; omega
  refine Ev.step (f := fun k => if (i : Int) > 0 then (if acc.length < 140737488355328 then ((some (acc ++ [10] : List Int)).bind fun y221 => (if 0 ≤ (i : Int) then (if (i : Int) < (L.length : Int) then (if y221.length + (rd_L1 L (i : Int)).length < 140737488355328 then (quoinlaw05_LinesWhole.l0 k t L (y221 ++ (rd_L1 L (i : Int))) (wrap64 ((i : Int) + 1))) else (none)) else (none)) else (none))) else (none)) else (if 0 ≤ (i : Int) then (if (i : Int) < (L.length : Int) then (if acc.length + (rd_L1 L (i : Int)).length < 140737488355328 then (quoinlaw05_LinesWhole.l0 k t L (acc ++ (rd_L1 L (i : Int))) (wrap64 ((i : Int) + 1))) else (none)) else (none)) else (none))) (fun _ => rfl) ?_
  rcases hacc with ⟨h0, h1⟩ | ⟨h0, h1⟩
  · subst h0
    subst h1
    have hq0 : q = 0 := by
      rcases hs with h | h
      · exact h
      · by_cases hz : q = 0
        · exact hz
        · exfalso
          have h2 := cnt_take_succ (t := t) (n := q - 1) (by omega)
          rw [show q - 1 + 1 = q from by omega, if_pos h, hi] at h2
          have h3 := cnt_nonneg 10 (t.take (q - 1))
          omega
    refine Ev.neg (by omega) (Ev.pos (by omega) (Ev.pos (by omega) (Ev.pos (by rw [hpl]; simp; omega) ?_)))
    rw [List.nil_append, hL, hq0, List.drop_zero]
    rw [hq0] at h
    exact h
  · subst h1
    have hq0 : 0 < q := by
      rcases Nat.eq_zero_or_pos q with e | e
      · rw [e, show cnt 10 (t.take 0) = 0 from rfl] at hi; omega
      · exact e
    have hx : t.getD (q - 1) 0 = 10 := by
      rcases hs with e | e
      · omega
      · exact e
    have e1 : t.take (q - 1) ++ [10] = t.take q := by
      have h2 := take_snoc (t := t) (n := q - 1) (by omega)
      rw [show q - 1 + 1 = q from by omega, hx] at h2
      exact h2.symm
    have e2 : t.take q ++ (t.take (fin t q)).drop q = t.take (fin t q) := by
      have h2 := List.take_append_drop q (t.take (fin t q))
      rw [List.take_take, Nat.min_eq_left hf] at h2
      exact h2
    have hla : (t.take (q - 1)).length ≤ t.length := by rw [List.length_take]; omega
    have hlb : (t.take q).length ≤ t.length := by rw [List.length_take]; omega
    refine Ev.pos (by omega) (Ev.pos (by omega) (Ev.cbind rfl (Ev.pos (by omega) (Ev.pos (by omega) (Ev.pos (by rw [hpl, e1]; omega) ?_)))))
    rw [e1, hL, e2]
    exact h
include hu
theorem Whole_step {L : List (List Int)} {q i : Nat} {acc : List Int} (hq : q ≤ t.length) (hs : isSt t q) (hi : cnt 10 (t.take q) = (i : Int)) (hL : L.drop i = splitR (t.drop q)) (hacc : (i = 0 ∧ acc = []) ∨ (0 < i ∧ acc = t.take (q - 1)))
    (next : fin t q < t.length → Ev (fun k => quoinlaw05_LinesWhole.l0 k t L (t.take (fin t q)) ((i + 1 : Nat) : Int)) true) : Ev (fun k => quoinlaw05_LinesWhole.l0 k t L acc (i : Int)) true := by
  have hf := fin_ge t q
  have hf2 := fin_le hq
  have hsp := split_at hq
  rw [← hL] at hsp
  have hil : i < L.length := by
    rcases Nat.lt_or_ge i L.length with h | h
    · exact h
    · rw [List.drop_eq_nil_of_le h] at hsp; cases hsp
  have hc1 := cnt_le 10 (t.take q)
  have hc2 := List.length_take_le q t
  have hrd : rd_L1 L (i : Int) = (t.take (fin t q)).drop q := by
    have h1 : L[i]? = (L.drop i)[0]? := by rw [List.getElem?_drop, Nat.add_zero]
    rw [hsp] at h1
    unfold rd_L1
    rw [Int.toNat_natCast, List.getD_eq_getElem?_getD, h1]
    rfl
  have hw : wrap64 ((i : Int) + 1) = ((i + 1 : Nat) : Int) := by rw [wrap64_id (by omega) (by omega)]; omega
  have hnext : Ev (fun k => quoinlaw05_LinesWhole.l0 k t L (t.take (fin t q)) (wrap64 ((i : Int) + 1))) true := by
    rw [hw]
    by_cases h : fin t q < t.length
    · exact next h
    · have hLl : L.length = i + 1 := by
        have h1 := congrArg List.length hsp
        rw [if_neg h, List.length_drop] at h1
        simp at h1
        omega
      have ht : t.take (fin t q) = t := by rw [show fin t q = t.length from by omega, List.take_length]
      rw [ht]
      refine Ev.step (f := fun _ => if ((i + 1 : Nat) : Int) < (L.length : Int) then none else (some ((strOfNums t).toList == (strOfNums t).toList))) (fun k => ?_) (Ev.neg (by omega) (Ev.const (by rw [beq_self_eq_true])))
      show (if ((i + 1 : Nat) : Int) < (L.length : Int) then _ else _) = _
      rw [if_neg (show ¬ ((i + 1 : Nat) : Int) < (L.length : Int) from by omega), if_neg (show ¬ ((i + 1 : Nat) : Int) < (L.length : Int) from by omega)]
  have s1 := Start_ev hu (by omega) (i : Int) (by omega)
  have s2 := End_ev hu (by omega) (i : Int) (by omega)
  rw [← hi, startR_st hq hs, hi] at s1
  rw [← hi, endR_st hq hs, hi] at s2
  have hj := Whole_j1 hl hq hs hi hrd hil hacc hnext
  clear hnext hw next
  refine Ev.step (f := fun k => if (i : Int) < (L.length : Int) then ((lines_Start.f k t (i : Int)).bind fun bt215 => ((lines_End.f k t (i : Int)).bind fun bt217 => (if bt215.2 = 0 then (if bt217.2 = 0 then (if bt215.1 < 0 then (quoinlaw05_LinesWhole.j1 k t L acc (i : Int) true) else (if bt217.1 < bt215.1 then (quoinlaw05_LinesWhole.j1 k t L acc (i : Int) true) else (if bt217.1 > (t.length : Int) then (quoinlaw05_LinesWhole.j1 k t L acc (i : Int) true) else (if 0 ≤ bt215.1 then (if bt215.1 ≤ bt217.1 then (if bt217.1 ≤ (t.length : Int) then (if 0 ≤ (i : Int) then (quoinlaw05_LinesWhole.j1 k t L acc (i : Int) ((strOfNums ((t.take (bt217.1 : Int).toNat).drop (bt215.1 : Int).toNat)).toList != (strOfNums (rd_L1 L (i : Int))).toList)) else (none)) else (none)) else (none)) else (none))))) else (quoinlaw05_LinesWhole.j1 k t L acc (i : Int) true)) else (quoinlaw05_LinesWhole.j1 k t L acc (i : Int) true)))) else (some ((strOfNums acc).toList == (strOfNums t).toList))) (fun _ => rfl) (Ev.pos (by omega) (Ev.bind s1 (Ev.bind s2 (Ev.pos rfl (Ev.pos rfl (Ev.neg (by omega) (Ev.neg (by omega) (Ev.neg (by omega) (Ev.pos (by omega) (Ev.pos (by omega) (Ev.pos (by omega) (Ev.pos (by omega) ?_))))))))))))
  simp only [Int.toNat_natCast]
  rw [hrd, bne_self_eq_false]
  exact hj
theorem Whole_l0 {L : List (List Int)} : ∀ (d q i : Nat) (acc : List Int), t.length - q ≤ d → q ≤ t.length → isSt t q → cnt 10 (t.take q) = (i : Int) → L.drop i = splitR (t.drop q) → ((i = 0 ∧ acc = []) ∨ (0 < i ∧ acc = t.take (q - 1))) → Ev (fun k => quoinlaw05_LinesWhole.l0 k t L acc (i : Int)) true := by
  intro d
  induction d with
  | zero =>
    intro q i acc hd hq hs hi hL hacc
    exact Whole_step hu hl hq hs hi hL hacc (fun hf => by have := fin_ge t q; omega)
  | succ d ih =>
    intro q i acc hd hq hs hi hL hacc
    refine Whole_step hu hl hq hs hi hL hacc (fun hf => ?_)
    have h1 := fin_ge t q
    refine ih (fin t q + 1) (i + 1) _ (by omega) (by omega) (.inr (fin_at hf)) ?_ ?_ (.inr ⟨by omega, rfl⟩)
    · rw [cnt_next hf, hi]; omega
    · have h2 := split_at hq
      rw [← hL, if_pos hf] at h2
      rw [← List.drop_drop, h2]
      rfl
end
theorem LinesWholeUpto : Say.LinesWholeUpto := by
  intro t ht hb
  have hu : u8s t = true := u8s_ok ht
  have hl : t.length ≤ 1048576 := by
    have h1 := szSl_length (szOne (α := Int)) (fun _ => Nat.le_refl _) t
    have h2 : szSl (szOne (α := Int)) t ≤ 1048576 := hb
    omega
  refine Ev.rounds (g := fun k => quoinlaw05_LinesWhole.f k t) ?_
  have hS : lines_Split.f t = some (splitR t) := by unfold lines_Split.f; rw [if_pos hu, if_pos (by omega)]
  have hlen := splitR_len t
  refine Ev.bind alive_ev (Ev.pos rfl (Ev.cbind hS (Ev.cbind (Count_eq hu (by omega)) (Ev.pos hlen (Ev.ite (fun _ => Ev.now _) (fun _ => ?_))))))
  exact Whole_l0 hu hl t.length 0 0 [] (by omega) (Nat.zero_le _) (.inl rfl) rfl rfl (.inl ⟨rfl, rfl⟩)
end Go.Proofs.YtaljihphjppjgaaDoor.Pure
