/-
  LinesBack, the pure statement: a place's line and column lead back to it.
  Conditions: none.
-/
import Derived.Test.YtaljihphjppjgaaDoorLNP
import Derived.Test.YtaljihphjppjgaaDoorSayLinesBack
import Derived.Test.YtaljihphjppjgaaDoorX34
import Derived.Test.YtaljihphjppjgaaDoorX14
import Derived.Test.YtaljihphjppjgaaDoorX21
import Derived.Test.YtaljihphjppjgaaDoorX5
import Derived.Test.YtaljihphjppjgaaDoorX18
import Derived.Test.YtaljihphjppjgaaDoorX6
namespace Go.Proofs.YtaljihphjppjgaaDoor.Pure
open Go.RowKit Go.Proofs.YtaljihphjppjgaaDoorW.PrintWords Go.Proofs.YtaljihphjppjgaaDoorW.PrintMore Go.Proofs.YtaljihphjppjgaaDoor.X Go.Proofs.YtaljihphjppjgaaDoor.XL Go.Proofs.YtaljihphjppjgaaDoor.XO Go.Proofs.YtaljihphjppjgaaDoor.LN
theorem alive_ev : Ev (fun k => quoinlaw05_alive.f k) true := Ev.of quoinlaw05_alive.mono (k := 40) (by decide +kernel)
section
variable {t : List Int} (hl : t.length ≤ 140737488355328)
include hl
theorem Back_end (b e : Nat) (hb : b ≤ t.length) (h1 : isSt t b) (he : e ≤ t.length) (h2 : e < t.length → t.getD e 0 = 10) : Ev (fun k => quoinlaw05_LinesBack.l0 k t (b : Int) (e : Int) (e : Int)) true := by
  have hw : b ≠ 0 → wrap64 ((b : Int) - 1) = ((b - 1 : Nat) : Int) := fun h => by rw [wrap64_id (by omega) (by omega)]; omega
  have fin_ : Ev (fun _ => if (e : Int) = (t.length : Int) then (some true) else (if 0 ≤ (e : Int) then (if (e : Int) < (t.length : Int) then (some ((rd t (e : Int)) == 10)) else (none)) else (none))) true := by
    by_cases h : e = t.length
    · exact Ev.pos (by omega) (Ev.now _)
    · refine Ev.neg (by omega) (Ev.pos (by omega) (Ev.pos (by omega) (Ev.const ?_)))
      rw [rd_at, h2 (by omega)]
      rfl
  refine Ev.step (f := fun _ => if (e : Int) < (e : Int) then none else (if (b : Int) = 0 then (if (e : Int) = (t.length : Int) then (some true) else (if 0 ≤ (e : Int) then (if (e : Int) < (t.length : Int) then (some ((rd t (e : Int)) == 10)) else (none)) else (none))) else (if 0 ≤ (wrap64 ((b : Int) - 1)) then (if (wrap64 ((b : Int) - 1)) < (t.length : Int) then (if (rd t (wrap64 ((b : Int) - 1))) = 10 then (if (e : Int) = (t.length : Int) then (some true) else (if 0 ≤ (e : Int) then (if (e : Int) < (t.length : Int) then (some ((rd t (e : Int)) == 10)) else (none)) else (none))) else (some false)) else (none)) else (none)))) (fun k => ?_) ?_
  · rw [if_neg (show ¬ (e : Int) < (e : Int) from by omega)]
    show (if (e : Int) < (e : Int) then _ else _) = _
    rw [if_neg (show ¬ (e : Int) < (e : Int) from by omega)]
  · refine Ev.neg (by omega) ?_
    by_cases h : b = 0
    · exact Ev.pos (by omega) fin_
    · rw [hw h, rd_at]
      refine Ev.neg (by omega) (Ev.pos (by omega) (Ev.pos (by omega) (Ev.pos ?_ fin_)))
      rcases h1 with h1 | h1
      · exact absurd h1 h
      · exact h1
theorem Back_l0 (b e : Nat) (hb : b ≤ t.length) (h1 : isSt t b) (he : e ≤ t.length) (h2 : e < t.length → t.getD e 0 = 10) (h3 : ∀ j, b ≤ j → j < e → t.getD j 0 ≠ 10) : ∀ (d i : Nat), i + d = e → b ≤ i → Ev (fun k => quoinlaw05_LinesBack.l0 k t (b : Int) (e : Int) (i : Int)) true := by
  intro d
  induction d with
  | zero =>
    intro i hi _
    obtain rfl : i = e := by omega
    exact Back_end hl b i hb h1 he h2
  | succ d ih =>
    intro i hi hbi
    have hw : wrap64 ((i : Int) + 1) = ((i + 1 : Nat) : Int) := by rw [wrap64_id (by omega) (by omega)]; omega
    refine Ev.step (f := fun k => if (i : Int) < (e : Int) then (if 0 ≤ (i : Int) then (if (i : Int) < (t.length : Int) then (if (rd t (i : Int)) = 10 then (some false) else (quoinlaw05_LinesBack.l0 k t (b : Int) (e : Int) (wrap64 ((i : Int) + 1)))) else (none)) else (none)) else none) (fun k => ?_) ?_
    · show (if (i : Int) < (e : Int) then _ else _) = _
      rw [if_pos (show (i : Int) < (e : Int) from by omega), if_pos (show (i : Int) < (e : Int) from by omega)]
    · rw [hw, rd_at]
      clear hw
      exact Ev.pos (by omega) (Ev.pos (by omega) (Ev.pos (by omega) (Ev.neg (h3 i hbi (by omega)) (ih (i + 1) (by omega) (by omega)))))
end
theorem LinesBack : Say.LinesBack := by
  intro t a ht ha
  have hu : u8s t = true := u8s_ok ht
  have hl : t.length ≤ 140737488355328 := by have h1 : t.length * 1 ≤ 140737488351232 := ht.1; omega
  refine Ev.rounds (g := fun k => quoinlaw05_LinesBack.f k t a) ?_
  have o1 := Of_eq hu a
  have c1 := Column_ev hl a
  refine Ev.bind alive_ev (Ev.pos rfl (Ev.cbind o1 (Ev.bind c1 ?_)))
  by_cases h : 0 ≤ a ∧ a ≤ t.length
  · obtain ⟨p, rfl⟩ := Int.eq_ofNat_of_zero_le h.1
    have hpl : p ≤ t.length := by omega
    have e1 : colR t (p : Int) = ((p : Int) - beg t p, 0) := by unfold colR; rw [if_pos h, Int.toNat_natCast]
    rw [if_pos h, e1, Int.toNat_natCast]
    refine Ev.neg (by omega) ?_
    rw [decide_eq_false (by omega)]
    have s1 := Start_of hu hl hpl
    have s2 := End_of hu hl hpl
    have hb := beg_le t p
    have hf := fin_ge t p
    have hf2 := fin_le hpl
    have hc0 := cnt_nonneg 10 (t.take p)
    have hc1 : cnt 10 (t.take p) ≤ cnt 10 t := by
      have h1 := cnt_mono (t := t) hpl (Nat.le_refl _)
      rwa [List.take_length] at h1
    have hw : wrap64 ((beg t p : Int) + ((p : Int) - beg t p)) = (p : Int) := by rw [wrap64_id (by omega) (by omega)]; omega
    refine Ev.step (f := fun k => (lines_Start.f k t (cnt 10 (t.take p))).bind fun bt310 => ((lines_End.f k t (cnt 10 (t.take p))).bind fun bt312 => (if (0 : Int) = 0 then (if (0 : Int) = 0 then (if bt310.2 = 0 then (if bt312.2 = 0 then (if (wrap64 (bt310.1 + ((p : Int) - beg t p))) = (p : Int) then (if ((p : Int) - beg t p) < 0 then (quoinlaw05_LinesBack.j1 k t bt310.1 bt312.1 true) else (if (p : Int) > bt312.1 then (quoinlaw05_LinesBack.j1 k t bt310.1 bt312.1 true) else (if (cnt 10 (t.take p)) < 0 then (quoinlaw05_LinesBack.j1 k t bt310.1 bt312.1 true) else ((lines_Count.f t).bind fun t314 => (quoinlaw05_LinesBack.j1 k t bt310.1 bt312.1 (decide ((cnt 10 (t.take p)) ≥ t314))))))) else (quoinlaw05_LinesBack.j1 k t bt310.1 bt312.1 true)) else (quoinlaw05_LinesBack.j1 k t bt310.1 bt312.1 true)) else (quoinlaw05_LinesBack.j1 k t bt310.1 bt312.1 true)) else (quoinlaw05_LinesBack.j1 k t bt310.1 bt312.1 true)) else (quoinlaw05_LinesBack.j1 k t bt310.1 bt312.1 true)))) (fun _ => rfl) (Ev.bind s1 (Ev.bind s2 (Ev.pos rfl (Ev.pos rfl (Ev.pos rfl (Ev.pos rfl (Ev.pos hw (Ev.neg (by omega) (Ev.neg (by omega) (Ev.neg (by omega) (Ev.cbind (Count_eq hu hl) ?_)))))))))))
    rw [decide_eq_false (by omega)]
    refine Ev.step (f := fun k => quoinlaw05_LinesBack.l0 k t (beg t p : Int) (fin t p : Int) (beg t p : Int)) (fun _ => rfl) ?_
    exact Back_l0 hl (beg t p) (fin t p) (by omega) (beg_st t p) hf2 (fun h => fin_at h) (fun j h1 h2 => by
      by_cases hj : j < p
      · exact beg_ne h1 hj
      · exact fin_ne (by omega) h2) (fin t p - beg t p) (beg t p) (by omega) (Nat.le_refl _)
  · have e1 : colR t a = (0, 2) := by unfold colR; rw [if_neg h]
    rw [if_neg h, e1]
    have bad : Ev (fun k => quoinlaw05_LinesBack.j0 k t a 0 2 0 2 true) true := Ev.step (f := fun _ => some true) (fun _ => rfl) (Ev.now _)
    by_cases h0 : a < 0
    · exact Ev.pos h0 bad
    · refine Ev.neg h0 ?_
      rw [decide_eq_true (by omega)]
      exact bad
end Go.Proofs.YtaljihphjppjgaaDoor.Pure
