/-
  LinesRest, the pure statement: where a cursor rests it rests; in its line, at most one lower; just where At of its line and column tells.
  Conditions: none.
-/
import Derived.Test.YtaljihphjppjgaaDoorLNP
import Derived.Test.YtaljihphjppjgaaDoorSayLinesRest
import Derived.Test.YtaljihphjppjgaaDoorX23
import Derived.Test.YtaljihphjppjgaaDoorX14
import Derived.Test.YtaljihphjppjgaaDoorX21
namespace Go.Proofs.YtaljihphjppjgaaDoor.Pure
open Go.RowKit Go.Proofs.YtaljihphjppjgaaDoorW.PrintWords Go.Proofs.YtaljihphjppjgaaDoorW.PrintMore Go.Proofs.YtaljihphjppjgaaDoor.X Go.Proofs.YtaljihphjppjgaaDoor.XL Go.Proofs.YtaljihphjppjgaaDoor.XO Go.Proofs.YtaljihphjppjgaaDoor.LN
theorem alive_ev : Ev (fun k => quoinlaw05_alive.f k) true := Ev.of quoinlaw05_alive.mono (k := 40) (by decide +kernel)
theorem rest_le (t : List Int) (p : Nat) : rest t p ≤ p := by unfold rest; split <;> omega
theorem rest_down {t : List Int} {p : Nat} (h : beg t p < p) : beg t (p - 1) = beg t p ∧ t.getD (p - 1) 0 ≠ 10 := by
  have hb := beg_le t p
  have hx : t.getD (p - 1) 0 ≠ 10 := beg_ne (n := p) (by omega) (by omega)
  exact ⟨(beg_unique (by omega) (beg_st t p) (fun j h1 h2 => beg_ne h1 (by omega))).symm, hx⟩
theorem rest_rest {t : List Int} {p : Nat} (hp : p ≤ t.length) : rest t (rest t p) = rest t p := by
  by_cases h : beg t p < p ∧ fin t p = p
  · have e : rest t p = p - 1 := by unfold rest; rw [if_pos h]
    rw [e]
    obtain ⟨h1, h2⟩ := rest_down h.1
    have h3 : p = fin t (p - 1) := fin_unique (by omega) hp (fun j a b => by
      obtain rfl : j = p - 1 := by omega
      exact h2) (fun hl => by have := fin_at (t := t) (p := p) (by rw [h.2]; exact hl); rwa [h.2] at this)
    unfold rest
    rw [if_neg (by rw [← h3]; omega)]
  · have e : rest t p = p := by unfold rest; rw [if_neg h]
    rw [e, e]
theorem rest_cnt {t : List Int} {p : Nat} (hp : p ≤ t.length) : cnt 10 (t.take (rest t p)) = cnt 10 (t.take p) := by
  by_cases h : beg t p < p ∧ fin t p = p
  · have e : rest t p = p - 1 := by unfold rest; rw [if_pos h]
    rw [e]
    exact (cnt_same (by omega) hp (fun j a b => beg_ne (n := p) (by omega) b)).symm
  · have e : rest t p = p := by unfold rest; rw [if_neg h]
    rw [e]
theorem rest_at {t : List Int} {p : Nat} (hp : p ≤ t.length) : atV t (beg t p) ((p : Int) - beg t p) = (rest t p : Int) := by
  have hb := beg_le t p
  have hf := fin_ge t p
  have e1 : last t (beg t p) = max (beg t p) (fin t p - 1) := by unfold last; rw [beg_fin hp]
  unfold atV
  rw [if_neg (by omega), e1]
  by_cases h : beg t p < p ∧ fin t p = p
  · have e : rest t p = p - 1 := by unfold rest; rw [if_pos h]
    rw [e, if_pos (by omega)]
    omega
  · have e : rest t p = p := by unfold rest; rw [if_neg h]
    rw [e, if_neg (by omega)]
    omega
theorem startR_of {t : List Int} {p : Nat} (hp : p ≤ t.length) : startR t (cnt 10 (t.take p)) = ((beg t p : Int), 0) := by
  have h0 := cnt_nonneg 10 (t.take p)
  unfold startR
  rw [if_neg (by omega), sg_beg hp]
theorem LinesRest : Say.LinesRest := by
  intro t a ht ha
  have hu : u8s t = true := u8s_ok ht
  have hl : t.length ≤ 140737488355328 := by have h1 : t.length * 1 ≤ 140737488351232 := ht.1; omega
  refine Ev.rounds (g := fun k => quoinlaw05_LinesRest.f k t a) ?_
  have hp := clamp_le t a
  have r0 := Rest_ev hu hl a
  have r1 := Rest_ev hu hl (rest t (clamp t a) : Int)
  have hr := rest_le t (clamp t a)
  rw [clamp_id (by omega), rest_rest hp] at r1
  refine Ev.bind alive_ev (Ev.pos rfl (Ev.bind r0 (Ev.neg (by omega) (Ev.neg (by omega) (Ev.bind r1 ?_)))))
  rw [bne_self_eq_false]
  clear r0 r1
  by_cases h1 : a < 0
  · have r2 := Rest_ev hu hl 0
    have e : clamp t a = clamp t 0 := by unfold clamp; rw [mn_eq, mn_eq, mx_eq, mx_eq]; omega
    refine Ev.step (f := fun k => if a < 0 then ((lines_Rest.f k t 0).bind fun t243 => (some ((rest t (clamp t a) : Int) == t243))) else _) (fun _ => rfl) (Ev.pos h1 (Ev.done r2 ?_))
    rw [e]
    exact beq_self_eq_true _
  · by_cases h2 : a > (t.length : Int)
    · have r2 := Rest_ev hu hl (t.length : Int)
      have e : clamp t a = clamp t (t.length : Int) := by unfold clamp; rw [mn_eq, mn_eq, mx_eq, mx_eq]; omega
      refine Ev.step (f := fun k => if a < 0 then _ else (if a > (t.length : Int) then ((lines_Rest.f k t (t.length : Int)).bind fun t244 => (some ((rest t (clamp t a) : Int) == t244))) else _)) (fun _ => rfl) (Ev.neg h1 (Ev.pos h2 (Ev.done r2 ?_)))
      rw [e]
      exact beq_self_eq_true _
    · obtain ⟨p, rfl⟩ := Int.eq_ofNat_of_zero_le (a := a) (by omega)
      have hpl : p ≤ t.length := by omega
      rw [clamp_id hpl] at hr ⊢
      have o1 : lines_Of.f t (p : Int) = some (cnt 10 (t.take p), 0) := by rw [Of_eq hu, if_pos ⟨by omega, by omega⟩, Int.toNat_natCast]
      have o2 : lines_Of.f t (rest t p : Int) = some (cnt 10 (t.take p), 0) := by rw [Of_eq hu, if_pos ⟨by omega, by omega⟩, Int.toNat_natCast, rest_cnt hpl]
      have c1 := Column_ev hl (p : Int)
      have e1 : colR t (p : Int) = ((p : Int) - beg t p, 0) := by unfold colR; rw [if_pos ⟨by omega, by omega⟩, Int.toNat_natCast]
      rw [e1] at c1
      have hb := beg_le t p
      have hc0 := cnt_nonneg 10 (t.take p)
      have hc1 := cnt_le 10 (t.take p)
      have hc2 := List.length_take_le p t
      have a1 := At_ev hu hl (cnt 10 (t.take p)) ((p : Int) - beg t p) (by omega)
      have e2 : atR t (cnt 10 (t.take p)) ((p : Int) - beg t p) = ((rest t p : Int), 0) := by
        unfold atR
        rw [startR_of hpl, if_pos rfl, if_neg (by omega)]
        simp only [Int.toNat_natCast]
        rw [rest_at hpl]
      rw [e2] at a1
      have hr2 : p - 1 ≤ rest t p := by unfold rest; split <;> omega
      have hw : (rest t p : Int) ≥ wrap64 ((p : Int) - 1) := by rw [wrap64_id (by omega) (by omega)]; omega
      refine Ev.step (f := fun k => if (p : Int) < 0 then ((lines_Rest.f k t 0).bind fun t243 => (some ((rest t p : Int) == t243))) else (if (p : Int) > (t.length : Int) then ((lines_Rest.f k t (t.length : Int)).bind fun t244 => (some ((rest t p : Int) == t244))) else ((lines_Of.f t (p : Int)).bind fun bt245 => ((lines_Of.f t (rest t p : Int)).bind fun bt247 => ((lines_Column.f k t (p : Int)).bind fun bt249 => ((lines_At.f k t bt245.1 bt249.1).bind fun bt251 => (if bt245.2 = 0 then (if bt247.2 = 0 then (if bt249.2 = 0 then (if bt251.2 = 0 then (if bt247.1 = bt245.1 then (if (rest t p : Int) ≤ (p : Int) then (if (rest t p : Int) ≥ (wrap64 ((p : Int) - 1)) then (if (((rest t p : Int) == (p : Int)) == (bt251.1 == (p : Int))) = true then (some (bt251.1 == (rest t p : Int))) else (some false)) else (some false)) else (some false)) else (some false)) else (some false)) else (some false)) else (some false)) else (some false)))))))) (fun _ => rfl) (Ev.neg (by omega) (Ev.neg (by omega) (Ev.cbind o1 (Ev.cbind o2 (Ev.bind c1 (Ev.bind a1 (Ev.pos rfl (Ev.pos rfl (Ev.pos rfl (Ev.pos rfl (Ev.pos rfl (Ev.pos (by omega) (Ev.pos hw (Ev.pos (beq_self_eq_true _) (Ev.const (by rw [beq_self_eq_true]))))))))))))))))
end Go.Proofs.YtaljihphjppjgaaDoor.Pure
