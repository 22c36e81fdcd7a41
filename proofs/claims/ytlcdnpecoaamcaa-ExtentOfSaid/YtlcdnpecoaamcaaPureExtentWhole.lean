/-
  ExtentWhole, the pure statement: the lines of a range, as the second account says.
  Conditions: none.
-/
import Derived.Test.YtlcdnpecoaamcaaLN
import Derived.Test.YtlcdnpecoaamcaaSayExtentWhole
import Derived.Test.YtlcdnpecoaamcaaX23
import Derived.Test.YtlcdnpecoaamcaaX14
import Derived.Test.YtlcdnpecoaamcaaX16
import Derived.Test.YtlcdnpecoaamcaaX4
import Derived.Test.YtlcdnpecoaamcaaX15
namespace Go.Proofs.Ytlcdnpecoaamcaa.Pure
open Go.RowKit Go.Proofs.YtlcdnpecoaamcaaW.PrintWords Go.Proofs.YtlcdnpecoaamcaaW.PrintMore Go.Proofs.Ytlcdnpecoaamcaa.X Go.Proofs.Ytlcdnpecoaamcaa.XL Go.Proofs.Ytlcdnpecoaamcaa.XO Go.Proofs.Ytlcdnpecoaamcaa.LN
theorem alive_ev : Ev (fun k => quoinlaw14_alive.f k) true := Ev.of quoinlaw14_alive.mono (k := 40) (by decide +kernel)
theorem rd_nat (t : List Int) (p : Nat) : rd t (p : Int) = t.getD p 0 := by unfold rd; rw [Int.toNat_natCast]
section
variable {t : List Int} (hl : t.length ≤ 140737488355328)
include hl
theorem refStart_l0 : ∀ (d p n : Nat), p + d = t.length → ((n : Int) + 1) ≤ 9223372036854775807 →
    Ev (fun k => quoinref05_Start.l0 k t ((n : Int) + 1) (p : Int)) (match sg t p (n + 1) with | some q => ((q : Int), 0) | none => (0, 2)) := by
  intro d
  induction d with
  | zero =>
    intro p n hp hn
    have hf := fin_ge t p
    have e : sg t p (n + 1) = none := by unfold sg; rw [if_neg (by omega)]
    rw [e]
    exact Ev.step (fun k => rfl) (Ev.neg (by omega) (Ev.now _))
  | succ d ih =>
    intro p n hp hn
    refine Ev.step (f := fun k => if (p : Int) < (t.length : Int) then (if 0 ≤ (p : Int) then (if (rd t (p : Int)) = 10 then (if (wrap64 (((n : Int) + 1) - 1)) = 0 then (some (wrap64 ((p : Int) + 1), 0)) else (quoinref05_Start.l0 k t (wrap64 (((n : Int) + 1) - 1)) (wrap64 ((p : Int) + 1)))) else (quoinref05_Start.l0 k t ((n : Int) + 1) (wrap64 ((p : Int) + 1)))) else (none)) else (some (0, 2))) (fun k => rfl) (Ev.pos (by omega) (Ev.pos (by omega) ?_))
    rw [rd_nat, wrap64_id (n := (n : Int) + 1 - 1) (by omega) (by omega), wrap64_id (n := (p : Int) + 1) (by omega) (by omega), show (p : Int) + 1 = ((p + 1 : Nat) : Int) from by omega]
    by_cases hx : t.getD p 0 = 10
    · have hf : p = fin t p := fin_unique (Nat.le_refl _) (by omega) (fun j h1 h2 => by omega) (fun _ => hx)
      have e : sg t p (n + 1) = sg t (p + 1) n := by
        conv => lhs; unfold sg
        rw [← hf, if_pos (by omega)]
      rw [e]
      refine Ev.pos hx ?_
      cases n with
      | zero => exact Ev.pos (by simp) (Ev.now _)
      | succ n =>
        refine Ev.neg (by omega) ?_
        rw [show ((n + 1 : Nat) : Int) + 1 - 1 = (n : Int) + 1 from by omega]
        exact ih (p + 1) n (by omega) (by omega)
    · have h0 := fin_ge t p
      have h1 : fin t p ≠ p := fun h => hx (by have := fin_at (t := t) (p := p) (by omega); rwa [h] at this)
      have hf : fin t p = fin t (p + 1) := fin_unique (by omega) (fin_le (by omega)) (fun j h1 h2 => fin_ne (by omega) h2) (fun h => fin_at h)
      have e : sg t p (n + 1) = sg t (p + 1) (n + 1) := by
        conv => lhs; unfold sg
        conv => rhs; unfold sg
        rw [hf]
      rw [e]
      exact Ev.neg hx (ih (p + 1) n (by omega) hn)
theorem refStart_ev (n : Int) (hn : n ≤ 9223372036854775807) : Ev (fun k => quoinref05_Start.f k t n) (startR t n) := by
  unfold startR
  by_cases h : n < 0
  · rw [if_pos h]
    exact Ev.pos h (Ev.now _)
  · rw [if_neg h]
    refine Ev.neg h ?_
    by_cases h0 : n = 0
    · subst h0
      exact Ev.pos rfl (Ev.now _)
    · refine Ev.neg h0 ?_
      have h1 := refStart_l0 hl t.length 0 (n.toNat - 1) (by omega) (by omega)
      rw [show ((n.toNat - 1 : Nat) : Int) + 1 = n from by omega, show n.toNat - 1 + 1 = n.toNat from by omega] at h1
      exact h1
end
abbrev bodyW (t : List Int) (a s : Int) (c : Bool) (S : Nat → Option (Int × Int)) : Nat → Option (Int × Int × Bool × Bool × Int) := fun k =>
  if c = true then (some (0, 0, false, false, 2)) else ((S k).bind fun bt108 => (if bt108.2 = 0 then (some (s, bt108.1, true, false, 0)) else (if a > 0 then (some (wrap64 (s - 1), (t.length : Int), true, true, 0)) else (some (0, (t.length : Int), true, false, 0)))))
def resW (t : List Int) (a s : Int) (c : Bool) (p : Int × Int) : Int × Int × Bool × Bool × Int :=
  if c = true then (0, 0, false, false, 2) else if p.2 = 0 then (s, p.1, true, false, 0) else if a > 0 then (wrap64 (s - 1), (t.length : Int), true, true, 0) else (0, (t.length : Int), true, false, 0)
theorem body_ev {t : List Int} {a s : Int} {c : Bool} {S : Nat → Option (Int × Int)} {p : Int × Int} (h : Ev S p) : Ev (bodyW t a s c S) (resW t a s c p) := by
  obtain ⟨K, hK⟩ := h
  refine ⟨K, fun k hk => ?_⟩
  unfold bodyW resW
  rw [hK k hk]
  simp only [Option.bind_some]
  split
  · rfl
  · split
    · rfl
    · split <;> rfl
theorem Whole_j0 {t : List Int} (hu : u8s t = true) (hl : t.length ≤ 140737488355328) (a b s : Int) (c : Bool) : ∃ r, Ev (fun k => extent_Whole.j0 k t a b s c) r ∧ Ev (fun k => quoinref14_Whole.j0 k t a b s c) r := by
  have hw := (wrap64_range (b + 1)).2
  have h1 := Start_ev hu hl (wrap64 (b + 1)) hw
  have h2 := refStart_ev hl (wrap64 (b + 1)) hw
  refine ⟨resW t a s c (startR t (wrap64 (b + 1))), ?_, ?_⟩
  · exact Ev.step (f := bodyW t a s c (fun k => lines_Start.f k t (wrap64 (b + 1)))) (fun k => rfl) (body_ev h1)
  · exact Ev.step (f := bodyW t a s c (fun k => quoinref05_Start.f k t (wrap64 (b + 1)))) (fun k => rfl) (body_ev h2)
/-- extent.Whole and its second account come to one answer. -/
theorem Whole_both {t : List Int} (hu : u8s t = true) (hl : t.length ≤ 140737488355328) (a b : Int) (ha : a ≤ 9223372036854775807) (hb : b ≤ 9223372036854775807) : ∃ r, Ev (fun k => extent_Whole.f k t a b) r ∧ Ev (fun k => quoinref14_Whole.f k t a b) r := by
  have a1 := Start_ev hu hl a ha
  have a2 := refStart_ev hl a ha
  have b1 := Start_ev hu hl b hb
  have b2 := refStart_ev hl b hb
  by_cases h1 : (startR t a).2 = 0
  · by_cases h2 : (startR t b).2 = 0
    · obtain ⟨r, r1, r2⟩ := Whole_j0 hu hl a b (startR t a).1 (decide (a > b))
      exact ⟨r, Ev.bind a1 (Ev.bind b1 (Ev.pos h1 (Ev.pos h2 r1))), Ev.bind a2 (Ev.bind b2 (Ev.pos h1 (Ev.pos h2 r2)))⟩
    · obtain ⟨r, r1, r2⟩ := Whole_j0 hu hl a b (startR t a).1 true
      exact ⟨r, Ev.bind a1 (Ev.bind b1 (Ev.pos h1 (Ev.neg h2 r1))), Ev.bind a2 (Ev.bind b2 (Ev.pos h1 (Ev.neg h2 r2)))⟩
  · obtain ⟨r, r1, r2⟩ := Whole_j0 hu hl a b (startR t a).1 true
    exact ⟨r, Ev.bind a1 (Ev.bind b1 (Ev.neg h1 r1)), Ev.bind a2 (Ev.bind b2 (Ev.neg h1 r2))⟩
theorem ExtentWhole : Say.ExtentWhole := by
  intro t a b ht ha hb
  have hu : u8s t = true := u8s_ok ht
  have hl : t.length ≤ 140737488355328 := by have h1 : t.length * 1 ≤ 140737488351232 := ht.1; omega
  refine Ev.rounds (g := fun k => quoinlaw14_ExtentWhole.f k t a b) ?_
  obtain ⟨r, r1, r2⟩ := Whole_both hu hl a b (by have := ha.2; omega) (by have := hb.2; omega)
  exact Ev.bind alive_ev (Ev.pos rfl (Ev.bind r2 (Ev.bind r1 (Ev.pos (by simp) (Ev.const (by simp))))))
end Go.Proofs.Ytlcdnpecoaamcaa.Pure
