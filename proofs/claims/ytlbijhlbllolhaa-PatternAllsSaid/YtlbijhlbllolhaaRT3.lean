/-
  The reference of patterns, by hand: things.
-/
import Derived.Test.YtlbijhlbllolhaaRT2
namespace Go.Proofs.Ytlbijhlbllolhaa.PT
open Go.RowKit Go.Proofs.YtlbijhlbllolhaaW.PrintWords Go.Proofs.YtlbijhlbllolhaaW.PrintMore
set_option linter.unusedVariables false
def starB (l : List PTh) : Bool := match l.getLast? with
  | some (.many _) => true
  | some .back => true
  | some .opens => true
  | some .closes => true
  | _ => false
def bareB (l : List PTh) : Bool := match l.getLast? with
  | none => true
  | some .front => true
  | _ => false
theorem comp_step {p : List Int} {d a a' : Nat} {l l' : List PTh} (h : a < p.length) (hn : nextV p a l = (a', -1, l')) : compL p (d + 1) a l = compL p d a' l' := by
  conv => lhs; unfold compL
  rw [if_pos h, hn]
  exact if_neg (show ¬ ((-1 : Int) ≥ 0) by decide)
theorem comp_fault {p : List Int} {d a : Nat} {l : List PTh} {f : Int} (h : a < p.length) (hn : (nextV p a l).2.1 = f) (hf : 0 ≤ f) : compL p (d + 1) a l = (f, l) := by
  conv => lhs; unfold compL
  rw [if_pos h, hn, if_pos (show f ≥ 0 from hf)]
theorem nx_front {p : List Int} {l : List PTh} (h : rd p 0 = 94) : nextV p 0 l = (1, -1, l ++ [.front]) := by
  unfold nextV
  exact if_pos ⟨h, rfl⟩
section
variable {p : List Int} {a : Nat} {l : List PTh}
theorem nx_star (h : rd p a = 42) : nextV p a l = (a + 1, (starV a l).1, (starV a l).2) := by
  unfold nextV
  rw [if_neg (by omega), if_neg (by omega), if_neg (by omega), if_neg (by omega), if_pos h]
theorem nx_starred (h : rd p a = 42) (hs : starB l = true) : (nextV p a l).2.1 = (a : Int) := by
  rw [nx_star h]
  show (starV a l).1 = a
  unfold starB at hs
  unfold starV
  split at hs <;> simp_all
theorem nx_many {l0 : List PTh} {S : Nat → Bool} (h : rd p a = 42) (e : l = l0 ++ [.single S]) : nextV p a l = (a + 1, -1, l0 ++ [.many S]) := by
  rw [nx_star h]
  unfold starV
  subst e
  simp
theorem nx_bare (h : rd p a = 42) (hs : bareB l = true) : nextV p a l = (a + 1, -1, l ++ [.single fun j => j == 42]) := by
  rw [nx_star h]
  unfold bareB at hs
  unfold starV
  split at hs <;> simp_all
theorem nx_back (h : rd p a = 36) (e : a + 1 = p.length) : nextV p a l = (a + 1, -1, l ++ [.back]) := by
  unfold nextV
  rw [if_neg (by omega), if_pos ⟨h, e⟩]
theorem nx_dot (h : rd p a = 46) : nextV p a l = (a + 1, -1, l ++ [.single fun j => decide (j < 256)]) := by
  unfold nextV
  rw [if_neg (by omega), if_neg (by omega), if_pos h]
theorem nx_set (h : rd p a = 91) : nextV p a l = ((brkV p (a + 1) (-1)).2.1, (brkV p (a + 1) (-1)).2.2, l ++ [.single (brkV p (a + 1) (-1)).1]) := by
  unfold nextV
  rw [if_neg (by omega), if_neg (by omega), if_neg (by omega), if_pos h]
theorem nx_mask (h : rd p a = 92) : nextV p a l = (if p.length ≤ a + 1 then (a + 1, (a : Int), l) else if rd p ((a : Int) + 1) = 60 then (a + 2, -1, l ++ [.opens]) else if rd p ((a : Int) + 1) = 62 then (a + 2, -1, l ++ [.closes]) else (a + 2, -1, l ++ [.single fun j => j == (rd p ((a : Int) + 1)).toNat])) := by
  unfold nextV
  rw [if_neg (by omega), if_neg (by omega), if_neg (by omega), if_neg (by omega), if_neg (by omega), if_pos h]
theorem nx_byte (h0 : a = 0 → rd p 0 ≠ 94) (h1 : ¬ (rd p a = 36 ∧ a + 1 = p.length)) (h2 : rd p a ≠ 46) (h3 : rd p a ≠ 91) (h4 : rd p a ≠ 92) (h5 : rd p a ≠ 42) : nextV p a l = (a + 1, -1, l ++ [.single fun j => j == (rd p a).toNat]) := by
  unfold nextV
  rw [if_neg (by rintro ⟨h, rfl⟩; exact h0 rfl h), if_neg h1, if_neg h2, if_neg h3, if_neg h5, if_neg h4]
end
theorem brkL_le {p : List Int} : ∀ (d a : Nat) (tu : Int) (f : Bool) (S : Nat → Bool), a ≤ p.length → (brkL p d a tu f S).2.1 ≤ p.length := by
  intro d
  induction d with
  | zero => intro a tu f S h; exact h
  | succ d ih =>
    intro a tu f S h
    unfold brkL
    split
    · exact h
    · split
      · show a + 1 ≤ p.length
        omega
      · split
        · exact ih (a + 3) _ _ _ (by omega)
        · exact ih (a + 1) _ _ _ (by omega)
theorem brkV_le {p : List Int} {a : Nat} (f : Int) (h : a ≤ p.length) : (brkV p a f).2.1 ≤ p.length := by
  have h2 : (brkR p a).2.1 ≤ p.length := by
    unfold brkR
    refine brkL_le _ _ _ _ _ ?_
    split
    · rename_i h3
      unfold brkN at h3
      rw [Bool.and_eq_true, decide_eq_true_iff] at h3
      omega
    · exact h
  unfold brkV
  split <;> exact h2
theorem starB_snoc (l : List PTh) (y : RT) (h : y.1 = 0 ∨ y.1 = 3 ∨ y.1 = 4 ∨ y.1 = 5) : starB (l ++ [RTd y]) = (y.1 != 0) ∧ bareB (l ++ [RTd y]) = false := by
  obtain ⟨k, S⟩ := y
  simp only at h
  unfold starB bareB RTd
  rcases h with rfl | rfl | rfl | rfl <;> simp
theorem starB_many (l : List PTh) (S : Nat → Bool) : starB (l ++ [.many S]) = true ∧ bareB (l ++ [.many S]) = false := by
  unfold starB bareB
  simp
/-- A * that changes the last thing: it's a single. -/
theorem last_single {l : List PTh} (h1 : starB l = false) (h2 : bareB l = false) : ∃ l0 S, l = l0 ++ [.single S] := by
  rcases List.eq_nil_or_concat l with rfl | ⟨l0, x, rfl⟩
  · cases h2
  · rw [List.concat_eq_append] at h1 h2 ⊢
    unfold starB at h1
    unfold bareB at h2
    cases x with
    | single S => exact ⟨l0, S, rfl⟩
    | _ => simp at h1 h2
theorem RTd_single {x : RT} {S : Nat → Bool} (h : RTd x = .single S) : x.1 = 0 ∧ x.2 = S := by
  obtain ⟨k, S'⟩ := x
  unfold RTd at h
  by_cases e0 : k = 0
  · simp only at h ⊢; rw [if_pos e0] at h; injection h with h; exact ⟨e0, h⟩
  · simp only at h
    rw [if_neg e0] at h
    split at h
    · cases h
    · split at h
      · cases h
      · split at h
        · cases h
        · split at h <;> cases h
end Go.Proofs.Ytlbijhlbllolhaa.PT
