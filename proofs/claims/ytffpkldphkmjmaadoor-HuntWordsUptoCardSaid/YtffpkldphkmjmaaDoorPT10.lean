/-
  Patterns, by hand: what Find tells, in plain Lean.
-/
import Derived.Test.YtffpkldphkmjmaaDoorPT9
namespace Go.Proofs.YtffpkldphkmjmaaDoor.PT
open Go.RowKit Go.Proofs.YtffpkldphkmjmaaDoorW.PrintWords Go.Proofs.YtffpkldphkmjmaaDoorW.PrintMore
set_option linter.unusedVariables false
theorem first_spec (E : List Int) : ∀ (d : Nat) (a : Int), 0 ≤ a → (E.length : Int) < a + d →
    ((firstV E d a).2 = true → a ≤ (firstV E d a).1 ∧ (firstV E d a).1 < E.length ∧ 0 ≤ rd E (firstV E d a).1 ∧ ∀ j, a ≤ j → j < (firstV E d a).1 → rd E j < 0) ∧
    ((firstV E d a).2 = false → (firstV E d a).1 = 0 ∧ ∀ j, a ≤ j → j < E.length → rd E j < 0) := by
  intro d
  induction d with
  | zero =>
    intro a h0 h1
    exact ⟨fun h => (nomatch h), fun _ => ⟨rfl, fun j h2 h3 => by omega⟩⟩
  | succ d ih =>
    intro a h0 h1
    unfold firstV
    by_cases h3 : a < (E.length : Int)
    · rw [if_pos h3]
      by_cases h4 : rd E a ≥ 0
      · rw [if_pos h4]
        exact ⟨fun _ => ⟨Int.le_refl _, h3, h4, fun j h5 h6 => by simp only at h6; omega⟩, fun h => (nomatch h)⟩
      · rw [if_neg h4]
        have ih := ih (a + 1) (by omega) (by omega)
        refine ⟨fun h => ?_, fun h => ?_⟩
        · obtain ⟨h5, h6, h7, h8⟩ := ih.1 h
          exact ⟨by omega, h6, h7, fun j h9 h10 => by
            by_cases e : j = a
            · subst e; omega
            · exact h8 j (by omega) h10⟩
        · obtain ⟨h5, h6⟩ := ih.2 h
          exact ⟨h5, fun j h9 h10 => by
            by_cases e : j = a
            · subst e; omega
            · exact h6 j (by omega) h10⟩
    · rw [if_neg h3]
      exact ⟨fun h => (nomatch h), fun _ => ⟨rfl, fun j h5 h6 => by omega⟩⟩
/-- The ends lie behind the places, within the line. -/
def Fine (n : Nat) (E : List Int) : Prop := E.length = n + 1 ∧ ∀ j : Nat, j ≤ n → rd E (j : Int) = -1 ∨ ((j : Int) ≤ rd E (j : Int) ∧ rd E (j : Int) ≤ n)
theorem mx_fine {line : List Int} {S : Nat → Bool} {E : List Int} {n : Nat} (h : Fine n E) : ∀ (d i : Nat), i + d ≤ n → mx line S E d i = -1 ∨ ((i : Int) ≤ mx line S E d i ∧ mx line S E d i ≤ n) := by
  intro d
  induction d with
  | zero => intro i hi; exact h.2 i (by omega)
  | succ d ih =>
    intro i hi
    unfold mx
    have h1 := h.2 i (by omega)
    have h2 := ih (i + 1) (by omega)
    split
    · generalize mx line S E d (i + 1) = M at h2
      generalize rd E (i : Int) = R at h1
      omega
    · exact h1
theorem step_fine {line : List Int} {E : List Int} (x : PTh) (h : Fine line.length E) : Fine line.length (stepV line x E) := by
  have hm : ∀ f : Int → Bool, Fine line.length (mask E f line.length) := fun f => ⟨mask_len, fun j hj => by
    rw [mask_rd (by omega)]
    split
    · exact h.2 j hj
    · exact .inl rfl⟩
  cases x with
  | single S =>
    refine ⟨by simp [stepV], fun j hj => ?_⟩
    have e : rd (stepV line (.single S) E) (j : Int) = _ := rd_gen _ (fun i : Nat => if i < line.length ∧ S (rd line (i : Int)).toNat = true then rd E ((i : Int) + 1) else -1) (show j < line.length + 1 by omega)
    rw [e]
    split
    · rename_i h2
      have h3 := h.2 (j + 1) (by omega)
      rw [show ((j + 1 : Nat) : Int) = (j : Int) + 1 from by omega] at h3
      omega
    · exact .inl rfl
  | many S =>
    refine ⟨by simp [stepV], fun j hj => ?_⟩
    have e : rd (stepV line (.many S) E) (j : Int) = _ := rd_gen _ (fun i : Nat => mx line S E (line.length - i) i) (show j < line.length + 1 by omega)
    rw [e]
    exact mx_fine h _ _ (by omega)
  | front => exact hm _
  | back => exact hm _
  | opens => exact hm _
  | closes => exact hm _
theorem endsV_fine (line : List Int) : ∀ l : List PTh, Fine line.length (endsV line l) := by
  intro l
  induction l with
  | nil =>
    refine ⟨by simp [endsV, endsI], fun j hj => ?_⟩
    have e : rd (endsV line []) (j : Int) = (j : Int) := rd_gen _ (fun i : Nat => (i : Int)) (show j < line.length + 1 by omega)
    rw [e]
    omega
  | cons x l ih => exact step_fine x ih
/-- What Find tells: a match, the first from there on, or none. -/
theorem find_spec (line : List Int) (pl : List PTh) (f : Int) :
    ((findV line pl f).2.2 = true → 0 ≤ f ∧ f ≤ (findV line pl f).1 ∧ (findV line pl f).1 ≤ (findV line pl f).2.1 ∧ (findV line pl f).2.1 ≤ line.length ∧ (findV line pl f).2.1 = rd (endsV line pl) (findV line pl f).1 ∧ ∀ j, f ≤ j → j < (findV line pl f).1 → rd (endsV line pl) j < 0) ∧
    ((findV line pl f).2.2 = false → findV line pl f = (0, 0, false) ∧ (0 ≤ f → ∀ j, f ≤ j → j ≤ line.length → rd (endsV line pl) j < 0)) := by
  have hf := endsV_fine line pl
  unfold findV
  generalize endsV line pl = E at hf ⊢
  by_cases h : f < 0 ∨ f > (line.length : Int)
  · rw [if_pos h]
    exact ⟨fun h => (nomatch h), fun _ => ⟨rfl, fun h1 j h2 h3 => by omega⟩⟩
  · rw [if_neg h]
    have hs := first_spec E (line.length + 1 + 2) f (by omega) (by rw [hf.1]; omega)
    generalize firstV E (line.length + 1 + 2) f = r at hs ⊢
    obtain ⟨r1, r2⟩ := r
    cases r2
    · rw [if_neg (fun h => (nomatch h))]
      refine ⟨fun h => (nomatch h), fun _ => ⟨rfl, fun _ j h2 h3 => (hs.2 rfl).2 j h2 (by rw [hf.1]; omega)⟩⟩
    · rw [if_pos rfl]
      refine ⟨fun _ => ?_, fun h => (nomatch h)⟩
      obtain ⟨h1, h2, h3, h4⟩ := hs.1 rfl
      simp only at h1 h2 h3 h4 ⊢
      rw [hf.1] at h2
      have h5 := hf.2 r1.toNat (by omega)
      rw [Int.toNat_of_nonneg (by omega)] at h5
      exact ⟨by omega, h1, by omega, by omega, trivial, h4⟩
end Go.Proofs.YtffpkldphkmjmaaDoor.PT
