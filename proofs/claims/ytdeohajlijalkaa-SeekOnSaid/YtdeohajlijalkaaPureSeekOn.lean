/-
  SeekOn, the pure statement: ; and , go on the way that they should.
  Conditions: none.
-/
import Derived.Test.YtdeohajlijalkaaSK
import Derived.Test.YtdeohajlijalkaaSaySeekOn
import Derived.Test.YtdeohajlijalkaaX26
namespace Go.Proofs.Ytdeohajlijalkaa.Pure
open Go.RowKit Go.Proofs.YtdeohajlijalkaaW.PrintWords Go.Proofs.YtdeohajlijalkaaW.PrintMore Go.Proofs.Ytdeohajlijalkaa.X Go.Proofs.Ytdeohajlijalkaa.XL Go.Proofs.Ytdeohajlijalkaa.XO Go.Proofs.Ytdeohajlijalkaa.LN Go.Proofs.Ytdeohajlijalkaa.SK
theorem moveR_spec {t : List Int} {a skip n : Nat} {key b : Int} (hk : keyOk key) (hs : skip = skipOf key) :
    moveR t a skip n key b = (0, 0, 0, 70) ∨ ∃ to_ : Int, moveR t a skip n key b = ((a : Int), to_, if isA key = true then 2 else 1, 0) ∧ (isA key = true → (a : Int) < to_) ∧ (isA key = false → to_ < (a : Int)) := by
  unfold moveR
  cases hq : SK.look t a skip n key b with
  | none => exact .inl rfl
  | some q =>
    right
    have hs1 : 1 ≤ skip := by rw [hs]; unfold skipOf; split <;> omega
    obtain ⟨_, _, _, h1, h2⟩ := look_some hs1 hq
    rcases hk with h | h | h | h <;> subst h
    · have h3 := h1 rfl
      exact ⟨(q : Int), rfl, fun _ => by omega, fun h => by cases h⟩
    · have h3 := h2 rfl
      exact ⟨(q : Int), rfl, (fun h => by cases h), (fun _ => by omega)⟩
    · have h3 := h1 rfl
      have h4 : skip = 2 := hs
      exact ⟨(q : Int) - 1, rfl, fun _ => by omega, fun h => by cases h⟩
    · have h3 := h2 rfl
      have h4 : skip = 2 := hs
      exact ⟨(q : Int) + 1, rfl, (fun h => by cases h), (fun _ => by omega)⟩
theorem SeekOn : Say.SeekOn := by
  rintro ⟨t, at_, count, ⟨key, b⟩, z⟩ ⟨ht, ha, hc, ⟨hk, hb⟩, _⟩
  have hu := u8s_ok ht
  have hl : t.length ≤ 140737488355328 := by have h1 : t.length * 1 ≤ 140737488351232 := ht.1; omega
  refine Ev.rounds (g := fun k => quoinlaw09_SeekOn.f k t at_ count key b z) ?_
  refine Ev.bind awake_ev (Ev.pos rfl (Ev.bind (Again_ev hu hl at_ count key b z) (Ev.const ?_)))
  unfold AgainR
  by_cases h : badB t at_ count = true
  · rw [if_pos h]; rfl
  · rw [if_neg h]
    have hbd := bad_false h
    by_cases h0 : key = 0
    · rw [if_pos h0]; rfl
    · rw [if_neg h0]
      by_cases hkb : keyB key = true
      · rw [if_pos hkb]
        have e : ((at_.toNat : Nat) : Int) = at_ := by omega
        rcases moveR_spec (t := t) (a := at_.toNat) (n := cntN count) (b := b) (turned_ok hkb z) rfl with h1 | ⟨to_, h1, h2, h3⟩
        · rw [h1]; rfl
        · rw [h1, e]
          rw [e] at h2 h3
          rcases keyOk_of hkb with hk' | hk' | hk' | hk' <;> subst hk' <;> cases z
          · have h4 := h2 rfl
            rw [if_pos (show isA (turned 102 false) = true from rfl)]
            simp [h4]
          · have h4 := h3 rfl
            rw [if_neg (show ¬ isA (turned 102 true) = true from by decide)]
            simp [h4]
          · have h4 := h3 rfl
            rw [if_neg (show ¬ isA (turned 70 false) = true from by decide)]
            simp [h4]
          · have h4 := h2 rfl
            rw [if_pos (show isA (turned 70 true) = true from rfl)]
            simp [h4]
          · have h4 := h2 rfl
            rw [if_pos (show isA (turned 116 false) = true from rfl)]
            simp [h4]
          · have h4 := h3 rfl
            rw [if_neg (show ¬ isA (turned 116 true) = true from by decide)]
            simp [h4]
          · have h4 := h3 rfl
            rw [if_neg (show ¬ isA (turned 84 false) = true from by decide)]
            simp [h4]
          · have h4 := h2 rfl
            rw [if_pos (show isA (turned 84 true) = true from rfl)]
            simp [h4]
      · rw [if_neg hkb]; rfl
end Go.Proofs.Ytdeohajlijalkaa.Pure
