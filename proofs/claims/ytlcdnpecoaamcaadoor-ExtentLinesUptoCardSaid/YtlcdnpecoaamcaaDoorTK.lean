/-
  extent.Take comes to one plain function.
  Conditions: the text has at most 1048576 bytes.
-/
import Derived.Test.YtlcdnpecoaamcaaDoorXL
import Derived.Test.YtlcdnpecoaamcaaDoorXO
import Derived.Test.YtlcdnpecoaamcaaDoorX6
import Derived.Test.YtlcdnpecoaamcaaDoorX14
namespace Go.Proofs.YtlcdnpecoaamcaaDoor.TK
open Go.RowKit Go.Proofs.YtlcdnpecoaamcaaDoorW.PrintWords Go.Proofs.YtlcdnpecoaamcaaDoorW.PrintMore Go.Proofs.YtlcdnpecoaamcaaDoor.X Go.Proofs.YtlcdnpecoaamcaaDoor.XL Go.Proofs.YtlcdnpecoaamcaaDoor.XO
set_option linter.unusedVariables false
def closeV (L D : Bool) (x : List Int) : List Int := if L = true ∧ (D = true ∨ (x.length : Int) = 0 ∨ rd x ((x.length : Int) - 1) ≠ 10) then x ++ [10] else x
def badV (t : List Int) (a b : Int) (L D : Bool) : Prop := a < 0 ∨ a > b ∨ b > (t.length : Int) ∨ (L = true ∧ D = true ∧ (a = (t.length : Int) ∨ rd t a ≠ 10))
instance (t : List Int) (a b : Int) (L D : Bool) : Decidable (badV t a b L D) := by unfold badV; infer_instance
def takeV (t : List Int) (a b : Int) (L D : Bool) : Bool × Bool × List Int × Int := if badV t a b L D then (false, false, ([] : List Int), 2) else (true, L, closeV L D ((t.take b.toNat).drop (if L = true ∧ D = true then a + 1 else a).toNat), 0)
theorem close_on {L D : Bool} {x : List Int} (h : L = true ∧ (D = true ∨ (x.length : Int) = 0 ∨ rd x ((x.length : Int) - 1) ≠ 10)) : closeV L D x = x ++ [10] := if_pos h
theorem close_off {L D : Bool} {x : List Int} (h : ¬ (L = true ∧ (D = true ∨ (x.length : Int) = 0 ∨ rd x ((x.length : Int) - 1) ≠ 10))) : closeV L D x = x := if_neg h
theorem ref_end (L D : Bool) (x : List Int) (hx : x.length ≤ 1048577) : (if L = true then (if D = true then (if x.length < 140737488355328 then (some (true, L, (x ++ [10]), (0 : Int))) else (none)) else (if (x.length : Int) = 0 then (if x.length < 140737488355328 then (some (true, L, (x ++ [10]), 0)) else (none)) else (if 0 ≤ (wrap64 ((x.length : Int) - 1)) then (if (wrap64 ((x.length : Int) - 1)) < (x.length : Int) then (if (rd x (wrap64 ((x.length : Int) - 1))) = 10 then (some (true, L, x, 0)) else (if x.length < 140737488355328 then (some (true, L, (x ++ [10]), 0)) else (none))) else (none)) else (none)))) else (some (true, L, x, 0))) = some (true, L, closeV L D x, 0) := by
  rw [wrap64_id (n := (x.length : Int) - 1) (by omega) (by omega)]
  by_cases hL : L = true
  · rw [if_pos hL]
    by_cases hD : D = true
    · rw [if_pos hD, if_pos (by omega), close_on ⟨hL, .inl hD⟩]
    · rw [if_neg hD]
      by_cases h0 : (x.length : Int) = 0
      · rw [if_pos h0, if_pos (by omega), close_on ⟨hL, .inr (.inl h0)⟩]
      · rw [if_neg h0, if_pos (by omega), if_pos (by omega)]
        by_cases h1 : rd x ((x.length : Int) - 1) = 10
        · rw [if_pos h1, close_off (fun h => h.2.elim hD (fun h => h.elim h0 (fun h => h h1)))]
        · rw [if_neg h1, if_pos (by omega), close_on ⟨hL, .inr (.inr h1)⟩]
  · rw [if_neg hL, close_off (fun h => hL h.1)]
theorem drop_next {x : List Int} {p : Nat} (h : p < x.length) : x.drop p = rd x (p : Int) :: x.drop (p + 1) := by
  unfold rd
  rw [Int.toNat_natCast, List.getD_eq_getElem?_getD, List.getElem?_eq_getElem h, Option.getD_some]
  exact List.drop_eq_getElem_cons h
theorem rd_take {x : List Int} {p n : Nat} (h : p < n) : rd (x.take n) (p : Int) = rd x (p : Int) := by
  unfold rd
  rw [Int.toNat_natCast, List.getD_eq_getElem?_getD, List.getD_eq_getElem?_getD, List.getElem?_take_of_lt h]
theorem clone_eq {x : List Int} (h : x.length ≤ 1048577) : slices_Clone_byte_byte.f x = some x := if_pos (by omega)
section
variable {t : List Int} (hl : t.length ≤ 1048576)
include hl
theorem ext_ev (a b : Int) (L D : Bool) : Ev (fun k => extent_Take.f k t a b L D) (takeV t a b L D) := by
  have hbad : ∀ (h : badV t a b L D), Ev (fun k => extent_Take.j0 k t true a b L D) (takeV t a b L D) := fun h => by
    unfold takeV
    rw [if_pos h]
    exact Ev.step (fun k => extent_Take.j0.eq_2 ..) (Ev.pos rfl (Ev.now _))
  by_cases h1 : a < 0
  · exact Ev.pos h1 (hbad (.inl h1))
  by_cases h2 : a > b
  · exact Ev.neg h1 (Ev.pos h2 (hbad (.inr (.inl h2))))
  refine Ev.neg h1 (Ev.neg h2 ?_)
  by_cases h3 : b > (t.length : Int)
  · rw [decide_eq_true h3]
    exact hbad (.inr (.inr (.inl h3)))
  rw [decide_eq_false h3]
  obtain ⟨p, rfl⟩ : ∃ p : Nat, a = (p : Int) := ⟨a.toNat, by omega⟩
  obtain ⟨q, rfl⟩ : ∃ q : Nat, b = (q : Int) := ⟨b.toNat, by omega⟩
  have hno : ∀ (h : badV t (p : Int) (q : Int) L D), Ev (fun k => extent_Take.j1 k t true (p : Int) (q : Int) L D) (takeV t (p : Int) (q : Int) L D) := fun h => by
    unfold takeV
    rw [if_pos h]
    exact Ev.step (fun k => extent_Take.j1.eq_2 ..) (Ev.pos rfl (Ev.now _))
  have hlen : ∀ x : List Int, x.length ≤ t.length → x.length ≤ 1048577 := fun x h => by omega
  have hcut : ((t.take q).drop p).length ≤ t.length := by rw [List.length_drop, List.length_take]; omega
  refine Ev.step (fun k => extent_Take.j0.eq_2 ..) (Ev.neg (by decide) ?_)
  by_cases hL : L = true
  · refine Ev.pos hL (Ev.pos (by omega) (Ev.pos (by omega) (Ev.pos (by omega) ?_)))
    by_cases hD : D = true
    · refine Ev.pos hD ?_
      by_cases he : (p : Int) = (t.length : Int)
      · exact Ev.pos he (hno (.inr (.inr (.inr ⟨hL, hD, .inl he⟩))))
      · refine Ev.neg he (Ev.pos (by omega) ?_)
        by_cases h10 : rd t (p : Int) = 10
        · rw [show (rd t (p : Int) != 10) = false from by rw [h10]; rfl]
          unfold takeV
          rw [if_neg (fun h : badV t (p : Int) (q : Int) L D => h.elim (by omega) (fun h => h.elim (by omega) (fun h => h.elim (by omega) (fun h => h.2.2.elim he (fun h => h h10))))), if_pos ⟨hL, hD⟩, close_on ⟨hL, .inl hD⟩]
          refine Ev.step (fun k => extent_Take.j1.eq_2 ..) (Ev.neg (by decide) ?_)
          rw [wrap64_id (n := (p : Int) + 1) (by omega) (by omega), mx_eq]
          have hs : (t.take (max ((p : Int) + 1) (q : Int)).toNat).drop ((p : Int) + 1).toNat = (t.take (q : Int).toNat).drop ((p : Int) + 1).toNat := by
            by_cases hpq : p + 1 ≤ q
            · rw [show max ((p : Int) + 1) (q : Int) = (q : Int) from by omega]
            · rw [List.drop_eq_nil_of_le (by rw [List.length_take]; omega), List.drop_eq_nil_of_le (by rw [List.length_take]; omega)]
          refine Ev.pos (by omega) (Ev.pos (by omega) (Ev.pos (by omega) (Ev.cbind (clone_eq (hlen _ (by rw [List.length_drop, List.length_take]; omega))) (Ev.pos hD (Ev.pos (by rw [List.length_drop, List.length_take]; omega) ?_)))))
          exact Ev.eq (Ev.now _) (by rw [hs, hL])
        · rw [show (rd t (p : Int) != 10) = true from bne_iff_ne.2 h10]
          exact hno (.inr (.inr (.inr ⟨hL, hD, .inr h10⟩)))
    · unfold takeV
      rw [if_neg (fun h : badV t (p : Int) (q : Int) L D => h.elim (by omega) (fun h => h.elim (by omega) (fun h => h.elim (by omega) (fun h => hD h.2.1)))), if_neg (fun h : L = true ∧ D = true => hD h.2)]
      refine Ev.neg hD (Ev.cbind (clone_eq (hlen _ hcut)) ?_)
      have h := ref_end L D ((t.take (q : Int).toNat).drop (p : Int).toNat) (hlen _ hcut)
      rw [if_pos hL, if_neg hD, hL] at h
      refine Ev.const ?_
      rw [hL]
      exact h
  · unfold takeV
    rw [if_neg (fun h : badV t (p : Int) (q : Int) L D => h.elim (by omega) (fun h => h.elim (by omega) (fun h => h.elim (by omega) (fun h => hL h.1)))), if_neg (fun h : L = true ∧ D = true => hL h.1), close_off (fun h => hL h.1)]
    refine Ev.neg hL (Ev.pos (by omega) (Ev.pos (by omega) (Ev.pos (by omega) (Ev.cbind (clone_eq (hlen _ hcut)) ?_))))
    exact Ev.eq (Ev.now _) (by rw [Bool.not_eq_true] at hL; rw [hL])
end
theorem alive_ev : Ev (fun k => quoinlaw14_alive.f k) true := Ev.of quoinlaw14_alive.mono (k := 40) (by decide +kernel)
theorem close_len (L D : Bool) (x : List Int) : (closeV L D x).length ≤ x.length + 1 := by
  unfold closeV
  split
  · rw [List.length_append, List.length_singleton]; omega
  · omega
theorem takeV_len {t : List Int} (h : t.length ≤ 1048576) (a b : Int) (L D : Bool) : (takeV t a b L D).2.2.1.length ≤ 1048577 := by
  unfold takeV
  split
  · exact Nat.zero_le _
  · have hc : ((t.take b.toNat).drop (if L = true ∧ D = true then a + 1 else a).toNat).length ≤ t.length := by rw [List.length_drop, List.length_take]; omega
    have h1 := close_len L D ((t.take b.toNat).drop (if L = true ∧ D = true then a + 1 else a).toNat)
    simp only
    omega
end Go.Proofs.YtlcdnpecoaamcaaDoor.TK
