/-
  extent.Of and its second account: the parts (Count, Of, indented), plainly.
-/
import Derived.Test.YtlcdnpecoaamcaaLN
import Derived.Test.YtlcdnpecoaamcaaPureExtentWhole
import Derived.Test.YtlcdnpecoaamcaaX18
import Derived.Test.YtlcdnpecoaamcaaX19
import Derived.Test.YtlcdnpecoaamcaaX20
import Derived.Test.YtlcdnpecoaamcaaX17
import Derived.Test.YtlcdnpecoaamcaaX8
import Derived.Test.YtlcdnpecoaamcaaX9
import Derived.Test.YtlcdnpecoaamcaaX11
import Derived.Test.YtlcdnpecoaamcaaX21
namespace Go.Proofs.Ytlcdnpecoaamcaa.Pure
open Go.RowKit Go.Proofs.YtlcdnpecoaamcaaW.PrintWords Go.Proofs.YtlcdnpecoaamcaaW.PrintMore Go.Proofs.Ytlcdnpecoaamcaa.X Go.Proofs.Ytlcdnpecoaamcaa.XL Go.Proofs.Ytlcdnpecoaamcaa.XO Go.Proofs.Ytlcdnpecoaamcaa.LN
theorem refCount_l0 {t : List Int} (hl : t.length ≤ 140737488355328) : ∀ (d p : Nat) (c : Int), p + d = t.length → 0 ≤ c → c ≤ (p : Int) + 1 →
    Ev (fun k => quoinref05_Count.l0 k t c (p : Int)) (c + cnt 10 (t.drop p)) := by
  intro d
  induction d with
  | zero =>
    intro p c hp h0 h1
    rw [List.drop_eq_nil_of_le (by omega)]
    exact Ev.step (fun k => rfl) (Ev.neg (by omega) (Ev.eq (Ev.now _) (by simp [cnt])))
  | succ d ih =>
    intro p c hp h0 h1
    refine Ev.step (f := fun k => if (p : Int) < (t.length : Int) then (if 0 ≤ (p : Int) then (if (rd t (p : Int)) = 10 then (quoinref05_Count.l0 k t (wrap64 (c + 1)) (wrap64 ((p : Int) + 1))) else (quoinref05_Count.l0 k t c (wrap64 ((p : Int) + 1)))) else (none)) else (some c)) (fun k => rfl) (Ev.pos (by omega) (Ev.pos (by omega) ?_))
    rw [rd_nat, wrap64_id (n := (p : Int) + 1) (by omega) (by omega), wrap64_id (n := c + 1) (by omega) (by omega), show (p : Int) + 1 = ((p + 1 : Nat) : Int) from by omega]
    have hd : t.drop p = t.getD p 0 :: t.drop (p + 1) := by
      rw [List.drop_eq_getElem_cons (by omega : p < t.length), List.getD_eq_getElem?_getD, List.getElem?_eq_getElem (by omega)]
      rfl
    rw [hd]
    by_cases hx : t.getD p 0 = 10
    · refine Ev.pos hx (Ev.eq (ih (p + 1) (c + 1) (by omega) (by omega) (by omega)) ?_)
      simp only [cnt]
      rw [if_pos hx]
      omega
    · refine Ev.neg hx (Ev.eq (ih (p + 1) c (by omega) (by omega) (by omega)) ?_)
      simp only [cnt]
      rw [if_neg hx]
      omega
/-- The number of a place's line. -/
def ofR (t : List Int) (a : Int) : Int × Int := if 0 ≤ a ∧ a ≤ t.length then (cnt 10 (t.take a.toNat), 0) else (0, 2)
theorem refOf_ev {t : List Int} (hl : t.length ≤ 140737488355328) (a : Int) : Ev (fun k => quoinref05_Of.f k t a) (ofR t a) := by
  unfold ofR
  by_cases h0 : a < 0
  · rw [if_neg (by omega)]
    exact Ev.pos h0 (Ev.now _)
  · by_cases h1 : a > (t.length : Int)
    · rw [if_neg (by omega)]
      exact Ev.neg h0 (Ev.pos h1 (Ev.now _))
    · rw [if_pos (by omega)]
      have hlen : (t.take a.toNat).length = a.toNat := by rw [List.length_take]; omega
      have h2 := refCount_l0 (t := t.take a.toNat) (by omega) a.toNat 0 1 (by omega) (by omega) (by omega)
      rw [List.drop_zero] at h2
      have h3 := cnt_nonneg 10 (t.take a.toNat)
      have h4 := cnt_le 10 (t.take a.toNat)
      refine Ev.neg h0 (Ev.neg h1 (Ev.pos (by omega) (Ev.pos (by omega) (Ev.bind h2 (Ev.eq (Ev.now _) ?_)))))
      rw [wrap64_id (by omega) (by omega)]
      congr 1
      omega
theorem indented_l0 {t : List Int} (hl : t.length ≤ 140737488355328) : ∀ (p : Nat), p ≤ t.length →
    Ev (fun k => quoinref14_indented.l0 k t (p : Int)) (isblank ((t.take p).drop (beg t p))) := by
  intro p
  induction p with
  | zero =>
    intro _
    exact Ev.step (f := fun k => if (0 : Int) > 0 then (if 0 ≤ (wrap64 ((0 : Int) - 1)) then (if (wrap64 ((0 : Int) - 1)) < (t.length : Int) then (quoinref14_indented.j1 k t 0 ((rd t (wrap64 ((0 : Int) - 1))) != 10)) else (none)) else (none)) else (quoinref14_indented.j1 k t 0 false)) (fun k => rfl) (Ev.neg (by omega) (Ev.step (f := fun _ => some true) (fun k => rfl) (Ev.now _)))
  | succ p ih =>
    intro hp
    have hb := beg_le t p
    refine Ev.step (f := fun k => if ((p + 1 : Nat) : Int) > 0 then (if 0 ≤ (wrap64 (((p + 1 : Nat) : Int) - 1)) then (if (wrap64 (((p + 1 : Nat) : Int) - 1)) < (t.length : Int) then (quoinref14_indented.j1 k t ((p + 1 : Nat) : Int) ((rd t (wrap64 (((p + 1 : Nat) : Int) - 1))) != 10)) else (none)) else (none)) else (quoinref14_indented.j1 k t ((p + 1 : Nat) : Int) false)) (fun k => rfl) (Ev.pos (by omega) ?_)
    have hw : wrap64 (((p + 1 : Nat) : Int) - 1) = (p : Int) := by rw [wrap64_id (by omega) (by omega)]; omega
    rw [hw]
    clear hw
    refine Ev.pos (by omega) (Ev.pos (by omega) ?_)
    rw [rd_nat]
    by_cases hx : t.getD p 0 = 10
    · rw [show (t.getD p 0 != 10) = false from bne_eq_false_iff_eq.2 hx]
      have e : beg t (p + 1) = p + 1 := by unfold beg; rw [if_pos hx]
      rw [e, List.drop_eq_nil_of_le (by rw [List.length_take]; omega)]
      exact Ev.step (f := fun _ => some true) (fun k => rfl) (Ev.now _)
    · rw [show (t.getD p 0 != 10) = true from bne_iff_ne.2 hx]
      have e : beg t (p + 1) = beg t p := by conv => lhs; unfold beg
                                             rw [if_neg hx]
      have hd : (t.take (p + 1)).drop (beg t (p + 1)) = (t.take p).drop (beg t p) ++ [t.getD p 0] := by
        rw [e, take_snoc (by omega), List.drop_append_of_le_length (by rw [List.length_take]; omega)]
      have hi : isblank ((t.take (p + 1)).drop (beg t (p + 1))) = (isblank ((t.take p).drop (beg t p)) && decide (t.getD p 0 = 32 ∨ t.getD p 0 = 9)) := by
        rw [hd]; unfold isblank; simp
      rw [hi]
      refine Ev.step (f := fun k => if 0 ≤ (wrap64 (((p + 1 : Nat) : Int) - 1)) then (if (wrap64 (((p + 1 : Nat) : Int) - 1)) < (t.length : Int) then (if (rd t (wrap64 (((p + 1 : Nat) : Int) - 1))) = 32 then (quoinref14_indented.l0 k t (wrap64 (((p + 1 : Nat) : Int) - 1))) else (if (rd t (wrap64 (((p + 1 : Nat) : Int) - 1))) = 9 then (quoinref14_indented.l0 k t (wrap64 (((p + 1 : Nat) : Int) - 1))) else (some false))) else (none)) else (none)) (fun k => rfl) ?_
      have hw : wrap64 (((p + 1 : Nat) : Int) - 1) = (p : Int) := by rw [wrap64_id (by omega) (by omega)]; omega
      rw [hw]
      clear hw
      refine Ev.pos (by omega) (Ev.pos (by omega) ?_)
      rw [rd_nat]
      by_cases h32 : t.getD p 0 = 32
      · exact Ev.pos h32 (Ev.eq (ih (by omega)) (by rw [decide_eq_true (Or.inl h32), Bool.and_true]))
      · refine Ev.neg h32 ?_
        by_cases h9 : t.getD p 0 = 9
        · exact Ev.pos h9 (Ev.eq (ih (by omega)) (by rw [decide_eq_true (Or.inr h9), Bool.and_true]))
        · exact Ev.neg h9 (Ev.const (by rw [decide_eq_false (fun h => h.elim h32 h9), Bool.and_false]))
/-- The eight operators' names. -/
abbrev names14 : List ByteArray := [(⟨#[100]⟩ : ByteArray), (⟨#[99]⟩ : ByteArray), (⟨#[121]⟩ : ByteArray), (⟨#[62]⟩ : ByteArray), (⟨#[60]⟩ : ByteArray), (⟨#[103, 126]⟩ : ByteArray), (⟨#[103, 117]⟩ : ByteArray), (⟨#[103, 85]⟩ : ByteArray)]
theorem idx_hit {a : ByteArray} (i : Nat) (hi : i < 8) (h : a.toList = (rdOf ByteArray.empty names14 (i : Int)).toList) : Ev (fun k => slices_Index_string_string.l0 k names14 a 8 (i : Int)) (i : Int) :=
  Ev.step (f := fun k => if (i : Int) < 8 then (if 0 ≤ (i : Int) then (if (i : Int) < (names14.length : Int) then (if a.toList = (rdOf ByteArray.empty names14 (i : Int)).toList then (some (i : Int)) else (slices_Index_string_string.l0 k names14 a 8 (wrap64 ((i : Int) + 1)))) else (none)) else (none)) else (some (-1))) (fun k => rfl) (Ev.pos (by omega) (Ev.pos (by omega) (Ev.pos (by show (i : Int) < 8; omega) (Ev.pos h (Ev.now _)))))
theorem idx_next {a : ByteArray} {r : Int} (i : Nat) (hi : i < 8) (h : ¬ a.toList = (rdOf ByteArray.empty names14 (i : Int)).toList) (k : Ev (fun k => slices_Index_string_string.l0 k names14 a 8 ((i + 1 : Nat) : Int)) r) : Ev (fun k => slices_Index_string_string.l0 k names14 a 8 (i : Int)) r := by
  refine Ev.step (f := fun k => if (i : Int) < 8 then (if 0 ≤ (i : Int) then (if (i : Int) < (names14.length : Int) then (if a.toList = (rdOf ByteArray.empty names14 (i : Int)).toList then (some (i : Int)) else (slices_Index_string_string.l0 k names14 a 8 (wrap64 ((i : Int) + 1)))) else (none)) else (none)) else (some (-1))) (fun k => rfl) (Ev.pos (by omega) (Ev.pos (by omega) (Ev.pos (by show (i : Int) < 8; omega) (Ev.neg h ?_))))
  rw [wrap64_id (n := (i : Int) + 1) (by omega) (by omega), show (i : Int) + 1 = ((i + 1 : Nat) : Int) from by omega]
  exact k
/-- slices.Contains over the names and the second account know the same operators. -/
theorem known_both (a : ByteArray) : ∃ r, Ev (fun k => slices_Contains_string_string.f k names14 a) r ∧ quoinref14_known.f a = some r := by
  have fin_ : ∀ {j : Int} {r : Bool}, Ev (fun k => slices_Index_string_string.l0 k names14 a 8 ((0 : Nat) : Int)) j → decide (j ≥ 0) = r → Ev (fun k => slices_Contains_string_string.f k names14 a) r := fun h e => Ev.bind h (Ev.const (by rw [e]))
  have e0 : (rdOf ByteArray.empty names14 ((0 : Nat) : Int)).toList = ([100] : List UInt8) := by decide +kernel
  have e1 : (rdOf ByteArray.empty names14 ((1 : Nat) : Int)).toList = ([99] : List UInt8) := by decide +kernel
  have e2 : (rdOf ByteArray.empty names14 ((2 : Nat) : Int)).toList = ([121] : List UInt8) := by decide +kernel
  have e3 : (rdOf ByteArray.empty names14 ((3 : Nat) : Int)).toList = ([62] : List UInt8) := by decide +kernel
  have e4 : (rdOf ByteArray.empty names14 ((4 : Nat) : Int)).toList = ([60] : List UInt8) := by decide +kernel
  have e5 : (rdOf ByteArray.empty names14 ((5 : Nat) : Int)).toList = ([103, 126] : List UInt8) := by decide +kernel
  have e6 : (rdOf ByteArray.empty names14 ((6 : Nat) : Int)).toList = ([103, 117] : List UInt8) := by decide +kernel
  have e7 : (rdOf ByteArray.empty names14 ((7 : Nat) : Int)).toList = ([103, 85] : List UInt8) := by decide +kernel
  by_cases h0 : a.toList = ([100] : List UInt8)
  · exact ⟨true, fin_ (idx_hit 0 (by omega) (by rw [e0]; exact h0)) rfl, by unfold quoinref14_known.f; rw [if_pos h0]⟩
  by_cases h1 : a.toList = ([99] : List UInt8)
  · exact ⟨true, fin_ (idx_next 0 (by omega) (by rw [e0]; exact h0) (idx_hit 1 (by omega) (by rw [e1]; exact h1))) rfl, by unfold quoinref14_known.f; rw [if_neg h0, if_pos h1]⟩
  by_cases h2 : a.toList = ([121] : List UInt8)
  · exact ⟨true, fin_ (idx_next 0 (by omega) (by rw [e0]; exact h0) (idx_next 1 (by omega) (by rw [e1]; exact h1) (idx_hit 2 (by omega) (by rw [e2]; exact h2)))) rfl, by unfold quoinref14_known.f; rw [if_neg h0, if_neg h1, if_pos h2]⟩
  by_cases h3 : a.toList = ([62] : List UInt8)
  · exact ⟨true, fin_ (idx_next 0 (by omega) (by rw [e0]; exact h0) (idx_next 1 (by omega) (by rw [e1]; exact h1) (idx_next 2 (by omega) (by rw [e2]; exact h2) (idx_hit 3 (by omega) (by rw [e3]; exact h3))))) rfl, by unfold quoinref14_known.f; rw [if_neg h0, if_neg h1, if_neg h2, if_pos h3]⟩
  by_cases h4 : a.toList = ([60] : List UInt8)
  · exact ⟨true, fin_ (idx_next 0 (by omega) (by rw [e0]; exact h0) (idx_next 1 (by omega) (by rw [e1]; exact h1) (idx_next 2 (by omega) (by rw [e2]; exact h2) (idx_next 3 (by omega) (by rw [e3]; exact h3) (idx_hit 4 (by omega) (by rw [e4]; exact h4)))))) rfl, by unfold quoinref14_known.f; rw [if_neg h0, if_neg h1, if_neg h2, if_neg h3, if_pos h4]⟩
  by_cases h5 : a.toList = ([103, 126] : List UInt8)
  · exact ⟨true, fin_ (idx_next 0 (by omega) (by rw [e0]; exact h0) (idx_next 1 (by omega) (by rw [e1]; exact h1) (idx_next 2 (by omega) (by rw [e2]; exact h2) (idx_next 3 (by omega) (by rw [e3]; exact h3) (idx_next 4 (by omega) (by rw [e4]; exact h4) (idx_hit 5 (by omega) (by rw [e5]; exact h5))))))) rfl, by unfold quoinref14_known.f; rw [if_neg h0, if_neg h1, if_neg h2, if_neg h3, if_neg h4, if_pos h5]⟩
  by_cases h6 : a.toList = ([103, 117] : List UInt8)
  · exact ⟨true, fin_ (idx_next 0 (by omega) (by rw [e0]; exact h0) (idx_next 1 (by omega) (by rw [e1]; exact h1) (idx_next 2 (by omega) (by rw [e2]; exact h2) (idx_next 3 (by omega) (by rw [e3]; exact h3) (idx_next 4 (by omega) (by rw [e4]; exact h4) (idx_next 5 (by omega) (by rw [e5]; exact h5) (idx_hit 6 (by omega) (by rw [e6]; exact h6)))))))) rfl, by unfold quoinref14_known.f; rw [if_neg h0, if_neg h1, if_neg h2, if_neg h3, if_neg h4, if_neg h5, if_pos h6]⟩
  by_cases h7 : a.toList = ([103, 85] : List UInt8)
  · exact ⟨true, fin_ (idx_next 0 (by omega) (by rw [e0]; exact h0) (idx_next 1 (by omega) (by rw [e1]; exact h1) (idx_next 2 (by omega) (by rw [e2]; exact h2) (idx_next 3 (by omega) (by rw [e3]; exact h3) (idx_next 4 (by omega) (by rw [e4]; exact h4) (idx_next 5 (by omega) (by rw [e5]; exact h5) (idx_next 6 (by omega) (by rw [e6]; exact h6) (idx_hit 7 (by omega) (by rw [e7]; exact h7))))))))) rfl, by unfold quoinref14_known.f; rw [if_neg h0, if_neg h1, if_neg h2, if_neg h3, if_neg h4, if_neg h5, if_neg h6, if_pos h7]⟩
  exact ⟨false, fin_ (idx_next 0 (by omega) (by rw [e0]; exact h0) (idx_next 1 (by omega) (by rw [e1]; exact h1) (idx_next 2 (by omega) (by rw [e2]; exact h2) (idx_next 3 (by omega) (by rw [e3]; exact h3) (idx_next 4 (by omega) (by rw [e4]; exact h4) (idx_next 5 (by omega) (by rw [e5]; exact h5) (idx_next 6 (by omega) (by rw [e6]; exact h6) (idx_next 7 (by omega) (by rw [e7]; exact h7) (Ev.step (f := fun _ => some (-1)) (fun k => rfl) (Ev.now _)))))))))) rfl, by unfold quoinref14_known.f; rw [if_neg h0, if_neg h1, if_neg h2, if_neg h3, if_neg h4, if_neg h5, if_neg h6, if_neg h7]⟩
section
variable {t : List Int} (hu : u8s t = true) (hl : t.length ≤ 140737488355328)
include hu hl
/-- The tail of both: a range that ends behind a newline is taken whole if it begins in a blank. -/
theorem Of_j2 (lo : Nat) (hlo : lo ≤ t.length) (hi c2 : Int) (nl : Bool) : ∃ r, Ev (fun k => extent_Of.j2 k t (lo : Int) hi (cnt 10 (t.take lo)) c2 (!nl)) r ∧ Ev (fun k => quoinref14_Of.j2 k t (lo : Int) hi (cnt 10 (t.take lo)) c2 nl) r := by
  cases nl with
  | false => exact ⟨((lo : Int), hi, false, false, 0), Ev.step (f := fun _ => some ((lo : Int), hi, false, false, 0)) (fun k => rfl) (Ev.now _), Ev.step (f := fun _ => some ((lo : Int), hi, false, false, 0)) (fun k => rfl) (Ev.now _)⟩
  | true =>
    have h0 := cnt_nonneg 10 (t.take lo)
    have h1 := cnt_le 10 (t.take lo)
    have h2 := List.length_take_le lo t
    have hb := beg_le t lo
    obtain ⟨r, r1, r2⟩ := Whole_both hu hl (cnt 10 (t.take lo)) (wrap64 (c2 - 1)) (by omega) (wrap64_range _).2
    have hs := Start_of hu hl hlo
    have hn := indented_l0 hl lo hlo
    cases hbl : isblank ((t.take lo).drop (beg t lo)) with
    | true =>
      rw [hbl] at hn
      refine ⟨r, Ev.step (f := fun k => (lines_Start.f k t (cnt 10 (t.take lo))).bind fun bt135 => (if 0 ≤ bt135.1 then (if bt135.1 ≤ (lo : Int) then (if (lo : Int) ≤ (t.length : Int) then ((extent_blank.f ((t.take (lo : Int).toNat).drop (bt135.1 : Int).toNat)).bind fun t138 => (if t138 = true then ((extent_Whole.f k t (cnt 10 (t.take lo)) (wrap64 (c2 - 1))).bind fun bt139 => (some (bt139.1, bt139.2.1, bt139.2.2.1, bt139.2.2.2.1, bt139.2.2.2.2))) else (some ((lo : Int), wrap64 (hi - 1), false, false, 0)))) else (none)) else (none)) else (none))) (fun k => rfl) (Ev.bind hs (Ev.pos (by omega) (Ev.pos (by omega) (Ev.pos (by omega) (Ev.cbind (a := true) (by rw [Int.toNat_natCast, Int.toNat_natCast]; unfold extent_blank.f; rw [hbl]) (Ev.pos rfl (Ev.done r1 rfl))))))), ?_⟩
      exact Ev.step (f := fun k => (quoinref14_indented.f k t (lo : Int)).bind fun t232 => (if t232 = true then ((quoinref14_Whole.f k t (cnt 10 (t.take lo)) (wrap64 (c2 - 1))).bind fun bt233 => (some (bt233.1, bt233.2.1, bt233.2.2.1, bt233.2.2.2.1, bt233.2.2.2.2))) else (some ((lo : Int), wrap64 (hi - 1), false, false, 0)))) (fun k => rfl) (Ev.bind hn (Ev.pos rfl (Ev.done r2 rfl)))
    | false =>
      rw [hbl] at hn
      refine ⟨((lo : Int), wrap64 (hi - 1), false, false, 0), Ev.step (f := fun k => (lines_Start.f k t (cnt 10 (t.take lo))).bind fun bt135 => (if 0 ≤ bt135.1 then (if bt135.1 ≤ (lo : Int) then (if (lo : Int) ≤ (t.length : Int) then ((extent_blank.f ((t.take (lo : Int).toNat).drop (bt135.1 : Int).toNat)).bind fun t138 => (if t138 = true then ((extent_Whole.f k t (cnt 10 (t.take lo)) (wrap64 (c2 - 1))).bind fun bt139 => (some (bt139.1, bt139.2.1, bt139.2.2.1, bt139.2.2.2.1, bt139.2.2.2.2))) else (some ((lo : Int), wrap64 (hi - 1), false, false, 0)))) else (none)) else (none)) else (none))) (fun k => rfl) (Ev.bind hs (Ev.pos (by omega) (Ev.pos (by omega) (Ev.pos (by omega) (Ev.cbind (a := false) (by rw [Int.toNat_natCast, Int.toNat_natCast]; unfold extent_blank.f; rw [hbl]) (Ev.neg (by decide) (Ev.now _))))))), ?_⟩
      exact Ev.step (f := fun k => (quoinref14_indented.f k t (lo : Int)).bind fun t232 => (if t232 = true then ((quoinref14_Whole.f k t (cnt 10 (t.take lo)) (wrap64 (c2 - 1))).bind fun bt233 => (some (bt233.1, bt233.2.1, bt233.2.2.1, bt233.2.2.2.1, bt233.2.2.2.2))) else (some ((lo : Int), wrap64 (hi - 1), false, false, 0)))) (fun k => rfl) (Ev.bind hn (Ev.neg (by decide) (Ev.now _)))
theorem Of_j1 (lo hi : Nat) (h1 : lo ≤ hi) (h2 : hi ≤ t.length) (w : Bool) (a b kind : Int) : ∃ r, Ev (fun k => extent_Of.j1 k t (lo : Int) (hi : Int) (cnt 10 (t.take lo)) (cnt 10 (t.take hi)) w a b kind) r ∧ Ev (fun k => quoinref14_Of.j1 k t (lo : Int) (hi : Int) (cnt 10 (t.take lo)) (cnt 10 (t.take hi)) w a b kind) r := by
  cases w with
  | true =>
    have n1 := cnt_le 10 (t.take lo)
    have n2 := List.length_take_le lo t
    have n3 := cnt_le 10 (t.take hi)
    have n4 := List.length_take_le hi t
    obtain ⟨r, r1, r2⟩ := Whole_both hu hl (cnt 10 (t.take lo)) (cnt 10 (t.take hi)) (by omega) (by omega)
    exact ⟨r, Ev.step (f := fun k => (extent_Whole.f k t (cnt 10 (t.take lo)) (cnt 10 (t.take hi))).bind fun bt128 => (some (bt128.1, bt128.2.1, bt128.2.2.1, bt128.2.2.2.1, bt128.2.2.2.2))) (fun k => rfl) (Ev.done r1 rfl), Ev.step (f := fun k => (quoinref14_Whole.f k t (cnt 10 (t.take lo)) (cnt 10 (t.take hi))).bind fun bt225 => (some (bt225.1, bt225.2.1, bt225.2.2.1, bt225.2.2.2.1, bt225.2.2.2.2))) (fun k => rfl) (Ev.done r2 rfl)⟩
  | false =>
    by_cases hk : kind = 2
    · by_cases hh : (hi : Int) < (t.length : Int)
      · by_cases hx : rd t (hi : Int) = 10
        · exact ⟨_, Ev.step (f := fun k => if kind = 2 then (if (hi : Int) < (t.length : Int) then (if 0 ≤ (hi : Int) then (if (rd t (hi : Int)) = 10 then (some ((lo : Int), (hi : Int), false, false, 0)) else (some ((lo : Int), wrap64 ((hi : Int) + 1), false, false, 0))) else (none)) else (some ((lo : Int), (hi : Int), false, false, 0))) else (if (cnt 10 (t.take lo)) = (cnt 10 (t.take hi)) then (extent_Of.j2 k t (lo : Int) (hi : Int) (cnt 10 (t.take lo)) (cnt 10 (t.take hi)) true) else (if 0 ≤ (wrap64 ((hi : Int) - 1)) then (if (wrap64 ((hi : Int) - 1)) < (t.length : Int) then (extent_Of.j2 k t (lo : Int) (hi : Int) (cnt 10 (t.take lo)) (cnt 10 (t.take hi)) ((rd t (wrap64 ((hi : Int) - 1))) != 10)) else (none)) else (none)))) (fun k => rfl) (Ev.pos hk (Ev.pos hh (Ev.pos (by omega) (Ev.pos hx (Ev.now _))))), Ev.step (f := fun k => if kind = 2 then (if (hi : Int) < (t.length : Int) then (if 0 ≤ (hi : Int) then (if (rd t (hi : Int)) = 10 then (some ((lo : Int), (hi : Int), false, false, 0)) else (some ((lo : Int), wrap64 ((hi : Int) + 1), false, false, 0))) else (none)) else (some ((lo : Int), (hi : Int), false, false, 0))) else (if (cnt 10 (t.take lo)) < (cnt 10 (t.take hi)) then (if 0 ≤ (wrap64 ((hi : Int) - 1)) then (if (wrap64 ((hi : Int) - 1)) < (t.length : Int) then (quoinref14_Of.j2 k t (lo : Int) (hi : Int) (cnt 10 (t.take lo)) (cnt 10 (t.take hi)) ((rd t (wrap64 ((hi : Int) - 1))) == 10)) else (none)) else (none)) else (quoinref14_Of.j2 k t (lo : Int) (hi : Int) (cnt 10 (t.take lo)) (cnt 10 (t.take hi)) false))) (fun k => rfl) (Ev.pos hk (Ev.pos hh (Ev.pos (by omega) (Ev.pos hx (Ev.now _)))))⟩
        · exact ⟨_, Ev.step (f := fun k => if kind = 2 then (if (hi : Int) < (t.length : Int) then (if 0 ≤ (hi : Int) then (if (rd t (hi : Int)) = 10 then (some ((lo : Int), (hi : Int), false, false, 0)) else (some ((lo : Int), wrap64 ((hi : Int) + 1), false, false, 0))) else (none)) else (some ((lo : Int), (hi : Int), false, false, 0))) else (if (cnt 10 (t.take lo)) = (cnt 10 (t.take hi)) then (extent_Of.j2 k t (lo : Int) (hi : Int) (cnt 10 (t.take lo)) (cnt 10 (t.take hi)) true) else (if 0 ≤ (wrap64 ((hi : Int) - 1)) then (if (wrap64 ((hi : Int) - 1)) < (t.length : Int) then (extent_Of.j2 k t (lo : Int) (hi : Int) (cnt 10 (t.take lo)) (cnt 10 (t.take hi)) ((rd t (wrap64 ((hi : Int) - 1))) != 10)) else (none)) else (none)))) (fun k => rfl) (Ev.pos hk (Ev.pos hh (Ev.pos (by omega) (Ev.neg hx (Ev.now _))))), Ev.step (f := fun k => if kind = 2 then (if (hi : Int) < (t.length : Int) then (if 0 ≤ (hi : Int) then (if (rd t (hi : Int)) = 10 then (some ((lo : Int), (hi : Int), false, false, 0)) else (some ((lo : Int), wrap64 ((hi : Int) + 1), false, false, 0))) else (none)) else (some ((lo : Int), (hi : Int), false, false, 0))) else (if (cnt 10 (t.take lo)) < (cnt 10 (t.take hi)) then (if 0 ≤ (wrap64 ((hi : Int) - 1)) then (if (wrap64 ((hi : Int) - 1)) < (t.length : Int) then (quoinref14_Of.j2 k t (lo : Int) (hi : Int) (cnt 10 (t.take lo)) (cnt 10 (t.take hi)) ((rd t (wrap64 ((hi : Int) - 1))) == 10)) else (none)) else (none)) else (quoinref14_Of.j2 k t (lo : Int) (hi : Int) (cnt 10 (t.take lo)) (cnt 10 (t.take hi)) false))) (fun k => rfl) (Ev.pos hk (Ev.pos hh (Ev.pos (by omega) (Ev.neg hx (Ev.now _)))))⟩
      · exact ⟨_, Ev.step (f := fun k => if kind = 2 then (if (hi : Int) < (t.length : Int) then (if 0 ≤ (hi : Int) then (if (rd t (hi : Int)) = 10 then (some ((lo : Int), (hi : Int), false, false, 0)) else (some ((lo : Int), wrap64 ((hi : Int) + 1), false, false, 0))) else (none)) else (some ((lo : Int), (hi : Int), false, false, 0))) else (if (cnt 10 (t.take lo)) = (cnt 10 (t.take hi)) then (extent_Of.j2 k t (lo : Int) (hi : Int) (cnt 10 (t.take lo)) (cnt 10 (t.take hi)) true) else (if 0 ≤ (wrap64 ((hi : Int) - 1)) then (if (wrap64 ((hi : Int) - 1)) < (t.length : Int) then (extent_Of.j2 k t (lo : Int) (hi : Int) (cnt 10 (t.take lo)) (cnt 10 (t.take hi)) ((rd t (wrap64 ((hi : Int) - 1))) != 10)) else (none)) else (none)))) (fun k => rfl) (Ev.pos hk (Ev.neg hh (Ev.now _))), Ev.step (f := fun k => if kind = 2 then (if (hi : Int) < (t.length : Int) then (if 0 ≤ (hi : Int) then (if (rd t (hi : Int)) = 10 then (some ((lo : Int), (hi : Int), false, false, 0)) else (some ((lo : Int), wrap64 ((hi : Int) + 1), false, false, 0))) else (none)) else (some ((lo : Int), (hi : Int), false, false, 0))) else (if (cnt 10 (t.take lo)) < (cnt 10 (t.take hi)) then (if 0 ≤ (wrap64 ((hi : Int) - 1)) then (if (wrap64 ((hi : Int) - 1)) < (t.length : Int) then (quoinref14_Of.j2 k t (lo : Int) (hi : Int) (cnt 10 (t.take lo)) (cnt 10 (t.take hi)) ((rd t (wrap64 ((hi : Int) - 1))) == 10)) else (none)) else (none)) else (quoinref14_Of.j2 k t (lo : Int) (hi : Int) (cnt 10 (t.take lo)) (cnt 10 (t.take hi)) false))) (fun k => rfl) (Ev.pos hk (Ev.neg hh (Ev.now _)))⟩
    · have hm := cnt_mono (t := t) h1 h2
      by_cases he : cnt 10 (t.take lo) = cnt 10 (t.take hi)
      · obtain ⟨r, r1, r2⟩ := Of_j2 hu hl lo (by omega) (hi : Int) (cnt 10 (t.take hi)) false
        exact ⟨r, Ev.step (f := fun k => if kind = 2 then (if (hi : Int) < (t.length : Int) then (if 0 ≤ (hi : Int) then (if (rd t (hi : Int)) = 10 then (some ((lo : Int), (hi : Int), false, false, 0)) else (some ((lo : Int), wrap64 ((hi : Int) + 1), false, false, 0))) else (none)) else (some ((lo : Int), (hi : Int), false, false, 0))) else (if (cnt 10 (t.take lo)) = (cnt 10 (t.take hi)) then (extent_Of.j2 k t (lo : Int) (hi : Int) (cnt 10 (t.take lo)) (cnt 10 (t.take hi)) true) else (if 0 ≤ (wrap64 ((hi : Int) - 1)) then (if (wrap64 ((hi : Int) - 1)) < (t.length : Int) then (extent_Of.j2 k t (lo : Int) (hi : Int) (cnt 10 (t.take lo)) (cnt 10 (t.take hi)) ((rd t (wrap64 ((hi : Int) - 1))) != 10)) else (none)) else (none)))) (fun k => rfl) (Ev.neg hk (Ev.pos he r1)), Ev.step (f := fun k => if kind = 2 then (if (hi : Int) < (t.length : Int) then (if 0 ≤ (hi : Int) then (if (rd t (hi : Int)) = 10 then (some ((lo : Int), (hi : Int), false, false, 0)) else (some ((lo : Int), wrap64 ((hi : Int) + 1), false, false, 0))) else (none)) else (some ((lo : Int), (hi : Int), false, false, 0))) else (if (cnt 10 (t.take lo)) < (cnt 10 (t.take hi)) then (if 0 ≤ (wrap64 ((hi : Int) - 1)) then (if (wrap64 ((hi : Int) - 1)) < (t.length : Int) then (quoinref14_Of.j2 k t (lo : Int) (hi : Int) (cnt 10 (t.take lo)) (cnt 10 (t.take hi)) ((rd t (wrap64 ((hi : Int) - 1))) == 10)) else (none)) else (none)) else (quoinref14_Of.j2 k t (lo : Int) (hi : Int) (cnt 10 (t.take lo)) (cnt 10 (t.take hi)) false))) (fun k => rfl) (Ev.neg hk (Ev.neg (by omega) r2))⟩
      · have hlt : lo < hi := by
          rcases Nat.lt_or_eq_of_le h1 with h | h
          · exact h
          · exact absurd (by rw [h]) he
        obtain ⟨r, r1, r2⟩ := Of_j2 hu hl lo (by omega) (hi : Int) (cnt 10 (t.take hi)) ((rd t (wrap64 ((hi : Int) - 1))) == 10)
        have w1 : 0 ≤ wrap64 ((hi : Int) - 1) := by rw [wrap64_id (by omega) (by omega)]; omega
        have w2 : wrap64 ((hi : Int) - 1) < (t.length : Int) := by rw [wrap64_id (by omega) (by omega)]; omega
        have hlt' : cnt 10 (t.take lo) < cnt 10 (t.take hi) := by have := hm; have := he; omega
        exact ⟨r, Ev.step (f := fun k => if kind = 2 then (if (hi : Int) < (t.length : Int) then (if 0 ≤ (hi : Int) then (if (rd t (hi : Int)) = 10 then (some ((lo : Int), (hi : Int), false, false, 0)) else (some ((lo : Int), wrap64 ((hi : Int) + 1), false, false, 0))) else (none)) else (some ((lo : Int), (hi : Int), false, false, 0))) else (if (cnt 10 (t.take lo)) = (cnt 10 (t.take hi)) then (extent_Of.j2 k t (lo : Int) (hi : Int) (cnt 10 (t.take lo)) (cnt 10 (t.take hi)) true) else (if 0 ≤ (wrap64 ((hi : Int) - 1)) then (if (wrap64 ((hi : Int) - 1)) < (t.length : Int) then (extent_Of.j2 k t (lo : Int) (hi : Int) (cnt 10 (t.take lo)) (cnt 10 (t.take hi)) ((rd t (wrap64 ((hi : Int) - 1))) != 10)) else (none)) else (none)))) (fun k => rfl) (Ev.neg hk (Ev.neg he (Ev.pos w1 (Ev.pos w2 r1)))), Ev.step (f := fun k => if kind = 2 then (if (hi : Int) < (t.length : Int) then (if 0 ≤ (hi : Int) then (if (rd t (hi : Int)) = 10 then (some ((lo : Int), (hi : Int), false, false, 0)) else (some ((lo : Int), wrap64 ((hi : Int) + 1), false, false, 0))) else (none)) else (some ((lo : Int), (hi : Int), false, false, 0))) else (if (cnt 10 (t.take lo)) < (cnt 10 (t.take hi)) then (if 0 ≤ (wrap64 ((hi : Int) - 1)) then (if (wrap64 ((hi : Int) - 1)) < (t.length : Int) then (quoinref14_Of.j2 k t (lo : Int) (hi : Int) (cnt 10 (t.take lo)) (cnt 10 (t.take hi)) ((rd t (wrap64 ((hi : Int) - 1))) == 10)) else (none)) else (none)) else (quoinref14_Of.j2 k t (lo : Int) (hi : Int) (cnt 10 (t.take lo)) (cnt 10 (t.take hi)) false))) (fun k => rfl) (Ev.neg hk (Ev.pos hlt' (Ev.pos w1 (Ev.pos w2 r2))))⟩
omit hu hl in
theorem Of_bad (op : ByteArray) (lo hi c1 c2 a b kind : Int) : Ev (fun k => extent_Of.j0 k t op lo hi c1 c2 true a b kind) (0, 0, false, false, 2) :=
  Ev.step (f := fun _ => some (0, 0, false, false, 2)) (fun _ => rfl) (Ev.now _)
omit hu hl in
theorem refOf_bad (op : ByteArray) (lo hi a b kind : Int) : Ev (fun k => quoinref14_Of.j0 k t op lo hi true a b kind) (0, 0, false, false, 2) :=
  Ev.step (f := fun _ => some (0, 0, false, false, 2)) (fun _ => rfl) (Ev.now _)
theorem Of_j0 (op : ByteArray) (lo hi : Nat) (h1 : lo ≤ hi) (h2 : hi ≤ t.length) (a b kind : Int) : ∃ r, Ev (fun k => extent_Of.j0 k t op (lo : Int) (hi : Int) (cnt 10 (t.take lo)) (cnt 10 (t.take hi)) false a b kind) r ∧ Ev (fun k => quoinref14_Of.j0 k t op (lo : Int) (hi : Int) false a b kind) r := by
  have o1 := refOf_ev hl (lo : Int)
  have o2 := refOf_ev hl (hi : Int)
  have e1 : ofR t (lo : Int) = (cnt 10 (t.take lo), 0) := by unfold ofR; rw [if_pos (by omega), Int.toNat_natCast]
  have e2 : ofR t (hi : Int) = (cnt 10 (t.take hi), 0) := by unfold ofR; rw [if_pos (by omega), Int.toNat_natCast]
  rw [e1] at o1
  rw [e2] at o2
  have hE : ∀ (w : Bool) (r : Int × Int × Bool × Bool × Int), (∀ k, (if kind = 3 then (extent_Of.j1 k t (lo : Int) (hi : Int) (cnt 10 (t.take lo)) (cnt 10 (t.take hi)) true a b kind) else (if op.toList = ([62] : List UInt8) then (extent_Of.j1 k t (lo : Int) (hi : Int) (cnt 10 (t.take lo)) (cnt 10 (t.take hi)) true a b kind) else (extent_Of.j1 k t (lo : Int) (hi : Int) (cnt 10 (t.take lo)) (cnt 10 (t.take hi)) (op.toList == ([60] : List UInt8)) a b kind))) = extent_Of.j1 k t (lo : Int) (hi : Int) (cnt 10 (t.take lo)) (cnt 10 (t.take hi)) w a b kind) → Ev (fun k => extent_Of.j1 k t (lo : Int) (hi : Int) (cnt 10 (t.take lo)) (cnt 10 (t.take hi)) w a b kind) r → Ev (fun k => extent_Of.j0 k t op (lo : Int) (hi : Int) (cnt 10 (t.take lo)) (cnt 10 (t.take hi)) false a b kind) r :=
    fun w r e h => Ev.step (f := fun k => extent_Of.j1 k t (lo : Int) (hi : Int) (cnt 10 (t.take lo)) (cnt 10 (t.take hi)) w a b kind) (fun k => e k) h
  have hR : ∀ (w : Bool) (r : Int × Int × Bool × Bool × Int), (∀ k, (if kind = 3 then (quoinref14_Of.j1 k t (lo : Int) (hi : Int) (cnt 10 (t.take lo)) (cnt 10 (t.take hi)) true a b kind) else (if op.toList = ([62] : List UInt8) then (quoinref14_Of.j1 k t (lo : Int) (hi : Int) (cnt 10 (t.take lo)) (cnt 10 (t.take hi)) true a b kind) else (quoinref14_Of.j1 k t (lo : Int) (hi : Int) (cnt 10 (t.take lo)) (cnt 10 (t.take hi)) (op.toList == ([60] : List UInt8)) a b kind))) = quoinref14_Of.j1 k t (lo : Int) (hi : Int) (cnt 10 (t.take lo)) (cnt 10 (t.take hi)) w a b kind) → Ev (fun k => quoinref14_Of.j1 k t (lo : Int) (hi : Int) (cnt 10 (t.take lo)) (cnt 10 (t.take hi)) w a b kind) r → Ev (fun k => quoinref14_Of.j0 k t op (lo : Int) (hi : Int) false a b kind) r :=
    fun w r e h => Ev.step (f := fun k => (quoinref05_Of.f k t (lo : Int)).bind fun bt221 => ((quoinref05_Of.f k t (hi : Int)).bind fun bt223 => (if kind = 3 then (quoinref14_Of.j1 k t (lo : Int) (hi : Int) bt221.1 bt223.1 true a b kind) else (if op.toList = ([62] : List UInt8) then (quoinref14_Of.j1 k t (lo : Int) (hi : Int) bt221.1 bt223.1 true a b kind) else (quoinref14_Of.j1 k t (lo : Int) (hi : Int) bt221.1 bt223.1 (op.toList == ([60] : List UInt8)) a b kind))))) (fun k => rfl) (Ev.bind o1 (Ev.bind o2 (by simp only [e]; exact h)))
  by_cases h3 : kind = 3
  · obtain ⟨r, r1, r2⟩ := Of_j1 hu hl lo hi h1 h2 true a b kind
    exact ⟨r, hE true r (fun k => if_pos h3) r1, hR true r (fun k => if_pos h3) r2⟩
  · by_cases h62 : op.toList = ([62] : List UInt8)
    · obtain ⟨r, r1, r2⟩ := Of_j1 hu hl lo hi h1 h2 true a b kind
      exact ⟨r, hE true r (fun k => (if_neg h3).trans (if_pos h62)) r1, hR true r (fun k => (if_neg h3).trans (if_pos h62)) r2⟩
    · obtain ⟨r, r1, r2⟩ := Of_j1 hu hl lo hi h1 h2 (op.toList == ([60] : List UInt8)) a b kind
      exact ⟨r, hE _ r (fun k => (if_neg h3).trans (if_neg h62)) r1, hR _ r (fun k => (if_neg h3).trans (if_neg h62)) r2⟩
/-- extent.Of and its second account come to one answer. -/
theorem Of_both (a b kind : Int) (op : ByteArray) : ∃ r, Ev (fun k => extent_Of.f k t a b kind op) r ∧ Ev (fun k => quoinref14_Of.f k t a b kind op) r := by
  have hle : mn a b ≤ mx a b := by unfold mn mx; split <;> split <;> omega
  generalize hlo : mn a b = lo at hle
  generalize hhi : mx a b = hi at hle
  have q1 : lines_Of.f t lo = some (ofR t lo) := Of_eq hu lo
  have q2 : lines_Of.f t hi = some (ofR t hi) := Of_eq hu hi
  have hE : ∀ {r : Int × Int × Bool × Bool × Int}, Ev (fun k => if (ofR t lo).2 = 0 then (if (ofR t hi).2 = 0 then (if kind < 1 then (extent_Of.j0 k t op lo hi (ofR t lo).1 (ofR t hi).1 true a b kind) else (if kind > 3 then (extent_Of.j0 k t op lo hi (ofR t lo).1 (ofR t hi).1 true a b kind) else ((slices_Contains_string_string.f k names14 op).bind fun t127 => (extent_Of.j0 k t op lo hi (ofR t lo).1 (ofR t hi).1 (!t127) a b kind)))) else (extent_Of.j0 k t op lo hi (ofR t lo).1 (ofR t hi).1 true a b kind)) else (extent_Of.j0 k t op lo hi (ofR t lo).1 (ofR t hi).1 true a b kind)) r → Ev (fun k => extent_Of.f k t a b kind op) r := by
    intro r h
    unfold extent_Of.f
    rw [hlo, hhi]
    exact Ev.cbind q1 (Ev.cbind q2 h)
  have hR : ∀ {r : Int × Int × Bool × Bool × Int}, Ev (fun k => if lo < 0 then (quoinref14_Of.j0 k t op lo hi true a b kind) else (if hi > (t.length : Int) then (quoinref14_Of.j0 k t op lo hi true a b kind) else (if kind < 1 then (quoinref14_Of.j0 k t op lo hi true a b kind) else (if kind > 3 then (quoinref14_Of.j0 k t op lo hi true a b kind) else ((quoinref14_known.f op).bind fun t220 => (quoinref14_Of.j0 k t op lo hi (!t220) a b kind)))))) r → Ev (fun k => quoinref14_Of.f k t a b kind op) r := by
    intro r h
    unfold quoinref14_Of.f
    rw [hlo, hhi]
    exact h
  have b1 := fun (c1 c2 : Int) => Of_bad (t := t) op lo hi c1 c2 a b kind
  have b2 := refOf_bad (t := t) op lo hi a b kind
  have n0 : ∀ {x : Int}, ¬ (0 ≤ x ∧ x ≤ (t.length : Int)) → ¬ (ofR t x).2 = 0 := by
    intro x h
    unfold ofR
    rw [if_neg h]
    decide
  have n1 : ∀ {x : Int}, (0 ≤ x ∧ x ≤ (t.length : Int)) → ofR t x = (cnt 10 (t.take x.toNat), 0) := by
    intro x h
    unfold ofR
    rw [if_pos h]
  by_cases g1 : 0 ≤ lo ∧ lo ≤ (t.length : Int)
  · by_cases g2 : 0 ≤ hi ∧ hi ≤ (t.length : Int)
    · have z1 : (ofR t lo).2 = 0 := by rw [n1 g1]
      have z2 : (ofR t hi).2 = 0 := by rw [n1 g2]
      by_cases g3 : kind < 1
      · exact ⟨_, hE (Ev.pos z1 (Ev.pos z2 (Ev.pos g3 (b1 _ _)))), hR (Ev.neg (by omega) (Ev.neg (by omega) (Ev.pos g3 b2)))⟩
      · by_cases g4 : kind > 3
        · exact ⟨_, hE (Ev.pos z1 (Ev.pos z2 (Ev.neg g3 (Ev.pos g4 (b1 _ _))))), hR (Ev.neg (by omega) (Ev.neg (by omega) (Ev.neg g3 (Ev.pos g4 b2))))⟩
        · obtain ⟨kn, k1, k2⟩ := known_both op
          cases kn with
          | false => exact ⟨_, hE (Ev.pos z1 (Ev.pos z2 (Ev.neg g3 (Ev.neg g4 (Ev.bind k1 (b1 _ _)))))), hR (Ev.neg (by omega) (Ev.neg (by omega) (Ev.neg g3 (Ev.neg g4 (Ev.cbind k2 b2)))))⟩
          | true =>
            obtain ⟨r, r1, r2⟩ := Of_j0 hu hl op lo.toNat hi.toNat (by omega) (by omega) a b kind
            rw [show ((lo.toNat : Nat) : Int) = lo from by omega, show ((hi.toNat : Nat) : Int) = hi from by omega] at r1 r2
            refine ⟨r, hE (Ev.pos z1 (Ev.pos z2 (Ev.neg g3 (Ev.neg g4 (Ev.bind k1 ?_))))), hR (Ev.neg (by omega) (Ev.neg (by omega) (Ev.neg g3 (Ev.neg g4 (Ev.cbind k2 r2)))))⟩
            rw [n1 g1, n1 g2]
            exact r1
    · exact ⟨_, hE (Ev.pos (by rw [n1 g1]) (Ev.neg (n0 g2) (b1 _ _))), hR (Ev.neg (by omega) (Ev.pos (by omega) b2))⟩
  · by_cases g0 : lo < 0
    · exact ⟨_, hE (Ev.neg (n0 g1) (b1 _ _)), hR (Ev.pos g0 b2)⟩
    · exact ⟨_, hE (Ev.neg (n0 g1) (b1 _ _)), hR (Ev.neg g0 (Ev.pos (by omega) b2))⟩
end
end Go.Proofs.Ytlcdnpecoaamcaa.Pure
