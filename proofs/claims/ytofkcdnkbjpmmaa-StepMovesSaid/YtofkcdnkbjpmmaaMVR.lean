/-
  The second account's Move (quoinref07) is step.Move, plainly: moveV.
  Conditions: the text has at most 140737488355328 bytes.
-/
import Derived.Test.YtofkcdnkbjpmmaaLNR
import Derived.Test.YtofkcdnkbjpmmaaMV
import Derived.Test.YtofkcdnkbjpmmaaX40
import Derived.Test.YtofkcdnkbjpmmaaX39
import Derived.Test.YtofkcdnkbjpmmaaX37
import Derived.Test.YtofkcdnkbjpmmaaX38
import Derived.Test.YtofkcdnkbjpmmaaX35
import Derived.Test.YtofkcdnkbjpmmaaX31
import Derived.Test.YtofkcdnkbjpmmaaX25
namespace Go.Proofs.Ytofkcdnkbjpmmaa.MVR
open Go.RowKit Go.Proofs.YtofkcdnkbjpmmaaW.PrintWords Go.Proofs.YtofkcdnkbjpmmaaW.PrintMore Go.Proofs.Ytofkcdnkbjpmmaa.X Go.Proofs.Ytofkcdnkbjpmmaa.XL Go.Proofs.Ytofkcdnkbjpmmaa.XO Go.Proofs.Ytofkcdnkbjpmmaa.LN Go.Proofs.Ytofkcdnkbjpmmaa.MV
set_option linter.unusedVariables false
section
variable {t : List Int}
theorem sg_ex : ∀ (n p : Nat), p ≤ t.length → isSt t p → cnt 10 (t.take p) + n ≤ cnt 10 t → ∃ q, sg t p n = some q := by
  intro n
  induction n with
  | zero => intro p _ _ _; exact ⟨p, rfl⟩
  | succ n ih =>
    intro p hp hs hc
    have hf := fin_ge t p
    by_cases h : fin t p < t.length
    · obtain ⟨q, hq⟩ := ih (fin t p + 1) (by omega) (.inr (fin_at h)) (by rw [cnt_next h]; omega)
      exact ⟨q, by unfold sg; rw [if_pos h]; exact hq⟩
    · exfalso
      have hf2 := fin_le hp
      have h1 := cnt_same (t := t) (p := p) (q := t.length) hp (Nat.le_refl _) (fun j a b => fin_ne a (by omega))
      rw [List.take_length] at h1
      omega
theorem startR_ex {l : Int} (h0 : 0 ≤ l) (h1 : l ≤ cnt 10 t) : ∃ s : Nat, s ≤ t.length ∧ isSt t s ∧ startR t l = ((s : Int), 0) ∧ cnt 10 (t.take s) = l := by
  obtain ⟨q, hq⟩ := sg_ex (t := t) l.toNat 0 (Nat.zero_le _) (.inl rfl) (by rw [show cnt 10 (t.take 0) = 0 from rfl]; omega)
  rcases startR_cases t l with e | ⟨s, h2, h3, e, _, h4⟩
  · unfold startR at e
    rw [if_neg (by omega), hq] at e
    simp at e
  · exact ⟨s, h2, h3, e, h4⟩
theorem cnt_in {s q : Nat} (h1 : s ≤ q) (h2 : q ≤ fin t s) (hs : s ≤ t.length) : cnt 10 (t.take q) = cnt 10 (t.take s) := cnt_same h1 (Nat.le_trans h2 (fin_le hs)) (fun _ a b => fin_ne a (Nat.lt_of_lt_of_le b h2))
theorem end_there {l : Int} (h0 : 0 ≤ l) (h1 : l ≤ cnt 10 t) : ∃ q : Nat, endR t l = ((q : Int), 0) ∧ q ≤ t.length ∧ cnt 10 (t.take q) = l := by
  obtain ⟨s, h2, h3, e, h4⟩ := startR_ex h0 h1
  have hf := fin_ge t s
  refine ⟨fin t s, ?_, fin_le h2, by rw [cnt_in hf (Nat.le_refl _) h2, h4]⟩
  unfold startR at e
  unfold endR
  rw [if_neg (by omega)] at e ⊢
  cases hs : sg t 0 l.toNat with
  | none => rw [hs] at e; simp at e
  | some q' =>
    rw [hs] at e
    have e4 : ((q' : Nat) : Int) = (s : Int) := congrArg Prod.fst e
    obtain rfl : q' = s := by omega
    rfl
theorem end_none {l : Int} (h : l < 0 ∨ l > cnt 10 t) : (endR t l).2 = 2 := by
  unfold endR
  by_cases h0 : l < 0
  · rw [if_pos h0]
  · rw [if_neg h0]
    cases hs : sg t 0 l.toNat with
    | none => rfl
    | some q =>
      exfalso
      obtain ⟨_, _, h3, h4⟩ := sg_some (Nat.zero_le _) (.inl rfl) hs
      rw [show cnt 10 (t.take 0) = 0 from rfl] at h4
      have h5 := cnt_mono (t := t) h3 (Nat.le_refl _)
      rw [List.take_length] at h5
      omega
theorem fl_ite {c : Prop} [Decidable c] {a b : R6} (ha : a.2.2.2.2.2 = true) (hb : b.2.2.2.2.2 = true) : (if c then a else b).2.2.2.2.2 = true := by split <;> assumption
theorem fl_line (t : List Int) (p want to_ : Int) (jk : Bool) : (lineV t p want to_ jk).2.2.2.2.2 = true := by
  unfold lineV
  exact fl_ite rfl (fl_ite rfl rfl)
theorem mvN_h {p n : Nat} {want : Int} {g : Bool} {key : ByteArray} (hk : key.toList = ([104] : List UInt8)) : moveN t p want n g key = five (if p = beg t p then F6 else T6 t p (max ((p : Int) - n) (beg t p)) 1) := by
  have e : bytesV t p n (cnt 10 (t.take p)) key = (if p = beg t p then F6 else T6 t p (max ((p : Int) - n) (beg t p)) 1) := by unfold bytesV; rw [if_pos hk]
  unfold moveN
  rw [e]
  exact if_pos (fl_ite rfl rfl)
theorem mvN_l {p n : Nat} {want : Int} {g : Bool} {key : ByteArray} (hk : key.toList = ([108] : List UInt8)) : moveN t p want n g key = five (if p = fin t p then F6 else T6 t p (min ((p : Int) + n) (fin t p)) 1) := by
  have e : bytesV t p n (cnt 10 (t.take p)) key = (if p = fin t p then F6 else T6 t p (min ((p : Int) + n) (fin t p)) 1) := by unfold bytesV; rw [if_neg (show ¬ key.toList = ([104] : List UInt8) from by rw [hk]; decide), if_pos hk]
  unfold moveN
  rw [e]
  exact if_pos (fl_ite rfl rfl)
theorem mvN_sp {p n : Nat} {want : Int} {g : Bool} {key : ByteArray} (hk : key.toList = ([32] : List UInt8)) : moveN t p want n g key = five (fin6 t p (onwN t n (p + 1) (-1))) := by
  have e : bytesV t p n (cnt 10 (t.take p)) key = (fin6 t p (onwN t n (p + 1) (-1))) := by unfold bytesV; rw [if_neg (show ¬ key.toList = ([104] : List UInt8) from by rw [hk]; decide), if_neg (show ¬ key.toList = ([108] : List UInt8) from by rw [hk]; decide), if_pos hk]
  unfold moveN
  rw [e]
  exact if_pos (fl_ite rfl rfl)
theorem mvN_bs {p n : Nat} {want : Int} {g : Bool} {key : ByteArray} (hk : key.toList = ([8] : List UInt8)) : moveN t p want n g key = five (fin6 t p (bckN t n p (-1))) := by
  have e : bytesV t p n (cnt 10 (t.take p)) key = (fin6 t p (bckN t n p (-1))) := by unfold bytesV; rw [if_neg (show ¬ key.toList = ([104] : List UInt8) from by rw [hk]; decide), if_neg (show ¬ key.toList = ([108] : List UInt8) from by rw [hk]; decide), if_neg (show ¬ key.toList = ([32] : List UInt8) from by rw [hk]; decide), if_pos hk]
  unfold moveN
  rw [e]
  exact if_pos (fl_ite rfl rfl)
theorem mvN_z {p n : Nat} {want : Int} {g : Bool} {key : ByteArray} (hk : key.toList = ([48] : List UInt8)) : moveN t p want n g key = five (T6 t p (beg t p) 1) := by
  have e : bytesV t p n (cnt 10 (t.take p)) key = (T6 t p (beg t p) 1) := by unfold bytesV; rw [if_neg (show ¬ key.toList = ([104] : List UInt8) from by rw [hk]; decide), if_neg (show ¬ key.toList = ([108] : List UInt8) from by rw [hk]; decide), if_neg (show ¬ key.toList = ([32] : List UInt8) from by rw [hk]; decide), if_neg (show ¬ key.toList = ([8] : List UInt8) from by rw [hk]; decide), if_pos hk]
  unfold moveN
  rw [e]
  exact if_pos (rfl)
theorem mvN_ca {p n : Nat} {want : Int} {g : Bool} {key : ByteArray} (hk : key.toList = ([94] : List UInt8)) : moveN t p want n g key = five (T6 t p (firstR t (cnt 10 (t.take p))).1 1) := by
  have e : bytesV t p n (cnt 10 (t.take p)) key = (T6 t p (firstR t (cnt 10 (t.take p))).1 1) := by unfold bytesV; rw [if_neg (show ¬ key.toList = ([104] : List UInt8) from by rw [hk]; decide), if_neg (show ¬ key.toList = ([108] : List UInt8) from by rw [hk]; decide), if_neg (show ¬ key.toList = ([32] : List UInt8) from by rw [hk]; decide), if_neg (show ¬ key.toList = ([8] : List UInt8) from by rw [hk]; decide), if_neg (show ¬ key.toList = ([48] : List UInt8) from by rw [hk]; decide), if_pos hk]
  unfold moveN
  rw [e]
  exact if_pos (rfl)
theorem mvN_ba {p n : Nat} {want : Int} {g : Bool} {key : ByteArray} (hk : key.toList = ([124] : List UInt8)) : moveN t p want n g key = five (((p : Int), (atR t (cnt 10 (t.take p)) ((n : Int) - 1)).1, 1, (n : Int) - 1, 0, true) : R6) := by
  have e : bytesV t p n (cnt 10 (t.take p)) key = (((p : Int), (atR t (cnt 10 (t.take p)) ((n : Int) - 1)).1, 1, (n : Int) - 1, 0, true) : R6) := by unfold bytesV; rw [if_neg (show ¬ key.toList = ([104] : List UInt8) from by rw [hk]; decide), if_neg (show ¬ key.toList = ([108] : List UInt8) from by rw [hk]; decide), if_neg (show ¬ key.toList = ([32] : List UInt8) from by rw [hk]; decide), if_neg (show ¬ key.toList = ([8] : List UInt8) from by rw [hk]; decide), if_neg (show ¬ key.toList = ([48] : List UInt8) from by rw [hk]; decide), if_neg (show ¬ key.toList = ([94] : List UInt8) from by rw [hk]; decide), if_pos hk]
  unfold moveN
  rw [e]
  exact if_pos (rfl)
theorem mvN_do {p n : Nat} {want : Int} {g : Bool} {key : ByteArray} (hk : key.toList = ([36] : List UInt8)) : moveN t p want n g key = five (if (endR t ((cnt 10 (t.take p)) + n - 1)).2 = 0 then (((p : Int), (endR t ((cnt 10 (t.take p)) + n - 1)).1, 1, -1, 0, true) : R6) else F6) := by
  have e : bytesV t p n (cnt 10 (t.take p)) key = (if (endR t ((cnt 10 (t.take p)) + n - 1)).2 = 0 then (((p : Int), (endR t ((cnt 10 (t.take p)) + n - 1)).1, 1, -1, 0, true) : R6) else F6) := by unfold bytesV; rw [if_neg (show ¬ key.toList = ([104] : List UInt8) from by rw [hk]; decide), if_neg (show ¬ key.toList = ([108] : List UInt8) from by rw [hk]; decide), if_neg (show ¬ key.toList = ([32] : List UInt8) from by rw [hk]; decide), if_neg (show ¬ key.toList = ([8] : List UInt8) from by rw [hk]; decide), if_neg (show ¬ key.toList = ([48] : List UInt8) from by rw [hk]; decide), if_neg (show ¬ key.toList = ([94] : List UInt8) from by rw [hk]; decide), if_neg (show ¬ key.toList = ([124] : List UInt8) from by rw [hk]; decide), if_pos hk]
  unfold moveN
  rw [e]
  exact if_pos (fl_ite rfl rfl)
theorem mvN_j {p n : Nat} {want : Int} {g : Bool} {key : ByteArray} (hk : key.toList = ([106] : List UInt8)) : moveN t p want n g key = five (lineV t p want ((cnt 10 (t.take p)) + n) true) := by
  have e : bytesV t p n (cnt 10 (t.take p)) key = (0, 0, 0, 0, 0, false) := by unfold bytesV; rw [if_neg (show ¬ key.toList = ([104] : List UInt8) from by rw [hk]; decide), if_neg (show ¬ key.toList = ([108] : List UInt8) from by rw [hk]; decide), if_neg (show ¬ key.toList = ([32] : List UInt8) from by rw [hk]; decide), if_neg (show ¬ key.toList = ([8] : List UInt8) from by rw [hk]; decide), if_neg (show ¬ key.toList = ([48] : List UInt8) from by rw [hk]; decide), if_neg (show ¬ key.toList = ([94] : List UInt8) from by rw [hk]; decide), if_neg (show ¬ key.toList = ([124] : List UInt8) from by rw [hk]; decide), if_neg (show ¬ key.toList = ([36] : List UInt8) from by rw [hk]; decide)]
  have e2 : linesV t p want n g (cnt 10 (t.take p)) key = (lineV t p want ((cnt 10 (t.take p)) + n) true) := by unfold linesV; rw [if_pos hk]
  unfold moveN
  rw [e, e2, if_neg (by decide)]
  exact if_pos (fl_line _ _ _ _ _)
theorem mvN_pl {p n : Nat} {want : Int} {g : Bool} {key : ByteArray} (hk : key.toList = ([43] : List UInt8)) : moveN t p want n g key = five (lineV t p want ((cnt 10 (t.take p)) + n) false) := by
  have e : bytesV t p n (cnt 10 (t.take p)) key = (0, 0, 0, 0, 0, false) := by unfold bytesV; rw [if_neg (show ¬ key.toList = ([104] : List UInt8) from by rw [hk]; decide), if_neg (show ¬ key.toList = ([108] : List UInt8) from by rw [hk]; decide), if_neg (show ¬ key.toList = ([32] : List UInt8) from by rw [hk]; decide), if_neg (show ¬ key.toList = ([8] : List UInt8) from by rw [hk]; decide), if_neg (show ¬ key.toList = ([48] : List UInt8) from by rw [hk]; decide), if_neg (show ¬ key.toList = ([94] : List UInt8) from by rw [hk]; decide), if_neg (show ¬ key.toList = ([124] : List UInt8) from by rw [hk]; decide), if_neg (show ¬ key.toList = ([36] : List UInt8) from by rw [hk]; decide)]
  have e2 : linesV t p want n g (cnt 10 (t.take p)) key = (lineV t p want ((cnt 10 (t.take p)) + n) false) := by unfold linesV; rw [if_neg (show ¬ key.toList = ([106] : List UInt8) from by rw [hk]; decide), if_pos hk]
  unfold moveN
  rw [e, e2, if_neg (by decide)]
  exact if_pos (fl_line _ _ _ _ _)
theorem mvN_cr {p n : Nat} {want : Int} {g : Bool} {key : ByteArray} (hk : key.toList = ([13] : List UInt8)) : moveN t p want n g key = five (lineV t p want ((cnt 10 (t.take p)) + n) false) := by
  have e : bytesV t p n (cnt 10 (t.take p)) key = (0, 0, 0, 0, 0, false) := by unfold bytesV; rw [if_neg (show ¬ key.toList = ([104] : List UInt8) from by rw [hk]; decide), if_neg (show ¬ key.toList = ([108] : List UInt8) from by rw [hk]; decide), if_neg (show ¬ key.toList = ([32] : List UInt8) from by rw [hk]; decide), if_neg (show ¬ key.toList = ([8] : List UInt8) from by rw [hk]; decide), if_neg (show ¬ key.toList = ([48] : List UInt8) from by rw [hk]; decide), if_neg (show ¬ key.toList = ([94] : List UInt8) from by rw [hk]; decide), if_neg (show ¬ key.toList = ([124] : List UInt8) from by rw [hk]; decide), if_neg (show ¬ key.toList = ([36] : List UInt8) from by rw [hk]; decide)]
  have e2 : linesV t p want n g (cnt 10 (t.take p)) key = (lineV t p want ((cnt 10 (t.take p)) + n) false) := by unfold linesV; rw [if_neg (show ¬ key.toList = ([106] : List UInt8) from by rw [hk]; decide), if_neg (show ¬ key.toList = ([43] : List UInt8) from by rw [hk]; decide), if_pos hk]
  unfold moveN
  rw [e, e2, if_neg (by decide)]
  exact if_pos (fl_line _ _ _ _ _)
theorem mvN_k {p n : Nat} {want : Int} {g : Bool} {key : ByteArray} (hk : key.toList = ([107] : List UInt8)) : moveN t p want n g key = five (lineV t p want ((cnt 10 (t.take p)) - n) true) := by
  have e : bytesV t p n (cnt 10 (t.take p)) key = (0, 0, 0, 0, 0, false) := by unfold bytesV; rw [if_neg (show ¬ key.toList = ([104] : List UInt8) from by rw [hk]; decide), if_neg (show ¬ key.toList = ([108] : List UInt8) from by rw [hk]; decide), if_neg (show ¬ key.toList = ([32] : List UInt8) from by rw [hk]; decide), if_neg (show ¬ key.toList = ([8] : List UInt8) from by rw [hk]; decide), if_neg (show ¬ key.toList = ([48] : List UInt8) from by rw [hk]; decide), if_neg (show ¬ key.toList = ([94] : List UInt8) from by rw [hk]; decide), if_neg (show ¬ key.toList = ([124] : List UInt8) from by rw [hk]; decide), if_neg (show ¬ key.toList = ([36] : List UInt8) from by rw [hk]; decide)]
  have e2 : linesV t p want n g (cnt 10 (t.take p)) key = (lineV t p want ((cnt 10 (t.take p)) - n) true) := by unfold linesV; rw [if_neg (show ¬ key.toList = ([106] : List UInt8) from by rw [hk]; decide), if_neg (show ¬ key.toList = ([43] : List UInt8) from by rw [hk]; decide), if_neg (show ¬ key.toList = ([13] : List UInt8) from by rw [hk]; decide), if_pos hk]
  unfold moveN
  rw [e, e2, if_neg (by decide)]
  exact if_pos (fl_line _ _ _ _ _)
theorem mvN_mi {p n : Nat} {want : Int} {g : Bool} {key : ByteArray} (hk : key.toList = ([45] : List UInt8)) : moveN t p want n g key = five (lineV t p want ((cnt 10 (t.take p)) - n) false) := by
  have e : bytesV t p n (cnt 10 (t.take p)) key = (0, 0, 0, 0, 0, false) := by unfold bytesV; rw [if_neg (show ¬ key.toList = ([104] : List UInt8) from by rw [hk]; decide), if_neg (show ¬ key.toList = ([108] : List UInt8) from by rw [hk]; decide), if_neg (show ¬ key.toList = ([32] : List UInt8) from by rw [hk]; decide), if_neg (show ¬ key.toList = ([8] : List UInt8) from by rw [hk]; decide), if_neg (show ¬ key.toList = ([48] : List UInt8) from by rw [hk]; decide), if_neg (show ¬ key.toList = ([94] : List UInt8) from by rw [hk]; decide), if_neg (show ¬ key.toList = ([124] : List UInt8) from by rw [hk]; decide), if_neg (show ¬ key.toList = ([36] : List UInt8) from by rw [hk]; decide)]
  have e2 : linesV t p want n g (cnt 10 (t.take p)) key = (lineV t p want ((cnt 10 (t.take p)) - n) false) := by unfold linesV; rw [if_neg (show ¬ key.toList = ([106] : List UInt8) from by rw [hk]; decide), if_neg (show ¬ key.toList = ([43] : List UInt8) from by rw [hk]; decide), if_neg (show ¬ key.toList = ([13] : List UInt8) from by rw [hk]; decide), if_neg (show ¬ key.toList = ([107] : List UInt8) from by rw [hk]; decide), if_pos hk]
  unfold moveN
  rw [e, e2, if_neg (by decide)]
  exact if_pos (fl_line _ _ _ _ _)
theorem mvN_un {p n : Nat} {want : Int} {g : Bool} {key : ByteArray} (hk : key.toList = ([95] : List UInt8)) : moveN t p want n g key = five (lineV t p want ((cnt 10 (t.take p)) + (n - 1)) false) := by
  have e : bytesV t p n (cnt 10 (t.take p)) key = (0, 0, 0, 0, 0, false) := by unfold bytesV; rw [if_neg (show ¬ key.toList = ([104] : List UInt8) from by rw [hk]; decide), if_neg (show ¬ key.toList = ([108] : List UInt8) from by rw [hk]; decide), if_neg (show ¬ key.toList = ([32] : List UInt8) from by rw [hk]; decide), if_neg (show ¬ key.toList = ([8] : List UInt8) from by rw [hk]; decide), if_neg (show ¬ key.toList = ([48] : List UInt8) from by rw [hk]; decide), if_neg (show ¬ key.toList = ([94] : List UInt8) from by rw [hk]; decide), if_neg (show ¬ key.toList = ([124] : List UInt8) from by rw [hk]; decide), if_neg (show ¬ key.toList = ([36] : List UInt8) from by rw [hk]; decide)]
  have e2 : linesV t p want n g (cnt 10 (t.take p)) key = (lineV t p want ((cnt 10 (t.take p)) + (n - 1)) false) := by unfold linesV; rw [if_neg (show ¬ key.toList = ([106] : List UInt8) from by rw [hk]; decide), if_neg (show ¬ key.toList = ([43] : List UInt8) from by rw [hk]; decide), if_neg (show ¬ key.toList = ([13] : List UInt8) from by rw [hk]; decide), if_neg (show ¬ key.toList = ([107] : List UInt8) from by rw [hk]; decide), if_neg (show ¬ key.toList = ([45] : List UInt8) from by rw [hk]; decide), if_pos hk]
  unfold moveN
  rw [e, e2, if_neg (by decide)]
  exact if_pos (fl_line _ _ _ _ _)
theorem mvN_G {p n : Nat} {want : Int} {g : Bool} {key : ByteArray} (hk : key.toList = ([71] : List UInt8)) : moveN t p want n g key = five (lineV t p want (if g = true then (n : Int) - 1 else cnt 10 t) false) := by
  have e : bytesV t p n (cnt 10 (t.take p)) key = (0, 0, 0, 0, 0, false) := by unfold bytesV; rw [if_neg (show ¬ key.toList = ([104] : List UInt8) from by rw [hk]; decide), if_neg (show ¬ key.toList = ([108] : List UInt8) from by rw [hk]; decide), if_neg (show ¬ key.toList = ([32] : List UInt8) from by rw [hk]; decide), if_neg (show ¬ key.toList = ([8] : List UInt8) from by rw [hk]; decide), if_neg (show ¬ key.toList = ([48] : List UInt8) from by rw [hk]; decide), if_neg (show ¬ key.toList = ([94] : List UInt8) from by rw [hk]; decide), if_neg (show ¬ key.toList = ([124] : List UInt8) from by rw [hk]; decide), if_neg (show ¬ key.toList = ([36] : List UInt8) from by rw [hk]; decide)]
  have e2 : linesV t p want n g (cnt 10 (t.take p)) key = (lineV t p want (if g = true then (n : Int) - 1 else cnt 10 t) false) := by unfold linesV; rw [if_neg (show ¬ key.toList = ([106] : List UInt8) from by rw [hk]; decide), if_neg (show ¬ key.toList = ([43] : List UInt8) from by rw [hk]; decide), if_neg (show ¬ key.toList = ([13] : List UInt8) from by rw [hk]; decide), if_neg (show ¬ key.toList = ([107] : List UInt8) from by rw [hk]; decide), if_neg (show ¬ key.toList = ([45] : List UInt8) from by rw [hk]; decide), if_neg (show ¬ key.toList = ([95] : List UInt8) from by rw [hk]; decide), if_pos hk]
  unfold moveN
  rw [e, e2, if_neg (by decide)]
  exact if_pos (fl_line _ _ _ _ _)
theorem mvN_gg {p n : Nat} {want : Int} {g : Bool} {key : ByteArray} (hk : key.toList = ([103, 103] : List UInt8)) : moveN t p want n g key = five (lineV t p want ((n : Int) - 1) false) := by
  have e : bytesV t p n (cnt 10 (t.take p)) key = (0, 0, 0, 0, 0, false) := by unfold bytesV; rw [if_neg (show ¬ key.toList = ([104] : List UInt8) from by rw [hk]; decide), if_neg (show ¬ key.toList = ([108] : List UInt8) from by rw [hk]; decide), if_neg (show ¬ key.toList = ([32] : List UInt8) from by rw [hk]; decide), if_neg (show ¬ key.toList = ([8] : List UInt8) from by rw [hk]; decide), if_neg (show ¬ key.toList = ([48] : List UInt8) from by rw [hk]; decide), if_neg (show ¬ key.toList = ([94] : List UInt8) from by rw [hk]; decide), if_neg (show ¬ key.toList = ([124] : List UInt8) from by rw [hk]; decide), if_neg (show ¬ key.toList = ([36] : List UInt8) from by rw [hk]; decide)]
  have e2 : linesV t p want n g (cnt 10 (t.take p)) key = (lineV t p want ((n : Int) - 1) false) := by unfold linesV; rw [if_neg (show ¬ key.toList = ([106] : List UInt8) from by rw [hk]; decide), if_neg (show ¬ key.toList = ([43] : List UInt8) from by rw [hk]; decide), if_neg (show ¬ key.toList = ([13] : List UInt8) from by rw [hk]; decide), if_neg (show ¬ key.toList = ([107] : List UInt8) from by rw [hk]; decide), if_neg (show ¬ key.toList = ([45] : List UInt8) from by rw [hk]; decide), if_neg (show ¬ key.toList = ([95] : List UInt8) from by rw [hk]; decide), if_neg (show ¬ key.toList = ([71] : List UInt8) from by rw [hk]; decide), if_pos hk]
  unfold moveN
  rw [e, e2, if_neg (by decide)]
  exact if_pos (fl_line _ _ _ _ _)
theorem mvN_none {p n : Nat} {want : Int} {g : Bool} {key : ByteArray} (h_h : ¬ key.toList = ([104] : List UInt8)) (h_l : ¬ key.toList = ([108] : List UInt8)) (h_sp : ¬ key.toList = ([32] : List UInt8)) (h_bs : ¬ key.toList = ([8] : List UInt8)) (h_z : ¬ key.toList = ([48] : List UInt8)) (h_ca : ¬ key.toList = ([94] : List UInt8)) (h_ba : ¬ key.toList = ([124] : List UInt8)) (h_do : ¬ key.toList = ([36] : List UInt8)) (h_j : ¬ key.toList = ([106] : List UInt8)) (h_pl : ¬ key.toList = ([43] : List UInt8)) (h_cr : ¬ key.toList = ([13] : List UInt8)) (h_k : ¬ key.toList = ([107] : List UInt8)) (h_mi : ¬ key.toList = ([45] : List UInt8)) (h_un : ¬ key.toList = ([95] : List UInt8)) (h_G : ¬ key.toList = ([71] : List UInt8)) (h_gg : ¬ key.toList = ([103, 103] : List UInt8)) : moveN t p want n g key = (0, 0, 0, 0, 2) := by
  have e : bytesV t p n (cnt 10 (t.take p)) key = (0, 0, 0, 0, 0, false) := by unfold bytesV; rw [if_neg h_h, if_neg h_l, if_neg h_sp, if_neg h_bs, if_neg h_z, if_neg h_ca, if_neg h_ba, if_neg h_do]
  have e2 : linesV t p want n g (cnt 10 (t.take p)) key = (0, 0, 0, 0, 0, false) := by unfold linesV; rw [if_neg h_j, if_neg h_pl, if_neg h_cr, if_neg h_k, if_neg h_mi, if_neg h_un, if_neg h_G, if_neg h_gg]
  unfold moveN
  rw [e, e2, if_neg (by decide), if_neg (by decide)]
theorem known_h {key : ByteArray} (hk : key.toList = ([104] : List UInt8)) : quoinref07_known.f key = some true := by unfold quoinref07_known.f; rw [if_pos hk]
theorem known_l {key : ByteArray} (hk : key.toList = ([108] : List UInt8)) : quoinref07_known.f key = some true := by unfold quoinref07_known.f; rw [if_neg (show ¬ key.toList = ([104] : List UInt8) from by rw [hk]; decide), if_pos hk]
theorem known_j {key : ByteArray} (hk : key.toList = ([106] : List UInt8)) : quoinref07_known.f key = some true := by unfold quoinref07_known.f; rw [if_neg (show ¬ key.toList = ([104] : List UInt8) from by rw [hk]; decide), if_neg (show ¬ key.toList = ([108] : List UInt8) from by rw [hk]; decide), if_pos hk]
theorem known_k {key : ByteArray} (hk : key.toList = ([107] : List UInt8)) : quoinref07_known.f key = some true := by unfold quoinref07_known.f; rw [if_neg (show ¬ key.toList = ([104] : List UInt8) from by rw [hk]; decide), if_neg (show ¬ key.toList = ([108] : List UInt8) from by rw [hk]; decide), if_neg (show ¬ key.toList = ([106] : List UInt8) from by rw [hk]; decide), if_pos hk]
theorem known_pl {key : ByteArray} (hk : key.toList = ([43] : List UInt8)) : quoinref07_known.f key = some true := by unfold quoinref07_known.f; rw [if_neg (show ¬ key.toList = ([104] : List UInt8) from by rw [hk]; decide), if_neg (show ¬ key.toList = ([108] : List UInt8) from by rw [hk]; decide), if_neg (show ¬ key.toList = ([106] : List UInt8) from by rw [hk]; decide), if_neg (show ¬ key.toList = ([107] : List UInt8) from by rw [hk]; decide), if_pos hk]
theorem known_mi {key : ByteArray} (hk : key.toList = ([45] : List UInt8)) : quoinref07_known.f key = some true := by unfold quoinref07_known.f; rw [if_neg (show ¬ key.toList = ([104] : List UInt8) from by rw [hk]; decide), if_neg (show ¬ key.toList = ([108] : List UInt8) from by rw [hk]; decide), if_neg (show ¬ key.toList = ([106] : List UInt8) from by rw [hk]; decide), if_neg (show ¬ key.toList = ([107] : List UInt8) from by rw [hk]; decide), if_neg (show ¬ key.toList = ([43] : List UInt8) from by rw [hk]; decide), if_pos hk]
theorem known_un {key : ByteArray} (hk : key.toList = ([95] : List UInt8)) : quoinref07_known.f key = some true := by unfold quoinref07_known.f; rw [if_neg (show ¬ key.toList = ([104] : List UInt8) from by rw [hk]; decide), if_neg (show ¬ key.toList = ([108] : List UInt8) from by rw [hk]; decide), if_neg (show ¬ key.toList = ([106] : List UInt8) from by rw [hk]; decide), if_neg (show ¬ key.toList = ([107] : List UInt8) from by rw [hk]; decide), if_neg (show ¬ key.toList = ([43] : List UInt8) from by rw [hk]; decide), if_neg (show ¬ key.toList = ([45] : List UInt8) from by rw [hk]; decide), if_pos hk]
theorem known_z {key : ByteArray} (hk : key.toList = ([48] : List UInt8)) : quoinref07_known.f key = some true := by unfold quoinref07_known.f; rw [if_neg (show ¬ key.toList = ([104] : List UInt8) from by rw [hk]; decide), if_neg (show ¬ key.toList = ([108] : List UInt8) from by rw [hk]; decide), if_neg (show ¬ key.toList = ([106] : List UInt8) from by rw [hk]; decide), if_neg (show ¬ key.toList = ([107] : List UInt8) from by rw [hk]; decide), if_neg (show ¬ key.toList = ([43] : List UInt8) from by rw [hk]; decide), if_neg (show ¬ key.toList = ([45] : List UInt8) from by rw [hk]; decide), if_neg (show ¬ key.toList = ([95] : List UInt8) from by rw [hk]; decide), if_pos hk]
theorem known_ca {key : ByteArray} (hk : key.toList = ([94] : List UInt8)) : quoinref07_known.f key = some true := by unfold quoinref07_known.f; rw [if_neg (show ¬ key.toList = ([104] : List UInt8) from by rw [hk]; decide), if_neg (show ¬ key.toList = ([108] : List UInt8) from by rw [hk]; decide), if_neg (show ¬ key.toList = ([106] : List UInt8) from by rw [hk]; decide), if_neg (show ¬ key.toList = ([107] : List UInt8) from by rw [hk]; decide), if_neg (show ¬ key.toList = ([43] : List UInt8) from by rw [hk]; decide), if_neg (show ¬ key.toList = ([45] : List UInt8) from by rw [hk]; decide), if_neg (show ¬ key.toList = ([95] : List UInt8) from by rw [hk]; decide), if_neg (show ¬ key.toList = ([48] : List UInt8) from by rw [hk]; decide), if_pos hk]
theorem known_do {key : ByteArray} (hk : key.toList = ([36] : List UInt8)) : quoinref07_known.f key = some true := by unfold quoinref07_known.f; rw [if_neg (show ¬ key.toList = ([104] : List UInt8) from by rw [hk]; decide), if_neg (show ¬ key.toList = ([108] : List UInt8) from by rw [hk]; decide), if_neg (show ¬ key.toList = ([106] : List UInt8) from by rw [hk]; decide), if_neg (show ¬ key.toList = ([107] : List UInt8) from by rw [hk]; decide), if_neg (show ¬ key.toList = ([43] : List UInt8) from by rw [hk]; decide), if_neg (show ¬ key.toList = ([45] : List UInt8) from by rw [hk]; decide), if_neg (show ¬ key.toList = ([95] : List UInt8) from by rw [hk]; decide), if_neg (show ¬ key.toList = ([48] : List UInt8) from by rw [hk]; decide), if_neg (show ¬ key.toList = ([94] : List UInt8) from by rw [hk]; decide), if_pos hk]
theorem known_ba {key : ByteArray} (hk : key.toList = ([124] : List UInt8)) : quoinref07_known.f key = some true := by unfold quoinref07_known.f; rw [if_neg (show ¬ key.toList = ([104] : List UInt8) from by rw [hk]; decide), if_neg (show ¬ key.toList = ([108] : List UInt8) from by rw [hk]; decide), if_neg (show ¬ key.toList = ([106] : List UInt8) from by rw [hk]; decide), if_neg (show ¬ key.toList = ([107] : List UInt8) from by rw [hk]; decide), if_neg (show ¬ key.toList = ([43] : List UInt8) from by rw [hk]; decide), if_neg (show ¬ key.toList = ([45] : List UInt8) from by rw [hk]; decide), if_neg (show ¬ key.toList = ([95] : List UInt8) from by rw [hk]; decide), if_neg (show ¬ key.toList = ([48] : List UInt8) from by rw [hk]; decide), if_neg (show ¬ key.toList = ([94] : List UInt8) from by rw [hk]; decide), if_neg (show ¬ key.toList = ([36] : List UInt8) from by rw [hk]; decide), if_pos hk]
theorem known_G {key : ByteArray} (hk : key.toList = ([71] : List UInt8)) : quoinref07_known.f key = some true := by unfold quoinref07_known.f; rw [if_neg (show ¬ key.toList = ([104] : List UInt8) from by rw [hk]; decide), if_neg (show ¬ key.toList = ([108] : List UInt8) from by rw [hk]; decide), if_neg (show ¬ key.toList = ([106] : List UInt8) from by rw [hk]; decide), if_neg (show ¬ key.toList = ([107] : List UInt8) from by rw [hk]; decide), if_neg (show ¬ key.toList = ([43] : List UInt8) from by rw [hk]; decide), if_neg (show ¬ key.toList = ([45] : List UInt8) from by rw [hk]; decide), if_neg (show ¬ key.toList = ([95] : List UInt8) from by rw [hk]; decide), if_neg (show ¬ key.toList = ([48] : List UInt8) from by rw [hk]; decide), if_neg (show ¬ key.toList = ([94] : List UInt8) from by rw [hk]; decide), if_neg (show ¬ key.toList = ([36] : List UInt8) from by rw [hk]; decide), if_neg (show ¬ key.toList = ([124] : List UInt8) from by rw [hk]; decide), if_pos hk]
theorem known_gg {key : ByteArray} (hk : key.toList = ([103, 103] : List UInt8)) : quoinref07_known.f key = some true := by unfold quoinref07_known.f; rw [if_neg (show ¬ key.toList = ([104] : List UInt8) from by rw [hk]; decide), if_neg (show ¬ key.toList = ([108] : List UInt8) from by rw [hk]; decide), if_neg (show ¬ key.toList = ([106] : List UInt8) from by rw [hk]; decide), if_neg (show ¬ key.toList = ([107] : List UInt8) from by rw [hk]; decide), if_neg (show ¬ key.toList = ([43] : List UInt8) from by rw [hk]; decide), if_neg (show ¬ key.toList = ([45] : List UInt8) from by rw [hk]; decide), if_neg (show ¬ key.toList = ([95] : List UInt8) from by rw [hk]; decide), if_neg (show ¬ key.toList = ([48] : List UInt8) from by rw [hk]; decide), if_neg (show ¬ key.toList = ([94] : List UInt8) from by rw [hk]; decide), if_neg (show ¬ key.toList = ([36] : List UInt8) from by rw [hk]; decide), if_neg (show ¬ key.toList = ([124] : List UInt8) from by rw [hk]; decide), if_neg (show ¬ key.toList = ([71] : List UInt8) from by rw [hk]; decide), if_pos hk]
theorem known_sp {key : ByteArray} (hk : key.toList = ([32] : List UInt8)) : quoinref07_known.f key = some true := by unfold quoinref07_known.f; rw [if_neg (show ¬ key.toList = ([104] : List UInt8) from by rw [hk]; decide), if_neg (show ¬ key.toList = ([108] : List UInt8) from by rw [hk]; decide), if_neg (show ¬ key.toList = ([106] : List UInt8) from by rw [hk]; decide), if_neg (show ¬ key.toList = ([107] : List UInt8) from by rw [hk]; decide), if_neg (show ¬ key.toList = ([43] : List UInt8) from by rw [hk]; decide), if_neg (show ¬ key.toList = ([45] : List UInt8) from by rw [hk]; decide), if_neg (show ¬ key.toList = ([95] : List UInt8) from by rw [hk]; decide), if_neg (show ¬ key.toList = ([48] : List UInt8) from by rw [hk]; decide), if_neg (show ¬ key.toList = ([94] : List UInt8) from by rw [hk]; decide), if_neg (show ¬ key.toList = ([36] : List UInt8) from by rw [hk]; decide), if_neg (show ¬ key.toList = ([124] : List UInt8) from by rw [hk]; decide), if_neg (show ¬ key.toList = ([71] : List UInt8) from by rw [hk]; decide), if_neg (show ¬ key.toList = ([103, 103] : List UInt8) from by rw [hk]; decide), if_pos hk]
theorem known_bs {key : ByteArray} (hk : key.toList = ([8] : List UInt8)) : quoinref07_known.f key = some true := by unfold quoinref07_known.f; rw [if_neg (show ¬ key.toList = ([104] : List UInt8) from by rw [hk]; decide), if_neg (show ¬ key.toList = ([108] : List UInt8) from by rw [hk]; decide), if_neg (show ¬ key.toList = ([106] : List UInt8) from by rw [hk]; decide), if_neg (show ¬ key.toList = ([107] : List UInt8) from by rw [hk]; decide), if_neg (show ¬ key.toList = ([43] : List UInt8) from by rw [hk]; decide), if_neg (show ¬ key.toList = ([45] : List UInt8) from by rw [hk]; decide), if_neg (show ¬ key.toList = ([95] : List UInt8) from by rw [hk]; decide), if_neg (show ¬ key.toList = ([48] : List UInt8) from by rw [hk]; decide), if_neg (show ¬ key.toList = ([94] : List UInt8) from by rw [hk]; decide), if_neg (show ¬ key.toList = ([36] : List UInt8) from by rw [hk]; decide), if_neg (show ¬ key.toList = ([124] : List UInt8) from by rw [hk]; decide), if_neg (show ¬ key.toList = ([71] : List UInt8) from by rw [hk]; decide), if_neg (show ¬ key.toList = ([103, 103] : List UInt8) from by rw [hk]; decide), if_neg (show ¬ key.toList = ([32] : List UInt8) from by rw [hk]; decide), if_pos hk]
theorem known_cr {key : ByteArray} (hk : key.toList = ([13] : List UInt8)) : quoinref07_known.f key = some true := by unfold quoinref07_known.f; rw [if_neg (show ¬ key.toList = ([104] : List UInt8) from by rw [hk]; decide), if_neg (show ¬ key.toList = ([108] : List UInt8) from by rw [hk]; decide), if_neg (show ¬ key.toList = ([106] : List UInt8) from by rw [hk]; decide), if_neg (show ¬ key.toList = ([107] : List UInt8) from by rw [hk]; decide), if_neg (show ¬ key.toList = ([43] : List UInt8) from by rw [hk]; decide), if_neg (show ¬ key.toList = ([45] : List UInt8) from by rw [hk]; decide), if_neg (show ¬ key.toList = ([95] : List UInt8) from by rw [hk]; decide), if_neg (show ¬ key.toList = ([48] : List UInt8) from by rw [hk]; decide), if_neg (show ¬ key.toList = ([94] : List UInt8) from by rw [hk]; decide), if_neg (show ¬ key.toList = ([36] : List UInt8) from by rw [hk]; decide), if_neg (show ¬ key.toList = ([124] : List UInt8) from by rw [hk]; decide), if_neg (show ¬ key.toList = ([71] : List UInt8) from by rw [hk]; decide), if_neg (show ¬ key.toList = ([103, 103] : List UInt8) from by rw [hk]; decide), if_neg (show ¬ key.toList = ([32] : List UInt8) from by rw [hk]; decide), if_neg (show ¬ key.toList = ([8] : List UInt8) from by rw [hk]; decide), if_pos hk]
theorem known_none {key : ByteArray} (h_h : ¬ key.toList = ([104] : List UInt8)) (h_l : ¬ key.toList = ([108] : List UInt8)) (h_sp : ¬ key.toList = ([32] : List UInt8)) (h_bs : ¬ key.toList = ([8] : List UInt8)) (h_z : ¬ key.toList = ([48] : List UInt8)) (h_ca : ¬ key.toList = ([94] : List UInt8)) (h_ba : ¬ key.toList = ([124] : List UInt8)) (h_do : ¬ key.toList = ([36] : List UInt8)) (h_j : ¬ key.toList = ([106] : List UInt8)) (h_pl : ¬ key.toList = ([43] : List UInt8)) (h_cr : ¬ key.toList = ([13] : List UInt8)) (h_k : ¬ key.toList = ([107] : List UInt8)) (h_mi : ¬ key.toList = ([45] : List UInt8)) (h_un : ¬ key.toList = ([95] : List UInt8)) (h_G : ¬ key.toList = ([71] : List UInt8)) (h_gg : ¬ key.toList = ([103, 103] : List UInt8)) : quoinref07_known.f key = some false := by unfold quoinref07_known.f; rw [if_neg h_h, if_neg h_l, if_neg h_j, if_neg h_k, if_neg h_pl, if_neg h_mi, if_neg h_un, if_neg h_z, if_neg h_ca, if_neg h_do, if_neg h_ba, if_neg h_G, if_neg h_gg, if_neg h_sp, if_neg h_bs, if_neg h_cr]
theorem fin_self {x : Nat} (hx : x ≤ t.length) : fin t x = x ↔ x = t.length ∨ t.getD x 0 = 10 := by
  have h1 := fin_ge t x
  have h2 := fin_le hx
  constructor
  · intro h
    by_cases h3 : x = t.length
    · exact .inl h3
    · have h4 := fin_at (t := t) (p := x) (by omega)
      rw [h] at h4
      exact .inr h4
  · intro h
    by_cases h3 : fin t x = x
    · exact h3
    · rcases h with h | h
      · omega
      · exact absurd h (fin_ne (Nat.le_refl _) (by omega))
theorem beg_self (t : List Int) (x : Nat) : beg t x = x ↔ isSt t x := ⟨fun h => by have := beg_st t x; rw [h] at this; exact this, fun h => (beg_unique (Nat.le_refl _) h (fun _ a b => by omega)).symm⟩
theorem rest_self {x : Nat} (hx : x ≤ t.length) : rest t x = x ↔ (isSt t x ∨ (x < t.length ∧ t.getD x 0 ≠ 10)) := by
  have hb := beg_le t x
  have h1 := fin_self hx
  have h2 := beg_self t x
  unfold rest
  by_cases h3 : isSt t x
  · rw [if_neg (fun h => by have := h2.2 h3; omega)]
    exact ⟨fun _ => .inl h3, fun _ => rfl⟩
  · have h4 : beg t x ≠ x := fun h => h3 (h2.1 h)
    by_cases h5 : fin t x = x
    · rw [if_pos ⟨by omega, h5⟩]
      refine ⟨fun h => by omega, fun h => ?_⟩
      rcases h with h | ⟨h6, h7⟩
      · exact absurd h h3
      · rcases h1.1 h5 with h | h
        · omega
        · exact absurd h h7
    · rw [if_neg (fun h => h5 h.2)]
      refine ⟨fun _ => .inr ⟨?_, ?_⟩, fun _ => rfl⟩
      · have : ¬ x = t.length := fun h => h5 (h1.2 (.inl h))
        omega
      · exact fun h => h5 (h1.2 (.inr h))
theorem stop_r {x : Nat} (hx : x ≤ t.length) (h0 : 1 ≤ x) : stopR t x ↔ (rest t x = x ∨ x = t.length) := by
  unfold stopR
  rw [rest_self hx]
  unfold isSt
  constructor
  · rintro (h | h | h)
    · exact .inr h
    · by_cases h2 : x = t.length
      · exact .inr h2
      · exact .inl (.inr ⟨by omega, h⟩)
    · exact .inl (.inl (.inr h))
  · rintro ((( h | h) | h) | h)
    · omega
    · exact .inr (.inr h)
    · exact .inr (.inl h.2)
    · exact .inl h
theorem stop_l {x : Nat} (hx : x < t.length) : stopL t x ↔ rest t x = x := by
  unfold stopL
  rw [rest_self (by omega)]
  unfold isSt
  constructor
  · rintro (h | h | h)
    · exact .inr ⟨hx, h⟩
    · exact .inl (.inl h)
    · exact .inl (.inr h)
  · rintro ((h | h) | h)
    · exact .inr (.inl h)
    · exact .inr (.inr h)
    · exact .inl h.2
def lst (l : List Int) : Int := if l.length = 0 then -1 else l.getD (l.length - 1) 0
theorem lst_snoc (l : List Int) (x : Int) : lst (l ++ [x]) = x := by
  unfold lst
  rw [if_neg (by simp)]
  simp [List.getD]
theorem lst_mem {l : List Int} (h : ¬ l.length = 0) : lst l ∈ l := by
  unfold lst
  rw [if_neg h]
  have : l.length - 1 < l.length := by omega
  simp [List.getD, List.getElem?_eq_getElem this]
end
section
variable {t : List Int} (hl : t.length ≤ 140737488355328)
include hl
theorem right_l0 (a n : Int) (hn : n ≤ 9999) : ∀ (d x m : Nat) (l : List Int), x + d = t.length + 1 → 1 ≤ x → (l.length : Int) + m = n → (∀ y ∈ l, a < y) → a < x → ∃ r, Ev (fun k => quoinref07_right.l0 k t n l (x : Int)) r ∧ r.length ≤ 9999 ∧ (∀ y ∈ r, a < y) ∧ lst r = onwN t m x (lst l) := by
  intro d
  induction d with
  | zero =>
    intro x m l hx h1 hm hy ha
    have e : onwN t m x (lst l) = lst l := by
      cases m with
      | zero => rfl
      | succ m => conv => lhs; unfold onwN
                  rw [nx_end (by omega)]
    exact ⟨l, Ev.step (fun _ => quoinref07_right.l0.eq_2 ..) (Ev.neg (by omega) (Ev.step (fun _ => quoinref07_right.j1.eq_2 ..) (Ev.neg Bool.false_ne_true (Ev.now _)))), by omega, hy, e.symm⟩
  | succ d ih =>
    intro x m l hx h1 hm hy ha
    cases m with
    | zero =>
      refine ⟨l, Ev.step (fun _ => quoinref07_right.l0.eq_2 ..) (Ev.pos (by omega) ?_), by omega, hy, rfl⟩
      rw [decide_eq_false (by omega)]
      exact Ev.step (fun _ => quoinref07_right.j1.eq_2 ..) (Ev.neg Bool.false_ne_true (Ev.now _))
    | succ m =>
      have hs := stop_r (t := t) (x := x) (by omega) h1
      have hr := refRest_ev hl (x : Int)
      rw [clamp_id (by omega)] at hr
      have w2 : wrap64 ((x : Int) + 1) = ((x + 1 : Nat) : Int) := by rw [wrap64_id (by omega) (by omega)]; omega
      have go : ∀ r, Ev (fun k => if (rest t x : Int) = (x : Int) then (if l.length < 17592186044416 then (quoinref07_right.l0 k t n (l ++ [(x : Int)]) ((x + 1 : Nat) : Int)) else (none)) else (if (x : Int) = (t.length : Int) then (if l.length < 17592186044416 then (quoinref07_right.l0 k t n (l ++ [(x : Int)]) ((x + 1 : Nat) : Int)) else (none)) else (quoinref07_right.l0 k t n l ((x + 1 : Nat) : Int)))) r → Ev (fun k => quoinref07_right.l0 k t n l (x : Int)) r := by
        intro r h
        refine Ev.step (fun _ => quoinref07_right.l0.eq_2 ..) (Ev.pos (by omega) ?_)
        rw [decide_eq_true (by omega)]
        refine Ev.step (fun _ => quoinref07_right.j1.eq_2 ..) (Ev.pos rfl (Ev.bind hr ?_))
        rw [w2]
        exact h
      by_cases h : stopR t x
      · have e : onwN t (m + 1) x (lst l) = onwN t m (x + 1) (lst (l ++ [(x : Int)])) := by
          rw [lst_snoc]
          conv => lhs; unfold onwN
          rw [nx_at (by omega), if_pos h]
        obtain ⟨r, q1, q2, q3, q4⟩ := ih (x + 1) m (l ++ [(x : Int)]) (by omega) (by omega) (by simp; omega) (by intro y h; exact (List.mem_append.1 h).elim (hy y) (fun h => by rw [List.mem_singleton.1 h]; exact ha)) (by omega)
        refine ⟨r, go r ?_, q2, q3, by rw [e]; exact q4⟩
        have y1 := Ev.pos (f := fun _ => none) (show l.length < 17592186044416 from by omega) q1
        by_cases h2 : rest t x = x
        · exact Ev.pos (by omega) y1
        · exact Ev.neg (by omega) (Ev.pos (by rcases hs.1 h with h | h <;> omega) y1)
      · have e : onwN t (m + 1) x (lst l) = onwN t (m + 1) (x + 1) (lst l) := by
          conv => lhs; unfold onwN
          conv => rhs; unfold onwN
          rw [nx_at (t := t) (x := x) (by omega), if_neg h]
        obtain ⟨r, q1, q2, q3, q4⟩ := ih (x + 1) (m + 1) l (by omega) (by omega) hm hy (by omega)
        refine ⟨r, go r (Ev.neg (fun h2 => h (hs.2 (.inl (by omega)))) (Ev.neg (fun h2 => h (hs.2 (.inr (by omega)))) q1)), q2, q3, by rw [e]; exact q4⟩
theorem right_ev {p n : Nat} (hp : p ≤ t.length) (hn : n ≤ 9999) : ∃ r, Ev (fun k => quoinref07_right.f k t p n) r ∧ r.length ≤ 9999 ∧ (∀ y ∈ r, (p : Int) < y) ∧ lst r = onwN t n (p + 1) (-1) := by
  obtain ⟨r, h⟩ := right_l0 hl (p : Int) (n : Int) (by omega) (t.length - p) (p + 1) n [] (by omega) (by omega) (by simp) (by simp) (by omega)
  refine ⟨r, ?_, h.2⟩
  unfold quoinref07_right.f
  rw [show wrap64 ((p : Int) + 1) = ((p + 1 : Nat) : Int) from by rw [wrap64_id (by omega) (by omega)]; omega]
  exact h.1
theorem left_l0 (a n : Int) (hn : n ≤ 9999) : ∀ (x m : Nat) (l : List Int), x ≤ t.length → (l.length : Int) + m = n → (∀ y ∈ l, 0 ≤ y ∧ y < a) → (x : Int) ≤ a → ∃ r, Ev (fun k => quoinref07_left.l0 k t n l ((x : Int) - 1)) r ∧ r.length ≤ 9999 ∧ (∀ y ∈ r, 0 ≤ y ∧ y < a) ∧ lst r = bckN t m x (lst l) := by
  intro x
  induction x with
  | zero =>
    intro m l hx hm hy ha
    have e : bckN t m 0 (lst l) = lst l := by
      cases m with
      | zero => rfl
      | succ m => rfl
    exact ⟨l, Ev.step (fun _ => quoinref07_left.l0.eq_2 ..) (Ev.neg (by omega) (Ev.step (fun _ => quoinref07_left.j1.eq_2 ..) (Ev.neg Bool.false_ne_true (Ev.now _)))), by omega, hy, e.symm⟩
  | succ x ih =>
    intro m l hx hm hy ha
    rw [show ((x + 1 : Nat) : Int) - 1 = (x : Int) from by omega]
    cases m with
    | zero =>
      refine ⟨l, Ev.step (fun _ => quoinref07_left.l0.eq_2 ..) (Ev.pos (by omega) ?_), by omega, hy, rfl⟩
      rw [decide_eq_false (by omega)]
      exact Ev.step (fun _ => quoinref07_left.j1.eq_2 ..) (Ev.neg Bool.false_ne_true (Ev.now _))
    | succ m =>
      have hs := stop_l (t := t) (x := x) (by omega)
      have hr := refRest_ev hl (x : Int)
      rw [clamp_id (by omega)] at hr
      have w2 : wrap64 ((x : Int) - 1) = (x : Int) - 1 := wrap64_id (by omega) (by omega)
      have go : ∀ r, Ev (fun k => if (rest t x : Int) = (x : Int) then (if l.length < 17592186044416 then (quoinref07_left.l0 k t n (l ++ [(x : Int)]) ((x : Int) - 1)) else (none)) else (quoinref07_left.l0 k t n l ((x : Int) - 1))) r → Ev (fun k => quoinref07_left.l0 k t n l (x : Int)) r := by
        intro r h
        refine Ev.step (fun _ => quoinref07_left.l0.eq_2 ..) (Ev.pos (by omega) ?_)
        rw [decide_eq_true (by omega)]
        refine Ev.step (fun _ => quoinref07_left.j1.eq_2 ..) (Ev.pos rfl (Ev.bind hr ?_))
        rw [w2]
        exact h
      by_cases h : stopL t x
      · have e : bckN t (m + 1) (x + 1) (lst l) = bckN t m x (lst (l ++ [(x : Int)])) := by
          rw [lst_snoc]
          conv => lhs; unfold bckN prv
          rw [if_pos h]
        obtain ⟨r, q1, q2, q3, q4⟩ := ih m (l ++ [(x : Int)]) (by omega) (by simp; omega) (by intro y h; exact (List.mem_append.1 h).elim (hy y) (fun h => by rw [List.mem_singleton.1 h]; omega)) (by omega)
        exact ⟨r, go r (Ev.pos (by have := hs.1 h; omega) (Ev.pos (by omega) q1)), q2, q3, by rw [e]; exact q4⟩
      · have e : bckN t (m + 1) (x + 1) (lst l) = bckN t (m + 1) x (lst l) := by
          conv => lhs; unfold bckN prv
          conv => rhs; unfold bckN
          rw [if_neg h]
        obtain ⟨r, q1, q2, q3, q4⟩ := ih (m + 1) l (by omega) hm hy (by omega)
        exact ⟨r, go r (Ev.neg (fun h2 => h (hs.2 (by omega))) q1), q2, q3, by rw [e]; exact q4⟩
theorem left_ev {p n : Nat} (hp : p ≤ t.length) (hn : n ≤ 9999) : ∃ r, Ev (fun k => quoinref07_left.f k t p n) r ∧ r.length ≤ 9999 ∧ (∀ y ∈ r, 0 ≤ y ∧ y < (p : Int)) ∧ lst r = bckN t n p (-1) := by
  obtain ⟨r, h⟩ := left_l0 hl (p : Int) (n : Int) (by omega) p n [] hp (by simp) (by simp) (Int.le_refl _)
  refine ⟨r, ?_, h.2⟩
  unfold quoinref07_left.f
  rw [show wrap64 ((p : Int) - 1) = (p : Int) - 1 from wrap64_id (by omega) (by omega)]
  exact h.1
theorem rStart_of {p : Nat} (hp : p ≤ t.length) : Ev (fun k => quoinref05_Start.f k t (cnt 10 (t.take p))) ((beg t p : Int), 0) := by
  have c1 := cnt_le 10 (t.take p)
  have c2 := List.length_take_le p t
  have c0 := cnt_nonneg 10 (t.take p)
  refine Ev.eq (refStart_ev hl (cnt 10 (t.take p)) (by omega)) ?_
  unfold startR
  rw [if_neg (by omega), sg_beg hp]
theorem rEnd_of {p : Nat} (hp : p ≤ t.length) : Ev (fun k => quoinref05_End.f k t (cnt 10 (t.take p))) ((fin t p : Int), 0) := by
  have c1 := cnt_le 10 (t.take p)
  have c2 := List.length_take_le p t
  have c0 := cnt_nonneg 10 (t.take p)
  refine Ev.eq (refEnd_ev hl (cnt 10 (t.take p)) (by omega)) ?_
  unfold endR
  rw [if_neg (by omega), sg_beg hp]
  simp only [beg_fin hp]
theorem along_h {p n : Nat} (hp : p ≤ t.length) (h1 : 1 ≤ n) (hn : n ≤ 9999) {key : ByteArray} (hk : key.toList = ([104] : List UInt8)) : Ev (fun k => quoinref07_along.f k t p n (cnt 10 (t.take p)) key) (five (if p = beg t p then F6 else T6 t p (max ((p : Int) - n) (beg t p)) 1)) := by
  have c0 := cnt_nonneg 10 (t.take p)
  have c1 := cnt_le 10 (t.take p)
  have c2 := List.length_take_le p t
  have hb := beg_le t p
  have hf := fin_ge t p
  have hf2 := fin_le hp
  refine Ev.bind (rStart_of hl hp) (Ev.bind (rEnd_of hl hp) ((Ev.pos hk ?_)))
  rw [show wrap64 ((p : Int) - (n : Int)) = (p : Int) - n from wrap64_id (by omega) (by omega), mx_eq]
  by_cases h : p = beg t p
  · rw [if_pos h]
    exact Ev.pos (by omega) (Ev.now _)
  · rw [if_neg h]
    exact Ev.neg (by omega) (Ev.done (refColumn_ev hl (max ((p : Int) - n) (beg t p))) rfl)
theorem along_l {p n : Nat} (hp : p ≤ t.length) (h1 : 1 ≤ n) (hn : n ≤ 9999) {key : ByteArray} (hk : key.toList = ([108] : List UInt8)) : Ev (fun k => quoinref07_along.f k t p n (cnt 10 (t.take p)) key) (five (if p = fin t p then F6 else T6 t p (min ((p : Int) + n) (fin t p)) 1)) := by
  have c0 := cnt_nonneg 10 (t.take p)
  have c1 := cnt_le 10 (t.take p)
  have c2 := List.length_take_le p t
  have hb := beg_le t p
  have hf := fin_ge t p
  have hf2 := fin_le hp
  refine Ev.bind (rStart_of hl hp) (Ev.bind (rEnd_of hl hp) (Ev.neg (show ¬ key.toList = ([104] : List UInt8) from by rw [hk]; decide) ((Ev.pos hk ?_))))
  rw [show wrap64 ((p : Int) + (n : Int)) = (p : Int) + n from wrap64_id (by omega) (by omega), mn_eq]
  by_cases h : p = fin t p
  · rw [if_pos h]
    exact Ev.pos (by omega) (Ev.now _)
  · rw [if_neg h]
    exact Ev.neg (by omega) (Ev.done (refColumn_ev hl (min ((p : Int) + n) (fin t p))) rfl)
theorem along_sp {p n : Nat} (hp : p ≤ t.length) (h1 : 1 ≤ n) (hn : n ≤ 9999) {key : ByteArray} (hk : key.toList = ([32] : List UInt8)) : Ev (fun k => quoinref07_along.f k t p n (cnt 10 (t.take p)) key) (five (fin6 t p (onwN t n (p + 1) (-1)))) := by
  have c0 := cnt_nonneg 10 (t.take p)
  have c1 := cnt_le 10 (t.take p)
  have c2 := List.length_take_le p t
  have hb := beg_le t p
  have hf := fin_ge t p
  have hf2 := fin_le hp
  refine Ev.bind (rStart_of hl hp) (Ev.bind (rEnd_of hl hp) (Ev.neg (show ¬ key.toList = ([104] : List UInt8) from by rw [hk]; decide) (Ev.neg (show ¬ key.toList = ([108] : List UInt8) from by rw [hk]; decide) ((Ev.pos hk ?_)))))
  obtain ⟨r, hr, hrl, hlo, hls⟩ := right_ev hl hp hn
  rw [← hls]
  refine Ev.bind hr ?_
  by_cases h0 : r.length = 0
  · have e : lst r = -1 := by unfold lst; rw [if_pos h0]
    rw [e]
    unfold fin6
    rw [if_pos (by decide)]
    exact Ev.neg (by omega) (Ev.pos rfl (Ev.now _))
  · have hw : wrap64 ((r.length : Int) - 1) = ((r.length - 1 : Nat) : Int) := by rw [wrap64_id (by omega) (by omega)]; omega
    have e : rd r (((r.length - 1 : Nat) : Int)) = lst r := by unfold lst; rw [if_neg h0, rd_at]
    have hm : lst r ∈ r := lst_mem h0
    have hq := hlo _ hm
    refine Ev.pos (by omega) ?_
    rw [hw]
    refine Ev.pos (by omega) (Ev.pos (by omega) ?_)
    rw [e]
    unfold fin6
    rw [if_neg (by omega)]
    exact Ev.neg (by omega) (Ev.done (refColumn_ev hl (lst r)) rfl)
theorem along_bs {p n : Nat} (hp : p ≤ t.length) (h1 : 1 ≤ n) (hn : n ≤ 9999) {key : ByteArray} (hk : key.toList = ([8] : List UInt8)) : Ev (fun k => quoinref07_along.f k t p n (cnt 10 (t.take p)) key) (five (fin6 t p (bckN t n p (-1)))) := by
  have c0 := cnt_nonneg 10 (t.take p)
  have c1 := cnt_le 10 (t.take p)
  have c2 := List.length_take_le p t
  have hb := beg_le t p
  have hf := fin_ge t p
  have hf2 := fin_le hp
  refine Ev.bind (rStart_of hl hp) (Ev.bind (rEnd_of hl hp) (Ev.neg (show ¬ key.toList = ([104] : List UInt8) from by rw [hk]; decide) (Ev.neg (show ¬ key.toList = ([108] : List UInt8) from by rw [hk]; decide) (Ev.neg (show ¬ key.toList = ([32] : List UInt8) from by rw [hk]; decide) ((Ev.pos hk ?_))))))
  obtain ⟨r, hr, hrl, hlo, hls⟩ := left_ev hl hp hn
  rw [← hls]
  refine Ev.bind hr ?_
  by_cases h0 : r.length = 0
  · have e : lst r = -1 := by unfold lst; rw [if_pos h0]
    rw [e]
    unfold fin6
    rw [if_pos (by decide)]
    exact Ev.neg (by omega) (Ev.pos rfl (Ev.now _))
  · have hw : wrap64 ((r.length : Int) - 1) = ((r.length - 1 : Nat) : Int) := by rw [wrap64_id (by omega) (by omega)]; omega
    have e : rd r (((r.length - 1 : Nat) : Int)) = lst r := by unfold lst; rw [if_neg h0, rd_at]
    have hm : lst r ∈ r := lst_mem h0
    have hq := hlo _ hm
    refine Ev.pos (by omega) ?_
    rw [hw]
    refine Ev.pos (by omega) (Ev.pos (by omega) ?_)
    rw [e]
    unfold fin6
    rw [if_neg (by omega)]
    exact Ev.neg (by omega) (Ev.done (refColumn_ev hl (lst r)) rfl)
theorem along_z {p n : Nat} (hp : p ≤ t.length) (h1 : 1 ≤ n) (hn : n ≤ 9999) {key : ByteArray} (hk : key.toList = ([48] : List UInt8)) : Ev (fun k => quoinref07_along.f k t p n (cnt 10 (t.take p)) key) (five (T6 t p (beg t p) 1)) := by
  have c0 := cnt_nonneg 10 (t.take p)
  have c1 := cnt_le 10 (t.take p)
  have c2 := List.length_take_le p t
  have hb := beg_le t p
  have hf := fin_ge t p
  have hf2 := fin_le hp
  refine Ev.bind (rStart_of hl hp) (Ev.bind (rEnd_of hl hp) (Ev.neg (show ¬ key.toList = ([104] : List UInt8) from by rw [hk]; decide) (Ev.neg (show ¬ key.toList = ([108] : List UInt8) from by rw [hk]; decide) (Ev.neg (show ¬ key.toList = ([32] : List UInt8) from by rw [hk]; decide) (Ev.neg (show ¬ key.toList = ([8] : List UInt8) from by rw [hk]; decide) ((Ev.pos hk ?_)))))))
  have e : colR t (beg t p : Int) = (0, 0) := by
    unfold colR
    rw [if_pos (by omega), Int.toNat_natCast, (beg_self t (beg t p)).2 (beg_st t p), Int.sub_self]
  unfold T6 five
  rw [e]
  exact Ev.now _
theorem along_ca {p n : Nat} (hp : p ≤ t.length) (h1 : 1 ≤ n) (hn : n ≤ 9999) {key : ByteArray} (hk : key.toList = ([94] : List UInt8)) : Ev (fun k => quoinref07_along.f k t p n (cnt 10 (t.take p)) key) (five (T6 t p (firstR t (cnt 10 (t.take p))).1 1)) := by
  have c0 := cnt_nonneg 10 (t.take p)
  have c1 := cnt_le 10 (t.take p)
  have c2 := List.length_take_le p t
  have hb := beg_le t p
  have hf := fin_ge t p
  have hf2 := fin_le hp
  refine Ev.bind (rStart_of hl hp) (Ev.bind (rEnd_of hl hp) (Ev.neg (show ¬ key.toList = ([104] : List UInt8) from by rw [hk]; decide) (Ev.neg (show ¬ key.toList = ([108] : List UInt8) from by rw [hk]; decide) (Ev.neg (show ¬ key.toList = ([32] : List UInt8) from by rw [hk]; decide) (Ev.neg (show ¬ key.toList = ([8] : List UInt8) from by rw [hk]; decide) (Ev.neg (show ¬ key.toList = ([48] : List UInt8) from by rw [hk]; decide) ((Ev.pos hk ?_))))))))
  exact Ev.bind (refFirst_ev hl (cnt 10 (t.take p)) (by omega)) (Ev.done (refColumn_ev hl _) rfl)
theorem column_ev (p want to_ : Int) (hto : to_ ≤ 9223372036854775807) : Ev (fun k => quoinref07_column.f k t p to_ want (cnt 10 t)) (five (lineV t p want to_ true)) := by
  unfold lineV
  by_cases h0 : to_ < 0
  · rw [if_pos (.inl h0)]
    exact Ev.pos h0 (Ev.now _)
  · by_cases h1 : to_ > cnt 10 t
    · rw [if_pos (.inr h1)]
      exact Ev.neg h0 (Ev.pos h1 (Ev.now _))
    · rw [if_neg (fun h => h.elim h0 h1), if_pos rfl]
      exact Ev.neg h0 (Ev.neg h1 (Ev.done (refAt_ev hl to_ want hto) rfl))
theorem first_ev (p want to_ : Int) (hto : to_ ≤ 9223372036854775807) : Ev (fun k => quoinref07_first.f k t p to_ (cnt 10 t)) (five (lineV t p want to_ false)) := by
  unfold lineV
  by_cases h0 : to_ < 0
  · rw [if_pos (.inl h0)]
    exact Ev.pos h0 (Ev.step (fun _ => quoinref07_first.j0.eq_2 ..) (Ev.pos rfl (Ev.now _)))
  · refine Ev.neg h0 ?_
    by_cases h1 : to_ > cnt 10 t
    · rw [if_pos (.inr h1), decide_eq_true h1]
      exact Ev.step (fun _ => quoinref07_first.j0.eq_2 ..) (Ev.pos rfl (Ev.now _))
    · rw [if_neg (fun h => h.elim h0 h1), if_neg Bool.false_ne_true, decide_eq_false h1]
      exact Ev.step (fun _ => quoinref07_first.j0.eq_2 ..) (Ev.neg Bool.false_ne_true (Ev.bind (refFirst_ev hl to_ hto) (Ev.done (refColumn_ev hl _) rfl)))
theorem mv_j {p n : Nat} (hp : p ≤ t.length) (h1 : 1 ≤ n) (hn : n ≤ 9999) (want : Int) {count : Int} (h0 : 0 ≤ count) (hc : max count 1 = (n : Int)) {key : ByteArray} (hk : key.toList = ([106] : List UInt8)) : Ev (fun k => quoinref07_Move.j0 k t p want count key false) (five (lineV t p want ((cnt 10 (t.take p)) + n) true)) := by
  refine Ev.step (fun _ => quoinref07_Move.j0.eq_2 ..) (Ev.neg Bool.false_ne_true (Ev.bind (refOf_ev hl p) (Ev.bind (refCount_ev hl) ?_)))
  have c0 := cnt_nonneg 10 (t.take p)
  have c1 := cnt_le 10 (t.take p)
  have c2 := List.length_take_le p t
  have c3 := cnt_nonneg 10 t
  have c4 := cnt_le 10 t
  have hC : wrap64 (cnt 10 t + 1 - 1) = cnt 10 t := by rw [wrap64_id (by omega) (by omega)]; omega
  have hm : mx count 1 = (n : Int) := by rw [mx_eq, hc]
  rw [show ofR t (p : Int) = ((cnt 10 (t.take p)), 0) from by unfold ofR; rw [if_pos (by omega), Int.toNat_natCast]]
  refine Ev.pos hk ?_
  rw [hm, hC, show wrap64 ((cnt 10 (t.take p)) + (n : Int)) = (cnt 10 (t.take p)) + n from wrap64_id (by omega) (by omega)]
  exact Ev.pass (column_ev hl p want ((cnt 10 (t.take p)) + n) (by omega))
theorem mv_k {p n : Nat} (hp : p ≤ t.length) (h1 : 1 ≤ n) (hn : n ≤ 9999) (want : Int) {count : Int} (h0 : 0 ≤ count) (hc : max count 1 = (n : Int)) {key : ByteArray} (hk : key.toList = ([107] : List UInt8)) : Ev (fun k => quoinref07_Move.j0 k t p want count key false) (five (lineV t p want ((cnt 10 (t.take p)) - n) true)) := by
  refine Ev.step (fun _ => quoinref07_Move.j0.eq_2 ..) (Ev.neg Bool.false_ne_true (Ev.bind (refOf_ev hl p) (Ev.bind (refCount_ev hl) ?_)))
  have c0 := cnt_nonneg 10 (t.take p)
  have c1 := cnt_le 10 (t.take p)
  have c2 := List.length_take_le p t
  have c3 := cnt_nonneg 10 t
  have c4 := cnt_le 10 t
  have hC : wrap64 (cnt 10 t + 1 - 1) = cnt 10 t := by rw [wrap64_id (by omega) (by omega)]; omega
  have hm : mx count 1 = (n : Int) := by rw [mx_eq, hc]
  rw [show ofR t (p : Int) = ((cnt 10 (t.take p)), 0) from by unfold ofR; rw [if_pos (by omega), Int.toNat_natCast]]
  refine Ev.neg (show ¬ key.toList = ([106] : List UInt8) from by rw [hk]; decide) (Ev.pos hk ?_)
  rw [hm, hC, show wrap64 ((cnt 10 (t.take p)) - (n : Int)) = (cnt 10 (t.take p)) - n from wrap64_id (by omega) (by omega)]
  exact Ev.pass (column_ev hl p want ((cnt 10 (t.take p)) - n) (by omega))
theorem mv_pl {p n : Nat} (hp : p ≤ t.length) (h1 : 1 ≤ n) (hn : n ≤ 9999) (want : Int) {count : Int} (h0 : 0 ≤ count) (hc : max count 1 = (n : Int)) {key : ByteArray} (hk : key.toList = ([43] : List UInt8)) : Ev (fun k => quoinref07_Move.j0 k t p want count key false) (five (lineV t p want ((cnt 10 (t.take p)) + n) false)) := by
  refine Ev.step (fun _ => quoinref07_Move.j0.eq_2 ..) (Ev.neg Bool.false_ne_true (Ev.bind (refOf_ev hl p) (Ev.bind (refCount_ev hl) ?_)))
  have c0 := cnt_nonneg 10 (t.take p)
  have c1 := cnt_le 10 (t.take p)
  have c2 := List.length_take_le p t
  have c3 := cnt_nonneg 10 t
  have c4 := cnt_le 10 t
  have hC : wrap64 (cnt 10 t + 1 - 1) = cnt 10 t := by rw [wrap64_id (by omega) (by omega)]; omega
  have hm : mx count 1 = (n : Int) := by rw [mx_eq, hc]
  rw [show ofR t (p : Int) = ((cnt 10 (t.take p)), 0) from by unfold ofR; rw [if_pos (by omega), Int.toNat_natCast]]
  refine Ev.neg (show ¬ key.toList = ([106] : List UInt8) from by rw [hk]; decide) (Ev.neg (show ¬ key.toList = ([107] : List UInt8) from by rw [hk]; decide) (Ev.pos hk ?_))
  rw [beq_iff_eq.2 hk]
  refine Ev.step (fun _ => quoinref07_Move.j1.eq_2 ..) (Ev.pos rfl ?_)
  rw [hm, hC, show wrap64 ((cnt 10 (t.take p)) + (n : Int)) = (cnt 10 (t.take p)) + n from wrap64_id (by omega) (by omega)]
  exact Ev.pass (first_ev hl p want ((cnt 10 (t.take p)) + n) (by omega))
theorem mv_cr {p n : Nat} (hp : p ≤ t.length) (h1 : 1 ≤ n) (hn : n ≤ 9999) (want : Int) {count : Int} (h0 : 0 ≤ count) (hc : max count 1 = (n : Int)) {key : ByteArray} (hk : key.toList = ([13] : List UInt8)) : Ev (fun k => quoinref07_Move.j0 k t p want count key false) (five (lineV t p want ((cnt 10 (t.take p)) + n) false)) := by
  refine Ev.step (fun _ => quoinref07_Move.j0.eq_2 ..) (Ev.neg Bool.false_ne_true (Ev.bind (refOf_ev hl p) (Ev.bind (refCount_ev hl) ?_)))
  have c0 := cnt_nonneg 10 (t.take p)
  have c1 := cnt_le 10 (t.take p)
  have c2 := List.length_take_le p t
  have c3 := cnt_nonneg 10 t
  have c4 := cnt_le 10 t
  have hC : wrap64 (cnt 10 t + 1 - 1) = cnt 10 t := by rw [wrap64_id (by omega) (by omega)]; omega
  have hm : mx count 1 = (n : Int) := by rw [mx_eq, hc]
  rw [show ofR t (p : Int) = ((cnt 10 (t.take p)), 0) from by unfold ofR; rw [if_pos (by omega), Int.toNat_natCast]]
  refine Ev.neg (show ¬ key.toList = ([106] : List UInt8) from by rw [hk]; decide) (Ev.neg (show ¬ key.toList = ([107] : List UInt8) from by rw [hk]; decide) (Ev.neg (show ¬ key.toList = ([43] : List UInt8) from by rw [hk]; decide) ?_))
  rw [beq_iff_eq.2 hk]
  refine Ev.step (fun _ => quoinref07_Move.j1.eq_2 ..) (Ev.pos rfl ?_)
  rw [hm, hC, show wrap64 ((cnt 10 (t.take p)) + (n : Int)) = (cnt 10 (t.take p)) + n from wrap64_id (by omega) (by omega)]
  exact Ev.pass (first_ev hl p want ((cnt 10 (t.take p)) + n) (by omega))
theorem mv_mi {p n : Nat} (hp : p ≤ t.length) (h1 : 1 ≤ n) (hn : n ≤ 9999) (want : Int) {count : Int} (h0 : 0 ≤ count) (hc : max count 1 = (n : Int)) {key : ByteArray} (hk : key.toList = ([45] : List UInt8)) : Ev (fun k => quoinref07_Move.j0 k t p want count key false) (five (lineV t p want ((cnt 10 (t.take p)) - n) false)) := by
  refine Ev.step (fun _ => quoinref07_Move.j0.eq_2 ..) (Ev.neg Bool.false_ne_true (Ev.bind (refOf_ev hl p) (Ev.bind (refCount_ev hl) ?_)))
  have c0 := cnt_nonneg 10 (t.take p)
  have c1 := cnt_le 10 (t.take p)
  have c2 := List.length_take_le p t
  have c3 := cnt_nonneg 10 t
  have c4 := cnt_le 10 t
  have hC : wrap64 (cnt 10 t + 1 - 1) = cnt 10 t := by rw [wrap64_id (by omega) (by omega)]; omega
  have hm : mx count 1 = (n : Int) := by rw [mx_eq, hc]
  rw [show ofR t (p : Int) = ((cnt 10 (t.take p)), 0) from by unfold ofR; rw [if_pos (by omega), Int.toNat_natCast]]
  refine Ev.neg (show ¬ key.toList = ([106] : List UInt8) from by rw [hk]; decide) (Ev.neg (show ¬ key.toList = ([107] : List UInt8) from by rw [hk]; decide) (Ev.neg (show ¬ key.toList = ([43] : List UInt8) from by rw [hk]; decide) ?_))
  rw [beq_eq_false_iff_ne.2 (show key.toList ≠ ([13] : List UInt8) from by rw [hk]; decide)]
  refine Ev.step (fun _ => quoinref07_Move.j1.eq_2 ..) (Ev.neg Bool.false_ne_true ?_)
  refine Ev.pos hk ?_
  rw [hm, hC, show wrap64 ((cnt 10 (t.take p)) - (n : Int)) = (cnt 10 (t.take p)) - n from wrap64_id (by omega) (by omega)]
  exact Ev.pass (first_ev hl p want ((cnt 10 (t.take p)) - n) (by omega))
theorem mv_un {p n : Nat} (hp : p ≤ t.length) (h1 : 1 ≤ n) (hn : n ≤ 9999) (want : Int) {count : Int} (h0 : 0 ≤ count) (hc : max count 1 = (n : Int)) {key : ByteArray} (hk : key.toList = ([95] : List UInt8)) : Ev (fun k => quoinref07_Move.j0 k t p want count key false) (five (lineV t p want ((cnt 10 (t.take p)) + (n - 1)) false)) := by
  refine Ev.step (fun _ => quoinref07_Move.j0.eq_2 ..) (Ev.neg Bool.false_ne_true (Ev.bind (refOf_ev hl p) (Ev.bind (refCount_ev hl) ?_)))
  have c0 := cnt_nonneg 10 (t.take p)
  have c1 := cnt_le 10 (t.take p)
  have c2 := List.length_take_le p t
  have c3 := cnt_nonneg 10 t
  have c4 := cnt_le 10 t
  have hC : wrap64 (cnt 10 t + 1 - 1) = cnt 10 t := by rw [wrap64_id (by omega) (by omega)]; omega
  have hm : mx count 1 = (n : Int) := by rw [mx_eq, hc]
  rw [show ofR t (p : Int) = ((cnt 10 (t.take p)), 0) from by unfold ofR; rw [if_pos (by omega), Int.toNat_natCast]]
  refine Ev.neg (show ¬ key.toList = ([106] : List UInt8) from by rw [hk]; decide) (Ev.neg (show ¬ key.toList = ([107] : List UInt8) from by rw [hk]; decide) (Ev.neg (show ¬ key.toList = ([43] : List UInt8) from by rw [hk]; decide) ?_))
  rw [beq_eq_false_iff_ne.2 (show key.toList ≠ ([13] : List UInt8) from by rw [hk]; decide)]
  refine Ev.step (fun _ => quoinref07_Move.j1.eq_2 ..) (Ev.neg Bool.false_ne_true ?_)
  refine Ev.neg (show ¬ key.toList = ([45] : List UInt8) from by rw [hk]; decide) (Ev.pos hk ?_)
  rw [hm, hC, show wrap64 ((cnt 10 (t.take p)) + (n : Int)) = (cnt 10 (t.take p)) + n from wrap64_id (by omega) (by omega), show wrap64 ((cnt 10 (t.take p)) + (n : Int) - 1) = (cnt 10 (t.take p)) + n - 1 from wrap64_id (by omega) (by omega), show (cnt 10 (t.take p)) + (n : Int) - 1 = (cnt 10 (t.take p)) + ((n : Int) - 1) from by omega]
  exact Ev.pass (first_ev hl p want ((cnt 10 (t.take p)) + ((n : Int) - 1)) (by omega))
theorem mv_gg {p n : Nat} (hp : p ≤ t.length) (h1 : 1 ≤ n) (hn : n ≤ 9999) (want : Int) {count : Int} (h0 : 0 ≤ count) (hc : max count 1 = (n : Int)) {key : ByteArray} (hk : key.toList = ([103, 103] : List UInt8)) : Ev (fun k => quoinref07_Move.j0 k t p want count key false) (five (lineV t p want ((n : Int) - 1) false)) := by
  refine Ev.step (fun _ => quoinref07_Move.j0.eq_2 ..) (Ev.neg Bool.false_ne_true (Ev.bind (refOf_ev hl p) (Ev.bind (refCount_ev hl) ?_)))
  have c0 := cnt_nonneg 10 (t.take p)
  have c1 := cnt_le 10 (t.take p)
  have c2 := List.length_take_le p t
  have c3 := cnt_nonneg 10 t
  have c4 := cnt_le 10 t
  have hC : wrap64 (cnt 10 t + 1 - 1) = cnt 10 t := by rw [wrap64_id (by omega) (by omega)]; omega
  have hm : mx count 1 = (n : Int) := by rw [mx_eq, hc]
  rw [show ofR t (p : Int) = ((cnt 10 (t.take p)), 0) from by unfold ofR; rw [if_pos (by omega), Int.toNat_natCast]]
  refine Ev.neg (show ¬ key.toList = ([106] : List UInt8) from by rw [hk]; decide) (Ev.neg (show ¬ key.toList = ([107] : List UInt8) from by rw [hk]; decide) (Ev.neg (show ¬ key.toList = ([43] : List UInt8) from by rw [hk]; decide) ?_))
  rw [beq_eq_false_iff_ne.2 (show key.toList ≠ ([13] : List UInt8) from by rw [hk]; decide)]
  refine Ev.step (fun _ => quoinref07_Move.j1.eq_2 ..) (Ev.neg Bool.false_ne_true ?_)
  refine Ev.neg (show ¬ key.toList = ([45] : List UInt8) from by rw [hk]; decide) (Ev.neg (show ¬ key.toList = ([95] : List UInt8) from by rw [hk]; decide) (Ev.pos hk ?_))
  rw [hm, hC, show wrap64 ((n : Int) - 1) = (n : Int) - 1 from wrap64_id (by omega) (by omega)]
  exact Ev.pass (first_ev hl p want ((n : Int) - 1) (by omega))
theorem mv_G {p n : Nat} (hp : p ≤ t.length) (h1 : 1 ≤ n) (hn : n ≤ 9999) (want : Int) {count : Int} (h0 : 0 ≤ count) (hc : max count 1 = (n : Int)) {key : ByteArray} (hk : key.toList = ([71] : List UInt8)) : Ev (fun k => quoinref07_Move.j0 k t p want count key false) (five (lineV t p want (if decide (count > 0) = true then (n : Int) - 1 else cnt 10 t) false)) := by
  refine Ev.step (fun _ => quoinref07_Move.j0.eq_2 ..) (Ev.neg Bool.false_ne_true (Ev.bind (refOf_ev hl p) (Ev.bind (refCount_ev hl) ?_)))
  have c0 := cnt_nonneg 10 (t.take p)
  have c1 := cnt_le 10 (t.take p)
  have c2 := List.length_take_le p t
  have c3 := cnt_nonneg 10 t
  have c4 := cnt_le 10 t
  have hC : wrap64 (cnt 10 t + 1 - 1) = cnt 10 t := by rw [wrap64_id (by omega) (by omega)]; omega
  have hm : mx count 1 = (n : Int) := by rw [mx_eq, hc]
  rw [show ofR t (p : Int) = ((cnt 10 (t.take p)), 0) from by unfold ofR; rw [if_pos (by omega), Int.toNat_natCast]]
  refine Ev.neg (show ¬ key.toList = ([106] : List UInt8) from by rw [hk]; decide) (Ev.neg (show ¬ key.toList = ([107] : List UInt8) from by rw [hk]; decide) (Ev.neg (show ¬ key.toList = ([43] : List UInt8) from by rw [hk]; decide) ?_))
  rw [beq_eq_false_iff_ne.2 (show key.toList ≠ ([13] : List UInt8) from by rw [hk]; decide)]
  refine Ev.step (fun _ => quoinref07_Move.j1.eq_2 ..) (Ev.neg Bool.false_ne_true ?_)
  refine Ev.neg (show ¬ key.toList = ([45] : List UInt8) from by rw [hk]; decide) (Ev.neg (show ¬ key.toList = ([95] : List UInt8) from by rw [hk]; decide) (Ev.neg (show ¬ key.toList = ([103, 103] : List UInt8) from by rw [hk]; decide) (Ev.pos hk ?_)))
  rw [hm, hC, show wrap64 ((n : Int) - 1) = (n : Int) - 1 from wrap64_id (by omega) (by omega)]
  by_cases h0 : count = 0
  · rw [decide_eq_false (show ¬ count > 0 from by omega), if_neg Bool.false_ne_true]
    exact Ev.pos h0 (Ev.pass (first_ev hl p want (cnt 10 t) (by omega)))
  · rw [decide_eq_true (show count > 0 from by omega), if_pos rfl]
    exact Ev.neg h0 (Ev.pass (first_ev hl p want ((n : Int) - 1) (by omega)))
theorem mv_do {p n : Nat} (hp : p ≤ t.length) (h1 : 1 ≤ n) (hn : n ≤ 9999) (want : Int) {count : Int} (h0 : 0 ≤ count) (hc : max count 1 = (n : Int)) {key : ByteArray} (hk : key.toList = ([36] : List UInt8)) : Ev (fun k => quoinref07_Move.j0 k t p want count key false) (five (if (endR t ((cnt 10 (t.take p)) + n - 1)).2 = 0 then (((p : Int), (endR t ((cnt 10 (t.take p)) + n - 1)).1, 1, -1, 0, true) : R6) else F6)) := by
  refine Ev.step (fun _ => quoinref07_Move.j0.eq_2 ..) (Ev.neg Bool.false_ne_true (Ev.bind (refOf_ev hl p) (Ev.bind (refCount_ev hl) ?_)))
  have c0 := cnt_nonneg 10 (t.take p)
  have c1 := cnt_le 10 (t.take p)
  have c2 := List.length_take_le p t
  have c3 := cnt_nonneg 10 t
  have c4 := cnt_le 10 t
  have hC : wrap64 (cnt 10 t + 1 - 1) = cnt 10 t := by rw [wrap64_id (by omega) (by omega)]; omega
  have hm : mx count 1 = (n : Int) := by rw [mx_eq, hc]
  rw [show ofR t (p : Int) = ((cnt 10 (t.take p)), 0) from by unfold ofR; rw [if_pos (by omega), Int.toNat_natCast]]
  refine Ev.neg (show ¬ key.toList = ([106] : List UInt8) from by rw [hk]; decide) (Ev.neg (show ¬ key.toList = ([107] : List UInt8) from by rw [hk]; decide) (Ev.neg (show ¬ key.toList = ([43] : List UInt8) from by rw [hk]; decide) ?_))
  rw [beq_eq_false_iff_ne.2 (show key.toList ≠ ([13] : List UInt8) from by rw [hk]; decide)]
  refine Ev.step (fun _ => quoinref07_Move.j1.eq_2 ..) (Ev.neg Bool.false_ne_true ?_)
  refine Ev.neg (show ¬ key.toList = ([45] : List UInt8) from by rw [hk]; decide) (Ev.neg (show ¬ key.toList = ([95] : List UInt8) from by rw [hk]; decide) (Ev.neg (show ¬ key.toList = ([103, 103] : List UInt8) from by rw [hk]; decide) (Ev.neg (show ¬ key.toList = ([71] : List UInt8) from by rw [hk]; decide) (Ev.pos hk ?_))))
  rw [hm, hC, show wrap64 ((cnt 10 (t.take p)) + (n : Int)) = (cnt 10 (t.take p)) + n from wrap64_id (by omega) (by omega), show wrap64 ((cnt 10 (t.take p)) + (n : Int) - 1) = (cnt 10 (t.take p)) + n - 1 from wrap64_id (by omega) (by omega)]
  by_cases h0 : (cnt 10 (t.take p)) + (n : Int) - 1 > cnt 10 t
  · have h2 := end_none (t := t) (l := (cnt 10 (t.take p)) + n - 1) (.inr h0)
    rw [if_neg (by omega)]
    exact Ev.pos h0 (Ev.now _)
  · obtain ⟨q, h2, _, _⟩ := end_there (t := t) (l := (cnt 10 (t.take p)) + n - 1) (by omega) (by omega)
    rw [h2, if_pos rfl]
    exact Ev.neg h0 (Ev.done (refEnd_ev hl ((cnt 10 (t.take p)) + n - 1) (by omega)) (by rw [h2]; rfl))
theorem mv_ba {p n : Nat} (hp : p ≤ t.length) (h1 : 1 ≤ n) (hn : n ≤ 9999) (want : Int) {count : Int} (h0 : 0 ≤ count) (hc : max count 1 = (n : Int)) {key : ByteArray} (hk : key.toList = ([124] : List UInt8)) : Ev (fun k => quoinref07_Move.j0 k t p want count key false) (five (((p : Int), (atR t (cnt 10 (t.take p)) ((n : Int) - 1)).1, 1, (n : Int) - 1, 0, true) : R6)) := by
  refine Ev.step (fun _ => quoinref07_Move.j0.eq_2 ..) (Ev.neg Bool.false_ne_true (Ev.bind (refOf_ev hl p) (Ev.bind (refCount_ev hl) ?_)))
  have c0 := cnt_nonneg 10 (t.take p)
  have c1 := cnt_le 10 (t.take p)
  have c2 := List.length_take_le p t
  have c3 := cnt_nonneg 10 t
  have c4 := cnt_le 10 t
  have hC : wrap64 (cnt 10 t + 1 - 1) = cnt 10 t := by rw [wrap64_id (by omega) (by omega)]; omega
  have hm : mx count 1 = (n : Int) := by rw [mx_eq, hc]
  rw [show ofR t (p : Int) = ((cnt 10 (t.take p)), 0) from by unfold ofR; rw [if_pos (by omega), Int.toNat_natCast]]
  refine Ev.neg (show ¬ key.toList = ([106] : List UInt8) from by rw [hk]; decide) (Ev.neg (show ¬ key.toList = ([107] : List UInt8) from by rw [hk]; decide) (Ev.neg (show ¬ key.toList = ([43] : List UInt8) from by rw [hk]; decide) ?_))
  rw [beq_eq_false_iff_ne.2 (show key.toList ≠ ([13] : List UInt8) from by rw [hk]; decide)]
  refine Ev.step (fun _ => quoinref07_Move.j1.eq_2 ..) (Ev.neg Bool.false_ne_true ?_)
  refine Ev.neg (show ¬ key.toList = ([45] : List UInt8) from by rw [hk]; decide) (Ev.neg (show ¬ key.toList = ([95] : List UInt8) from by rw [hk]; decide) (Ev.neg (show ¬ key.toList = ([103, 103] : List UInt8) from by rw [hk]; decide) (Ev.neg (show ¬ key.toList = ([71] : List UInt8) from by rw [hk]; decide) (Ev.neg (show ¬ key.toList = ([36] : List UInt8) from by rw [hk]; decide) (Ev.pos hk ?_)))))
  rw [hm, show wrap64 ((n : Int) - 1) = (n : Int) - 1 from wrap64_id (by omega) (by omega)]
  exact Ev.done (refAt_ev hl (cnt 10 (t.take p)) ((n : Int) - 1) (by omega)) rfl
theorem mv_h {p n : Nat} (hp : p ≤ t.length) (h1 : 1 ≤ n) (hn : n ≤ 9999) (want : Int) {count : Int} (h0 : 0 ≤ count) (hc : max count 1 = (n : Int)) {key : ByteArray} (hk : key.toList = ([104] : List UInt8)) : Ev (fun k => quoinref07_Move.j0 k t p want count key false) (five (if p = beg t p then F6 else T6 t p (max ((p : Int) - n) (beg t p)) 1)) := by
  refine Ev.step (fun _ => quoinref07_Move.j0.eq_2 ..) (Ev.neg Bool.false_ne_true (Ev.bind (refOf_ev hl p) (Ev.bind (refCount_ev hl) ?_)))
  have c0 := cnt_nonneg 10 (t.take p)
  have c1 := cnt_le 10 (t.take p)
  have c2 := List.length_take_le p t
  have c3 := cnt_nonneg 10 t
  have c4 := cnt_le 10 t
  have hC : wrap64 (cnt 10 t + 1 - 1) = cnt 10 t := by rw [wrap64_id (by omega) (by omega)]; omega
  have hm : mx count 1 = (n : Int) := by rw [mx_eq, hc]
  rw [show ofR t (p : Int) = ((cnt 10 (t.take p)), 0) from by unfold ofR; rw [if_pos (by omega), Int.toNat_natCast]]
  refine Ev.neg (show ¬ key.toList = ([106] : List UInt8) from by rw [hk]; decide) (Ev.neg (show ¬ key.toList = ([107] : List UInt8) from by rw [hk]; decide) (Ev.neg (show ¬ key.toList = ([43] : List UInt8) from by rw [hk]; decide) ?_))
  rw [beq_eq_false_iff_ne.2 (show key.toList ≠ ([13] : List UInt8) from by rw [hk]; decide)]
  refine Ev.step (fun _ => quoinref07_Move.j1.eq_2 ..) (Ev.neg Bool.false_ne_true ?_)
  refine Ev.neg (show ¬ key.toList = ([45] : List UInt8) from by rw [hk]; decide) (Ev.neg (show ¬ key.toList = ([95] : List UInt8) from by rw [hk]; decide) (Ev.neg (show ¬ key.toList = ([103, 103] : List UInt8) from by rw [hk]; decide) (Ev.neg (show ¬ key.toList = ([71] : List UInt8) from by rw [hk]; decide) (Ev.neg (show ¬ key.toList = ([36] : List UInt8) from by rw [hk]; decide) (Ev.neg (show ¬ key.toList = ([124] : List UInt8) from by rw [hk]; decide) (?_))))))
  rw [hm]
  exact Ev.pass (along_h hl hp h1 hn hk)
theorem mv_l {p n : Nat} (hp : p ≤ t.length) (h1 : 1 ≤ n) (hn : n ≤ 9999) (want : Int) {count : Int} (h0 : 0 ≤ count) (hc : max count 1 = (n : Int)) {key : ByteArray} (hk : key.toList = ([108] : List UInt8)) : Ev (fun k => quoinref07_Move.j0 k t p want count key false) (five (if p = fin t p then F6 else T6 t p (min ((p : Int) + n) (fin t p)) 1)) := by
  refine Ev.step (fun _ => quoinref07_Move.j0.eq_2 ..) (Ev.neg Bool.false_ne_true (Ev.bind (refOf_ev hl p) (Ev.bind (refCount_ev hl) ?_)))
  have c0 := cnt_nonneg 10 (t.take p)
  have c1 := cnt_le 10 (t.take p)
  have c2 := List.length_take_le p t
  have c3 := cnt_nonneg 10 t
  have c4 := cnt_le 10 t
  have hC : wrap64 (cnt 10 t + 1 - 1) = cnt 10 t := by rw [wrap64_id (by omega) (by omega)]; omega
  have hm : mx count 1 = (n : Int) := by rw [mx_eq, hc]
  rw [show ofR t (p : Int) = ((cnt 10 (t.take p)), 0) from by unfold ofR; rw [if_pos (by omega), Int.toNat_natCast]]
  refine Ev.neg (show ¬ key.toList = ([106] : List UInt8) from by rw [hk]; decide) (Ev.neg (show ¬ key.toList = ([107] : List UInt8) from by rw [hk]; decide) (Ev.neg (show ¬ key.toList = ([43] : List UInt8) from by rw [hk]; decide) ?_))
  rw [beq_eq_false_iff_ne.2 (show key.toList ≠ ([13] : List UInt8) from by rw [hk]; decide)]
  refine Ev.step (fun _ => quoinref07_Move.j1.eq_2 ..) (Ev.neg Bool.false_ne_true ?_)
  refine Ev.neg (show ¬ key.toList = ([45] : List UInt8) from by rw [hk]; decide) (Ev.neg (show ¬ key.toList = ([95] : List UInt8) from by rw [hk]; decide) (Ev.neg (show ¬ key.toList = ([103, 103] : List UInt8) from by rw [hk]; decide) (Ev.neg (show ¬ key.toList = ([71] : List UInt8) from by rw [hk]; decide) (Ev.neg (show ¬ key.toList = ([36] : List UInt8) from by rw [hk]; decide) (Ev.neg (show ¬ key.toList = ([124] : List UInt8) from by rw [hk]; decide) (?_))))))
  rw [hm]
  exact Ev.pass (along_l hl hp h1 hn hk)
theorem mv_sp {p n : Nat} (hp : p ≤ t.length) (h1 : 1 ≤ n) (hn : n ≤ 9999) (want : Int) {count : Int} (h0 : 0 ≤ count) (hc : max count 1 = (n : Int)) {key : ByteArray} (hk : key.toList = ([32] : List UInt8)) : Ev (fun k => quoinref07_Move.j0 k t p want count key false) (five (fin6 t p (onwN t n (p + 1) (-1)))) := by
  refine Ev.step (fun _ => quoinref07_Move.j0.eq_2 ..) (Ev.neg Bool.false_ne_true (Ev.bind (refOf_ev hl p) (Ev.bind (refCount_ev hl) ?_)))
  have c0 := cnt_nonneg 10 (t.take p)
  have c1 := cnt_le 10 (t.take p)
  have c2 := List.length_take_le p t
  have c3 := cnt_nonneg 10 t
  have c4 := cnt_le 10 t
  have hC : wrap64 (cnt 10 t + 1 - 1) = cnt 10 t := by rw [wrap64_id (by omega) (by omega)]; omega
  have hm : mx count 1 = (n : Int) := by rw [mx_eq, hc]
  rw [show ofR t (p : Int) = ((cnt 10 (t.take p)), 0) from by unfold ofR; rw [if_pos (by omega), Int.toNat_natCast]]
  refine Ev.neg (show ¬ key.toList = ([106] : List UInt8) from by rw [hk]; decide) (Ev.neg (show ¬ key.toList = ([107] : List UInt8) from by rw [hk]; decide) (Ev.neg (show ¬ key.toList = ([43] : List UInt8) from by rw [hk]; decide) ?_))
  rw [beq_eq_false_iff_ne.2 (show key.toList ≠ ([13] : List UInt8) from by rw [hk]; decide)]
  refine Ev.step (fun _ => quoinref07_Move.j1.eq_2 ..) (Ev.neg Bool.false_ne_true ?_)
  refine Ev.neg (show ¬ key.toList = ([45] : List UInt8) from by rw [hk]; decide) (Ev.neg (show ¬ key.toList = ([95] : List UInt8) from by rw [hk]; decide) (Ev.neg (show ¬ key.toList = ([103, 103] : List UInt8) from by rw [hk]; decide) (Ev.neg (show ¬ key.toList = ([71] : List UInt8) from by rw [hk]; decide) (Ev.neg (show ¬ key.toList = ([36] : List UInt8) from by rw [hk]; decide) (Ev.neg (show ¬ key.toList = ([124] : List UInt8) from by rw [hk]; decide) (?_))))))
  rw [hm]
  exact Ev.pass (along_sp hl hp h1 hn hk)
theorem mv_bs {p n : Nat} (hp : p ≤ t.length) (h1 : 1 ≤ n) (hn : n ≤ 9999) (want : Int) {count : Int} (h0 : 0 ≤ count) (hc : max count 1 = (n : Int)) {key : ByteArray} (hk : key.toList = ([8] : List UInt8)) : Ev (fun k => quoinref07_Move.j0 k t p want count key false) (five (fin6 t p (bckN t n p (-1)))) := by
  refine Ev.step (fun _ => quoinref07_Move.j0.eq_2 ..) (Ev.neg Bool.false_ne_true (Ev.bind (refOf_ev hl p) (Ev.bind (refCount_ev hl) ?_)))
  have c0 := cnt_nonneg 10 (t.take p)
  have c1 := cnt_le 10 (t.take p)
  have c2 := List.length_take_le p t
  have c3 := cnt_nonneg 10 t
  have c4 := cnt_le 10 t
  have hC : wrap64 (cnt 10 t + 1 - 1) = cnt 10 t := by rw [wrap64_id (by omega) (by omega)]; omega
  have hm : mx count 1 = (n : Int) := by rw [mx_eq, hc]
  rw [show ofR t (p : Int) = ((cnt 10 (t.take p)), 0) from by unfold ofR; rw [if_pos (by omega), Int.toNat_natCast]]
  refine Ev.neg (show ¬ key.toList = ([106] : List UInt8) from by rw [hk]; decide) (Ev.neg (show ¬ key.toList = ([107] : List UInt8) from by rw [hk]; decide) (Ev.neg (show ¬ key.toList = ([43] : List UInt8) from by rw [hk]; decide) ?_))
  rw [beq_eq_false_iff_ne.2 (show key.toList ≠ ([13] : List UInt8) from by rw [hk]; decide)]
  refine Ev.step (fun _ => quoinref07_Move.j1.eq_2 ..) (Ev.neg Bool.false_ne_true ?_)
  refine Ev.neg (show ¬ key.toList = ([45] : List UInt8) from by rw [hk]; decide) (Ev.neg (show ¬ key.toList = ([95] : List UInt8) from by rw [hk]; decide) (Ev.neg (show ¬ key.toList = ([103, 103] : List UInt8) from by rw [hk]; decide) (Ev.neg (show ¬ key.toList = ([71] : List UInt8) from by rw [hk]; decide) (Ev.neg (show ¬ key.toList = ([36] : List UInt8) from by rw [hk]; decide) (Ev.neg (show ¬ key.toList = ([124] : List UInt8) from by rw [hk]; decide) (?_))))))
  rw [hm]
  exact Ev.pass (along_bs hl hp h1 hn hk)
theorem mv_z {p n : Nat} (hp : p ≤ t.length) (h1 : 1 ≤ n) (hn : n ≤ 9999) (want : Int) {count : Int} (h0 : 0 ≤ count) (hc : max count 1 = (n : Int)) {key : ByteArray} (hk : key.toList = ([48] : List UInt8)) : Ev (fun k => quoinref07_Move.j0 k t p want count key false) (five (T6 t p (beg t p) 1)) := by
  refine Ev.step (fun _ => quoinref07_Move.j0.eq_2 ..) (Ev.neg Bool.false_ne_true (Ev.bind (refOf_ev hl p) (Ev.bind (refCount_ev hl) ?_)))
  have c0 := cnt_nonneg 10 (t.take p)
  have c1 := cnt_le 10 (t.take p)
  have c2 := List.length_take_le p t
  have c3 := cnt_nonneg 10 t
  have c4 := cnt_le 10 t
  have hC : wrap64 (cnt 10 t + 1 - 1) = cnt 10 t := by rw [wrap64_id (by omega) (by omega)]; omega
  have hm : mx count 1 = (n : Int) := by rw [mx_eq, hc]
  rw [show ofR t (p : Int) = ((cnt 10 (t.take p)), 0) from by unfold ofR; rw [if_pos (by omega), Int.toNat_natCast]]
  refine Ev.neg (show ¬ key.toList = ([106] : List UInt8) from by rw [hk]; decide) (Ev.neg (show ¬ key.toList = ([107] : List UInt8) from by rw [hk]; decide) (Ev.neg (show ¬ key.toList = ([43] : List UInt8) from by rw [hk]; decide) ?_))
  rw [beq_eq_false_iff_ne.2 (show key.toList ≠ ([13] : List UInt8) from by rw [hk]; decide)]
  refine Ev.step (fun _ => quoinref07_Move.j1.eq_2 ..) (Ev.neg Bool.false_ne_true ?_)
  refine Ev.neg (show ¬ key.toList = ([45] : List UInt8) from by rw [hk]; decide) (Ev.neg (show ¬ key.toList = ([95] : List UInt8) from by rw [hk]; decide) (Ev.neg (show ¬ key.toList = ([103, 103] : List UInt8) from by rw [hk]; decide) (Ev.neg (show ¬ key.toList = ([71] : List UInt8) from by rw [hk]; decide) (Ev.neg (show ¬ key.toList = ([36] : List UInt8) from by rw [hk]; decide) (Ev.neg (show ¬ key.toList = ([124] : List UInt8) from by rw [hk]; decide) (?_))))))
  rw [hm]
  exact Ev.pass (along_z hl hp h1 hn hk)
theorem mv_ca {p n : Nat} (hp : p ≤ t.length) (h1 : 1 ≤ n) (hn : n ≤ 9999) (want : Int) {count : Int} (h0 : 0 ≤ count) (hc : max count 1 = (n : Int)) {key : ByteArray} (hk : key.toList = ([94] : List UInt8)) : Ev (fun k => quoinref07_Move.j0 k t p want count key false) (five (T6 t p (firstR t (cnt 10 (t.take p))).1 1)) := by
  refine Ev.step (fun _ => quoinref07_Move.j0.eq_2 ..) (Ev.neg Bool.false_ne_true (Ev.bind (refOf_ev hl p) (Ev.bind (refCount_ev hl) ?_)))
  have c0 := cnt_nonneg 10 (t.take p)
  have c1 := cnt_le 10 (t.take p)
  have c2 := List.length_take_le p t
  have c3 := cnt_nonneg 10 t
  have c4 := cnt_le 10 t
  have hC : wrap64 (cnt 10 t + 1 - 1) = cnt 10 t := by rw [wrap64_id (by omega) (by omega)]; omega
  have hm : mx count 1 = (n : Int) := by rw [mx_eq, hc]
  rw [show ofR t (p : Int) = ((cnt 10 (t.take p)), 0) from by unfold ofR; rw [if_pos (by omega), Int.toNat_natCast]]
  refine Ev.neg (show ¬ key.toList = ([106] : List UInt8) from by rw [hk]; decide) (Ev.neg (show ¬ key.toList = ([107] : List UInt8) from by rw [hk]; decide) (Ev.neg (show ¬ key.toList = ([43] : List UInt8) from by rw [hk]; decide) ?_))
  rw [beq_eq_false_iff_ne.2 (show key.toList ≠ ([13] : List UInt8) from by rw [hk]; decide)]
  refine Ev.step (fun _ => quoinref07_Move.j1.eq_2 ..) (Ev.neg Bool.false_ne_true ?_)
  refine Ev.neg (show ¬ key.toList = ([45] : List UInt8) from by rw [hk]; decide) (Ev.neg (show ¬ key.toList = ([95] : List UInt8) from by rw [hk]; decide) (Ev.neg (show ¬ key.toList = ([103, 103] : List UInt8) from by rw [hk]; decide) (Ev.neg (show ¬ key.toList = ([71] : List UInt8) from by rw [hk]; decide) (Ev.neg (show ¬ key.toList = ([36] : List UInt8) from by rw [hk]; decide) (Ev.neg (show ¬ key.toList = ([124] : List UInt8) from by rw [hk]; decide) (?_))))))
  rw [hm]
  exact Ev.pass (along_ca hl hp h1 hn hk)
theorem known_ev {p n : Nat} (hp : p ≤ t.length) (h1 : 1 ≤ n) (hn : n ≤ 9999) (want : Int) {count : Int} (h0 : 0 ≤ count) (hc : max count 1 = (n : Int)) (key : ByteArray) : Ev (fun k => (quoinref07_known.f key).bind fun b => quoinref07_Move.j0 k t p want count key (!b)) (moveN t p want n (decide (count > 0)) key) := by
  by_cases h_j : key.toList = ([106] : List UInt8)
  · rw [mvN_j h_j]
    exact Ev.cbind (known_j h_j) (mv_j hl hp h1 hn want h0 hc h_j)
  by_cases h_k : key.toList = ([107] : List UInt8)
  · rw [mvN_k h_k]
    exact Ev.cbind (known_k h_k) (mv_k hl hp h1 hn want h0 hc h_k)
  by_cases h_pl : key.toList = ([43] : List UInt8)
  · rw [mvN_pl h_pl]
    exact Ev.cbind (known_pl h_pl) (mv_pl hl hp h1 hn want h0 hc h_pl)
  by_cases h_cr : key.toList = ([13] : List UInt8)
  · rw [mvN_cr h_cr]
    exact Ev.cbind (known_cr h_cr) (mv_cr hl hp h1 hn want h0 hc h_cr)
  by_cases h_mi : key.toList = ([45] : List UInt8)
  · rw [mvN_mi h_mi]
    exact Ev.cbind (known_mi h_mi) (mv_mi hl hp h1 hn want h0 hc h_mi)
  by_cases h_un : key.toList = ([95] : List UInt8)
  · rw [mvN_un h_un]
    exact Ev.cbind (known_un h_un) (mv_un hl hp h1 hn want h0 hc h_un)
  by_cases h_gg : key.toList = ([103, 103] : List UInt8)
  · rw [mvN_gg h_gg]
    exact Ev.cbind (known_gg h_gg) (mv_gg hl hp h1 hn want h0 hc h_gg)
  by_cases h_G : key.toList = ([71] : List UInt8)
  · rw [mvN_G h_G]
    exact Ev.cbind (known_G h_G) (mv_G hl hp h1 hn want h0 hc h_G)
  by_cases h_do : key.toList = ([36] : List UInt8)
  · rw [mvN_do h_do]
    exact Ev.cbind (known_do h_do) (mv_do hl hp h1 hn want h0 hc h_do)
  by_cases h_ba : key.toList = ([124] : List UInt8)
  · rw [mvN_ba h_ba]
    exact Ev.cbind (known_ba h_ba) (mv_ba hl hp h1 hn want h0 hc h_ba)
  by_cases h_h : key.toList = ([104] : List UInt8)
  · rw [mvN_h h_h]
    exact Ev.cbind (known_h h_h) (mv_h hl hp h1 hn want h0 hc h_h)
  by_cases h_l : key.toList = ([108] : List UInt8)
  · rw [mvN_l h_l]
    exact Ev.cbind (known_l h_l) (mv_l hl hp h1 hn want h0 hc h_l)
  by_cases h_sp : key.toList = ([32] : List UInt8)
  · rw [mvN_sp h_sp]
    exact Ev.cbind (known_sp h_sp) (mv_sp hl hp h1 hn want h0 hc h_sp)
  by_cases h_bs : key.toList = ([8] : List UInt8)
  · rw [mvN_bs h_bs]
    exact Ev.cbind (known_bs h_bs) (mv_bs hl hp h1 hn want h0 hc h_bs)
  by_cases h_z : key.toList = ([48] : List UInt8)
  · rw [mvN_z h_z]
    exact Ev.cbind (known_z h_z) (mv_z hl hp h1 hn want h0 hc h_z)
  by_cases h_ca : key.toList = ([94] : List UInt8)
  · rw [mvN_ca h_ca]
    exact Ev.cbind (known_ca h_ca) (mv_ca hl hp h1 hn want h0 hc h_ca)
  rw [mvN_none h_h h_l h_sp h_bs h_z h_ca h_ba h_do h_j h_pl h_cr h_k h_mi h_un h_G h_gg]
  exact Ev.cbind (known_none h_h h_l h_sp h_bs h_z h_ca h_ba h_do h_j h_pl h_cr h_k h_mi h_un h_G h_gg) (Ev.step (fun _ => quoinref07_Move.j0.eq_2 ..) (Ev.pos rfl (Ev.now _)))
theorem rmove_ev (a want count : Int) (key : ByteArray) : Ev (fun k => quoinref07_Move.f k t a want count key) (moveV t a want count key) := by
  have bad : Ev (fun k => quoinref07_Move.j0 k t a want count key true) (0, 0, 0, 0, 2) := Ev.step (fun _ => quoinref07_Move.j0.eq_2 ..) (Ev.pos rfl (Ev.now _))
  have no : ¬ ((0 ≤ a ∧ a ≤ t.length) ∧ ¬ want < -1 ∧ ¬ count < 0 ∧ ¬ count > 9999) → moveV t a want count key = (0, 0, 0, 0, 2) := fun h => by unfold moveV; rw [if_neg h]
  by_cases h0 : a < 0
  · rw [no (by omega)]
    exact Ev.pos h0 bad
  by_cases h1 : a > (t.length : Int)
  · rw [no (by omega)]
    exact Ev.neg h0 (Ev.pos h1 bad)
  by_cases h2 : want < -1
  · rw [no (by omega)]
    exact Ev.neg h0 (Ev.neg h1 (Ev.pos h2 bad))
  by_cases h3 : count < 0
  · rw [no (by omega)]
    exact Ev.neg h0 (Ev.neg h1 (Ev.neg h2 (Ev.pos h3 bad)))
  by_cases h4 : count > 9999
  · rw [no (by omega)]
    exact Ev.neg h0 (Ev.neg h1 (Ev.neg h2 (Ev.neg h3 (Ev.pos h4 bad))))
  refine Ev.neg h0 (Ev.neg h1 (Ev.neg h2 (Ev.neg h3 (Ev.neg h4 ?_))))
  obtain ⟨p, rfl⟩ := Int.eq_ofNat_of_zero_le (show 0 ≤ a from by omega)
  have e : moveV t (p : Int) want count key = moveN t p want (max count 1).toNat (decide (count > 0)) key := by
    unfold moveV
    rw [if_pos (by omega)]
    rfl
  rw [e]
  exact known_ev hl (by omega) (by omega) (by omega) want (by omega) (by omega) key
end
end Go.Proofs.Ytofkcdnkbjpmmaa.MVR
