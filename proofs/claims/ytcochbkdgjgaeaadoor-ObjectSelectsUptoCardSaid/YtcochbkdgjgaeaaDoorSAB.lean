/-
  Texts of one proof in one file (wip/some.py): OR0, OR1, OR2, OC1, OC2.
  Conditions: none.
-/
import Derived.Test.YtcochbkdgjgaeaaDoorLN
import Derived.Test.YtcochbkdgjgaeaaDoorX27
import Derived.Test.YtcochbkdgjgaeaaDoorX29
import Derived.Test.YtcochbkdgjgaeaaDoorX30
import Derived.Test.YtcochbkdgjgaeaaDoorX28
import Derived.Test.YtcochbkdgjgaeaaDoorX39
import Derived.Test.YtcochbkdgjgaeaaDoorX16
import Derived.Test.YtcochbkdgjgaeaaDoorSAA
import Derived.Test.YtcochbkdgjgaeaaDoorX35
import Derived.Test.YtcochbkdgjgaeaaDoorX40
import Derived.Test.YtcochbkdgjgaeaaDoorX36
import Derived.Test.YtcochbkdgjgaeaaDoorX38
import Derived.Test.YtcochbkdgjgaeaaDoorX34
import Derived.Test.YtcochbkdgjgaeaaDoorX42
import Derived.Test.YtcochbkdgjgaeaaDoorX43
import Derived.Test.YtcochbkdgjgaeaaDoorX44
import Derived.Test.YtcochbkdgjgaeaaDoorX45
import Derived.Test.YtcochbkdgjgaeaaDoorX46
import Derived.Lib.Hide
import Derived.RegionTactic
import Derived.ChangeAlike
section
namespace Go.Proofs.YtcochbkdgjgaeaaDoor.OR
open Go.RowKit Go.Proofs.YtcochbkdgjgaeaaDoorW.PrintWords Go.Proofs.YtcochbkdgjgaeaaDoorW.PrintMore Go.Proofs.YtcochbkdgjgaeaaDoor.X Go.Proofs.YtcochbkdgjgaeaaDoor.XL Go.Proofs.YtcochbkdgjgaeaaDoor.XO Go.Proofs.YtcochbkdgjgaeaaDoor.LN
set_option linter.unusedVariables false
theorem rd_at (t : List Int) (p : Nat) : rd t (p : Int) = t.getD p 0 := by unfold rd; rw [Int.toNat_natCast]
section
variable {t : List Int} (hl : t.length ≤ 140737488355328)
include hl
theorem refStart_l0 : ∀ (d p n : Nat), p + d = t.length → ((n : Int) + 1) ≤ 9223372036854775807 →
  Ev (fun k => quoinref05_Start.l0 k t ((n : Int) + 1) (p : Int)) (match sg t p (n + 1) with | some q => ((q : Int), 0) | none => (0, 2)) := by
 intro d
 induction d with
 | zero =>
  intro p n hp hn
  have hf := fin_ge t p
  have e : sg t p (n + 1) = none := by unfold sg; rw [if_neg (by omega)]
  rw [e]
  exact Ev.step (fun k => rfl) (Ev.neg (by omega) (Ev.now _))
 | succ d ih =>
  intro p n hp hn
  refine Ev.step (f := fun k => if (p : Int) < (t.length : Int) then (if 0 ≤ (p : Int) then (if (rd t (p : Int)) = 10 then (if (wrap64 (((n : Int) + 1) - 1)) = 0 then (some (wrap64 ((p : Int) + 1), 0)) else (quoinref05_Start.l0 k t (wrap64 (((n : Int) + 1) - 1)) (wrap64 ((p : Int) + 1)))) else (quoinref05_Start.l0 k t ((n : Int) + 1) (wrap64 ((p : Int) + 1)))) else (none)) else (some (0, 2))) (fun k => rfl) (Ev.pos (by omega) (Ev.pos (by omega) ?_))
  rw [rd_at, wrap64_id (n := (n : Int) + 1 - 1) (by omega) (by omega), wrap64_id (n := (p : Int) + 1) (by omega) (by omega), show (p : Int) + 1 = ((p + 1 : Nat) : Int) from by omega]
  by_cases hx : t.getD p 0 = 10
  ·have hf : p = fin t p := fin_unique (Nat.le_refl _) (by omega) (fun j h1 h2 => by omega) (fun _ => hx)
   have e : sg t p (n + 1) = sg t (p + 1) n := by
    conv => lhs; unfold sg
    rw [← hf, if_pos (by omega)]
   rw [e]
   refine Ev.pos hx ?_
   cases n with
   | zero => exact Ev.pos (by simp) (Ev.now _)
   | succ n =>
    refine Ev.neg (by omega) ?_
    rw [show ((n + 1 : Nat) : Int) + 1 - 1 = (n : Int) + 1 from by omega]
    exact ih (p + 1) n (by omega) (by omega)
  ·have h0 := fin_ge t p
   have h1 : fin t p ≠ p := fun h => hx (by have := fin_at (t := t) (p := p) (by omega); rwa [h] at this)
   have hf : fin t p = fin t (p + 1) := fin_unique (by omega) (fin_le (by omega)) (fun j h1 h2 => fin_ne (by omega) h2) (fun h => fin_at h)
   have e : sg t p (n + 1) = sg t (p + 1) (n + 1) := by
    conv => lhs; unfold sg
    conv => rhs; unfold sg
    rw [hf]
   rw [e]
   exact Ev.neg hx (ih (p + 1) n (by omega) hn)
theorem refStart_ev (n : Int) (hn : n ≤ 9223372036854775807) : Ev (fun k => quoinref05_Start.f k t n) (startR t n) := by
 unfold startR
 by_cases h : n < 0
 ·rw [if_pos h]
  exact Ev.pos h (Ev.now _)
 ·rw [if_neg h]
  refine Ev.neg h ?_
  by_cases h0 : n = 0
  ·subst h0
   exact Ev.pos rfl (Ev.now _)
  ·refine Ev.neg h0 ?_
   have h1 := refStart_l0 hl t.length 0 (n.toNat - 1) (by omega) (by omega)
   rw [show ((n.toNat - 1 : Nat) : Int) + 1 = n from by omega, show n.toNat - 1 + 1 = n.toNat from by omega] at h1
   exact h1
end
theorem refCount_l0 {t : List Int} (hl : t.length ≤ 140737488355328) : ∀ (d p : Nat) (c : Int), p + d = t.length → 0 ≤ c → c ≤ (p : Int) + 1 →
  Ev (fun k => quoinref05_Count.l0 k t c (p : Int)) (c + cnt 10 (t.drop p)) := by
 intro d
 induction d with
 | zero =>
  intro p c hp h0 h1
  rw [List.drop_eq_nil_of_le (by omega)]
  exact Ev.step (fun k => rfl) (Ev.neg (by omega) (Ev.eq (Ev.now _) (by simp [cnt])))
 | succ d ih =>
  intro p c hp h0 h1
  refine Ev.step (f := fun k => if (p : Int) < (t.length : Int) then (if 0 ≤ (p : Int) then (if (rd t (p : Int)) = 10 then (quoinref05_Count.l0 k t (wrap64 (c + 1)) (wrap64 ((p : Int) + 1))) else (quoinref05_Count.l0 k t c (wrap64 ((p : Int) + 1)))) else (none)) else (some c)) (fun k => rfl) (Ev.pos (by omega) (Ev.pos (by omega) ?_))
  rw [rd_at, wrap64_id (n := (p : Int) + 1) (by omega) (by omega), wrap64_id (n := c + 1) (by omega) (by omega), show (p : Int) + 1 = ((p + 1 : Nat) : Int) from by omega]
  have hd : t.drop p = t.getD p 0 :: t.drop (p + 1) := by
   rw [List.drop_eq_getElem_cons (by omega : p < t.length), List.getD_eq_getElem?_getD, List.getElem?_eq_getElem (by omega)]
   rfl
  rw [hd]
  by_cases hx : t.getD p 0 = 10
  ·refine Ev.pos hx (Ev.eq (ih (p + 1) (c + 1) (by omega) (by omega) (by omega)) ?_)
   simp only [cnt]
   rw [if_pos hx]
   omega
  ·refine Ev.neg hx (Ev.eq (ih (p + 1) c (by omega) (by omega) (by omega)) ?_)
   simp only [cnt]
   rw [if_neg hx]
   omega
def ofR (t : List Int) (a : Int) : Int × Int := if 0 ≤ a ∧ a ≤ t.length then (cnt 10 (t.take a.toNat), 0) else (0, 2)
theorem refOf_ev {t : List Int} (hl : t.length ≤ 140737488355328) (a : Int) : Ev (fun k => quoinref05_Of.f k t a) (ofR t a) := by
 unfold ofR
 by_cases h0 : a < 0
 ·rw [if_neg (by omega)]
  exact Ev.pos h0 (Ev.now _)
 ·by_cases h1 : a > (t.length : Int)
  ·rw [if_neg (by omega)]
   exact Ev.neg h0 (Ev.pos h1 (Ev.now _))
  ·rw [if_pos (by omega)]
   have hlen : (t.take a.toNat).length = a.toNat := by rw [List.length_take]; omega
   have h2 := refCount_l0 (t := t.take a.toNat) (by omega) a.toNat 0 1 (by omega) (by omega) (by omega)
   rw [List.drop_zero] at h2
   have h3 := cnt_nonneg 10 (t.take a.toNat)
   have h4 := cnt_le 10 (t.take a.toNat)
   refine Ev.neg h0 (Ev.neg h1 (Ev.pos (by omega) (Ev.pos (by omega) (Ev.bind h2 (Ev.eq (Ev.now _) ?_)))))
   rw [wrap64_id (by omega) (by omega)]
   congr 1
   omega
section
variable {t : List Int} (hl : t.length ≤ 140737488355328)
include hl
theorem refEnd_l0 : ∀ (d p : Nat), p + d = t.length → Ev (fun k => quoinref05_End.l0 k t (p : Int)) ((fin t p : Int), 0) := by
 intro d
 induction d with
 | zero =>
  intro p hp
  have h1 := fin_ge t p
  have h2 := fin_le (t := t) (p := p) (by omega)
  have e : fin t p = p := by omega
  rw [e]
  exact Ev.step (fun _ => rfl) (Ev.neg (by omega) (Ev.now _))
 | succ d ih =>
  intro p hp
  have hw : wrap64 ((p : Int) + 1) = ((p + 1 : Nat) : Int) := by rw [wrap64_id (by omega) (by omega)]; omega
  refine Ev.step (f := fun k => if (p : Int) < (t.length : Int) then (if 0 ≤ (p : Int) then (if (rd t (p : Int)) = 10 then (some ((p : Int), 0)) else (quoinref05_End.l0 k t (wrap64 ((p : Int) + 1)))) else (none)) else (some ((p : Int), 0))) (fun _ => rfl) ?_
  rw [hw, rd_at]
  clear hw
  refine Ev.pos (by omega) (Ev.pos (by omega) ?_)
  by_cases hx : t.getD p 0 = 10
  ·have e : p = fin t p := fin_unique (Nat.le_refl _) (by omega) (fun j h1 h2 => by omega) (fun _ => hx)
   rw [← e]
   exact Ev.pos hx (Ev.now _)
  ·have h0 := fin_ge t p
   have h1 : fin t p ≠ p := fun h => hx (by have := fin_at (t := t) (p := p) (by omega); rwa [h] at this)
   have hf : fin t p = fin t (p + 1) := fin_unique (by omega) (fin_le (by omega)) (fun j h1 h2 => fin_ne (by omega) h2) (fun h => fin_at h)
   rw [hf]
   exact Ev.neg hx (ih (p + 1) (by omega))
theorem refEnd_ev (n : Int) (hn : n ≤ 9223372036854775807) : Ev (fun k => quoinref05_End.f k t n) (endR t n) := by
 refine Ev.bind (refStart_ev hl n hn) ?_
 unfold endR startR
 by_cases h : n < 0
 ·rw [if_pos h, if_pos h]
  exact Ev.neg (by decide) (Ev.now _)
 ·rw [if_neg h, if_neg h]
  cases hs : sg t 0 n.toNat with
  | none => exact Ev.neg (by decide) (Ev.now _)
  | some q =>
   have hq := (sg_some (Nat.zero_le _) (.inl rfl) hs).2.2.1
   exact Ev.pos rfl (refEnd_l0 hl (t.length - q) q (by omega))
end
theorem split_end {cur : List Int} (h : ∀ x ∈ cur, x ≠ 10) : X.splitR cur = [cur] := by
 induction cur with
 | nil => rfl
 | cons x cur ih =>
  unfold X.splitR
  rw [if_neg (h x (by simp)), ih (fun y hy => h y (by simp [hy]))]
theorem split_mid {cur q : List Int} (h : ∀ x ∈ cur, x ≠ 10) : X.splitR (cur ++ 10 :: q) = cur :: X.splitR q := by
 induction cur with
 | nil =>
  show X.splitR (10 :: q) = _
  conv => lhs; unfold X.splitR
  rw [if_pos rfl]
 | cons x cur ih =>
  show X.splitR (x :: (cur ++ 10 :: q)) = _
  conv => lhs; unfold X.splitR
  rw [if_neg (h x (by simp)), ih (fun y hy => h y (by simp [hy]))]
theorem rsplit_scan {t : List Int} (hb : t.length ≤ 1000000000000) : ∀ (d s i k : Nat) (acc : List (List Int)), i + d = t.length → s ≤ i → d + 2 ≤ k → acc.length ≤ i → (∀ x ∈ (t.take i).drop s, x ≠ 10) → X.quoinref05_Split.l0 k t acc (s : Int) (i : Int) = some (acc ++ X.splitR (t.drop s)) := by
 intro d
 induction d with
 | zero =>
  intro s i k acc hi hs hk hal hno
  obtain ⟨k, rfl⟩ : ∃ k', k = k' + 2 := ⟨k - 2, by omega⟩
  have hie : i = t.length := by omega
  subst hie
  have hl1 : ((t.take t.length).drop s).length ≤ t.length := by rw [List.length_drop, List.length_take]; omega
  rw [List.take_length] at hno hl1
  have ew : wrap64 ((t.length : Int) + 1) = (t.length : Int) + 1 := by unfold wrap64; omega
  unfold X.quoinref05_Split.l0
  simp only [Int.toNat_natCast, List.take_length]
  rw [if_pos (by omega), if_pos True.intro, Option.bind_some, if_pos (by omega), if_pos (by omega), if_pos (by simp at hl1 ⊢; omega), if_pos (by omega), ew]
  unfold X.quoinref05_Split.l0
  rw [if_neg (by omega), List.nil_append, split_end hno]
 | succ d ih =>
  intro s i k acc hi hs hk hal hno
  obtain ⟨k, rfl⟩ : ∃ k', k = k' + 1 := ⟨k - 1, by omega⟩
  have hlt : i < t.length := by omega
  have hl1 : ((t.take i).drop s).length ≤ i := by rw [List.length_drop, List.length_take]; omega
  have ew : wrap64 ((i : Int) + 1) = ((i + 1 : Nat) : Int) := by unfold wrap64; omega
  have hti : t.drop s = (t.take i).drop s ++ t.drop i := by
   conv => lhs; rw [← List.take_append_drop i t]
   rw [List.drop_append_of_le_length (by rw [List.length_take]; omega)]
  have hdi : t.drop i = t[i] :: t.drop (i + 1) := List.drop_eq_getElem_cons hlt
  have hrd : rd t (i : Int) = t[i] := by unfold rd; rw [Int.toNat_natCast, List.getD_eq_getElem?_getD, List.getElem?_eq_getElem hlt]; rfl
  unfold X.quoinref05_Split.l0
  simp only [Int.toNat_natCast]
  rw [if_pos (by omega), if_neg (by omega), if_pos (by omega), if_pos (by omega)]
  by_cases h10 : rd t (i : Int) = 10
  ·rw [if_pos h10, Option.bind_some, if_pos (by omega), if_pos (by omega), if_pos (by simp at hl1 ⊢; omega), if_pos (by omega), ew]
   rw [ih (i + 1) (i + 1) k _ (by omega) (Nat.le_refl _) (by omega) (by rw [List.length_append, List.length_singleton]; omega) (fun x hx => by
    rw [List.drop_eq_nil_of_le (by rw [List.length_take]; omega)] at hx
    cases hx)]
   rw [hti, hdi, ← hrd, h10, split_mid hno]
   simp
  ·rw [if_neg h10, ew]
   refine ih s (i + 1) k acc (by omega) (by omega) (by omega) (by omega) (fun x hx => ?_)
   rw [show t.take (i + 1) = t.take i ++ [t[i]] from by rw [List.take_add_one, List.getElem?_eq_getElem hlt]; rfl, List.drop_append_of_le_length (by rw [List.length_take]; omega)] at hx
   rcases List.mem_append.1 hx with h | h
   ·exact hno x h
   ·rw [List.mem_singleton.1 h, ← hrd]; exact h10
theorem rsplit_ev {t : List Int} (hb : t.length ≤ 1000000000000) : Ev (fun k => quoinref05_Split.f k t) (X.splitR t) := by
 refine ⟨t.length + 2, fun k hk => ?_⟩
 have h := rsplit_scan hb t.length 0 0 k [] (by omega) (Nat.le_refl _) hk (Nat.le_refl _) (fun x hx => by simp at hx)
 rw [List.drop_zero, List.nil_append] at h
 exact h
end Go.Proofs.YtcochbkdgjgaeaaDoor.OR
end
section
namespace Go.Proofs.YtcochbkdgjgaeaaDoor.OR1
open Go.RowKit Go.Proofs.YtcochbkdgjgaeaaDoorW.PrintWords Go.Proofs.YtcochbkdgjgaeaaDoorW.PrintMore Go.Proofs.YtcochbkdgjgaeaaDoor.X Go.Proofs.YtcochbkdgjgaeaaDoor.XL Go.Proofs.YtcochbkdgjgaeaaDoor.XO Go.Proofs.YtcochbkdgjgaeaaDoor.LN Go.Proofs.YtcochbkdgjgaeaaDoor.OB Go.Proofs.YtcochbkdgjgaeaaDoor.OB2 Go.Proofs.YtcochbkdgjgaeaaDoor.OVW Go.Proofs.YtcochbkdgjgaeaaDoor.OR
set_option linter.unusedVariables false
theorem rcls_ev (b : Int) (big : Bool) : Ev (fun k => quoinref06_Of.f k b big) (cls b big) := by
 have hj : ∀ f : Bool, (f = true ↔ (b = 32 ∨ b = 9)) → b ≠ 10 → Ev (fun k => quoinref06_Of.j0 k b big f) (cls b big) := by
  intro f hf h10
  refine Ev.step (fun _ => quoinref06_Of.j0.eq_2 ..) ?_
  rw [show cls b big = if b = 32 ∨ b = 9 then 0 else if big = true ∨ (97 ≤ b ∧ b ≤ 122) ∨ (65 ≤ b ∧ b ≤ 90) ∨ (48 ≤ b ∧ b ≤ 57) ∨ b = 95 ∨ 128 ≤ b then 2 else 1 from if_neg h10]
  cases f with
  | true => exact Ev.eq (Ev.pos rfl (Ev.now 0)) (if_pos (hf.1 rfl)).symm
  | false =>
   have hn : ¬ (b = 32 ∨ b = 9) := fun h => by have := hf.2 h; cases this
   refine Ev.eq (r := if big = true ∨ (97 ≤ b ∧ b ≤ 122) ∨ (65 ≤ b ∧ b ≤ 90) ∨ (48 ≤ b ∧ b ≤ 57) ∨ b = 95 ∨ 128 ≤ b then 2 else 1) (Ev.neg Bool.false_ne_true ?_) (if_neg hn).symm
   by_cases hs : 97 ≤ b ∧ b ≤ 122
   ·exact Ev.eq (Ev.cbind (show quoinref06_small.f b = some true by unfold quoinref06_small.f; rw [if_pos hs.1, decide_eq_true hs.2]) (Ev.pos rfl (Ev.now 2))) (if_pos (.inr (.inl hs))).symm
   have hs' : quoinref06_small.f b = some false := by
    unfold quoinref06_small.f
    by_cases h1 : b ≥ 97
    ·rw [if_pos h1, decide_eq_false (by omega)]
    ·rw [if_neg h1]
   refine Ev.cbind hs' (Ev.neg Bool.false_ne_true ?_)
   by_cases hg : 65 ≤ b ∧ b ≤ 90
   ·exact Ev.eq (Ev.cbind (show quoinref06_great.f b = some true by unfold quoinref06_great.f; rw [if_pos hg.1, decide_eq_true hg.2]) (Ev.pos rfl (Ev.now 2))) (if_pos (.inr (.inr (.inl hg)))).symm
   have hg' : quoinref06_great.f b = some false := by
    unfold quoinref06_great.f
    by_cases h1 : b ≥ 65
    ·rw [if_pos h1, decide_eq_false (by omega)]
    ·rw [if_neg h1]
   refine Ev.cbind hg' (Ev.neg Bool.false_ne_true ?_)
   -- behind the digits
   have tail : ¬ (48 ≤ b ∧ b ≤ 57) → Ev (fun _ : Nat => if b = 95 then some (2 : Int) else (if b ≥ 128 then (some 2) else (if big = true then (some 2) else (some 1)))) (if big = true ∨ (97 ≤ b ∧ b ≤ 122) ∨ (65 ≤ b ∧ b ≤ 90) ∨ (48 ≤ b ∧ b ≤ 57) ∨ b = 95 ∨ 128 ≤ b then 2 else 1) := by
    intro hd
    by_cases hu : b = 95
    ·exact Ev.eq (Ev.pos hu (Ev.now 2)) (if_pos (.inr (.inr (.inr (.inr (.inl hu)))))).symm
    by_cases h8 : 128 ≤ b
    ·exact Ev.eq (Ev.neg hu (Ev.pos h8 (Ev.now 2))) (if_pos (.inr (.inr (.inr (.inr (.inr h8)))))).symm
    by_cases hb : big = true
    ·exact Ev.eq (Ev.neg hu (Ev.neg h8 (Ev.pos hb (Ev.now 2)))) (if_pos (.inl hb)).symm
    have hno : ¬ (big = true ∨ (97 ≤ b ∧ b ≤ 122) ∨ (65 ≤ b ∧ b ≤ 90) ∨ (48 ≤ b ∧ b ≤ 57) ∨ b = 95 ∨ 128 ≤ b) := by
     rintro (h | h | h | h | h | h)
     ·exact hb h
     ·exact hs h
     ·exact hg h
     ·exact hd h
     ·exact hu h
     ·exact h8 h
    exact Ev.eq (Ev.neg hu (Ev.neg h8 (Ev.neg hb (Ev.now 1)))) (if_neg hno).symm
   by_cases hd : 48 ≤ b ∧ b ≤ 57
   ·exact Ev.eq (Ev.pos hd.1 (Ev.pos hd.2 (Ev.now 2))) (if_pos (.inr (.inr (.inr (.inl hd))))).symm
   by_cases h4 : b ≥ 48
   ·exact Ev.pos h4 (Ev.neg (show ¬ b ≤ 57 by omega) (tail hd))
   ·exact Ev.neg h4 (tail hd)
 by_cases h10 : b = 10
 ·exact Ev.eq (Ev.pos h10 (Ev.now 3)) (if_pos h10).symm
 refine Ev.neg h10 ?_
 by_cases h3 : b = 32
 ·exact Ev.pos h3 (hj true ⟨fun _ => .inl h3, fun _ => rfl⟩ h10)
 ·refine Ev.neg h3 (hj _ ?_ h10)
  rw [beq_iff_eq]
  exact ⟨.inr, fun h => h.elim (fun h => absurd h h3) id⟩
def c48 (x : S76) : S48 := ⟨x.f0, x.f1, x.f2⟩
theorem rd48 (L : List S76) {j : Nat} (h : j < L.length) : rd_T48 (L.map c48) (j : Int) = c48 (rd_T76 L (j : Int)) := by
 unfold rd_T48 rd_T76
 rw [Int.toNat_natCast, List.getD_eq_getElem?_getD, List.getD_eq_getElem?_getD, List.getElem?_map, List.getElem?_eq_getElem h]
 rfl
/-- Of a chain's last stretch. -/
theorem Ch_last {C : Nat → Int} {e s : Nat} {A : List S76} {x : S76} (h : Ch C e s (A ++ [x])) {m : Nat} (hm : x.f0 = (m : Int)) : ∀ j, m ≤ j → j < e → C j = C m := by
 obtain ⟨m', _, _, _, ⟨n, n0, n1, n2, n3, n4, _, _, n7⟩, _⟩ := Ch_split h
 have n7 : n = e := n7
 have : m' = m := by omega
 subst this
 intro j h1 h2
 exact n4 j h1 (by omega)
theorem set48 {A : List S76} {x y : S76} : ((A ++ [x]).map c48).set A.length (c48 y) = (A ++ [y]).map c48 := by
 rw [← List.map_set, set_last]
section
variable {t : List Int} (hl : t.length ≤ 1048576)
include hl
theorem rwords_l0 {big : Bool} {s e : Nat} (hse : s ≤ e) (he : e ≤ t.length) : ∀ (d i : Nat) (L : List S76), i + d = e → s ≤ i → Ch (cl t big) i s L → Ev (fun k => quoinref13_words.l0 k t (s : Int) (e : Int) big (L.map c48) (i : Int)) ((lineL t big s e).map c48) := by
 intro d
 induction d with
 | zero =>
  intro i L hi hsi hL
  have hi : i = e := by omega
  subst hi
  rw [Ch_unique (lineL_chain (t := t) (big := big) hse) hL]
  exact Ev.step (fun _ => quoinref13_words.l0.eq_2 ..) (Ev.neg (by omega) (Ev.now _))
 | succ d ih =>
  intro i L hi hsi hL
  have hll := Ch_len hL
  have hw : wrap64 ((i : Int) + 1) = ((i + 1 : Nat) : Int) := by rw [wrap64_id (by omega) (by omega)]; omega
  have b1 : (i : Int) < (e : Int) := by clear hw; omega
  have b2 : (0 : Int) ≤ (i : Int) := by clear hw; omega
  have b3 : (i : Int) < (t.length : Int) := by clear hw; omega
  have hlm : (L.map c48).length = L.length := List.length_map _
  have b4 : (L.map c48).length < 5864062014805 := by clear hw; omega
  have fresh : Ch (cl t big) (i + 1) s (L ++ [⟨(i : Int), ((i + 1 : Nat) : Int), cl t big i == 0⟩]) → Ev (fun k => if (L.map c48).length < 5864062014805 then (quoinref13_words.l0 k t (s : Int) (e : Int) big (L.map c48 ++ [(⟨(i : Int), wrap64 ((i : Int) + 1), (cl t big i == 0)⟩ : S48)]) (wrap64 ((i : Int) + 1))) else (none)) ((lineL t big s e).map c48) := by
   intro hch
   refine Ev.pos b4 ?_
   have h2 := ih (i + 1) _ (by clear hw; omega) (by clear hw; omega) hch
   rw [List.map_append] at h2
   rw [hw]
   exact h2
  have c1 : Ev (fun k => quoinref06_Of.f k (rd t (i : Int)) big) (cl t big i) := Ev.eq (rcls_ev _ _) (by unfold cl; rw [OR.rd_at])
  refine Ev.step (fun _ => quoinref13_words.l0.eq_2 ..) (Ev.pos b1 (Ev.pos b2 (Ev.pos b3 (Ev.bind c1 ?_))))
  by_cases hs : i = s
  ·subst hs
   refine Ev.neg (by clear hw; omega) (fresh ?_)
   have hnil : L = [] := by
    cases L with
    | nil => rfl
    | cons x L => obtain ⟨n, _, _, h1, h2, _⟩ := hL; omega
   subst hnil
   exact ⟨i + 1, rfl, rfl, by omega, by omega, fun j a b => by rw [show j = i from by omega], fun h => by omega, rfl, rfl⟩
  ·have hw2 : wrap64 ((i : Int) - 1) = ((i - 1 : Nat) : Int) := by clear hw; rw [wrap64_id (by omega) (by omega)]; omega
   have c2 : Ev (fun k => quoinref06_Of.f k (rd t ((i - 1 : Nat) : Int)) big) (cl t big (i - 1)) := Ev.eq (rcls_ev _ _) (by unfold cl; rw [OR.rd_at])
   refine Ev.pos (by clear hw hw2; omega) ?_
   rw [hw2]
   refine Ev.pos (by clear hw hw2; omega) (Ev.pos (by clear hw hw2; omega) (Ev.bind c2 ?_))
   rcases List.eq_nil_or_concat L with rfl | ⟨A, x, rfl⟩
   ·have h0 : s = i := hL
    omega
   ·rw [List.concat_eq_append] at *
    obtain ⟨m, m1, m2, m3, m4, m5⟩ := Ch_grow hL
    have hlast := Ch_last hL m1 (i - 1) (by clear hw hw2; omega) (by clear hw hw2; omega)
    rw [hlast]
    by_cases hc : cl t big m = cl t big i
    ·have hA : (A ++ [x]).length = A.length + 1 := by simp
     have hw3 : wrap64 ((((A ++ [x]).map c48).length : Int) - 1) = (A.length : Int) := by rw [hlm, hA, wrap64_id (by clear hw hw2; omega) (by clear hw hw2; omega)]; clear hw hw2; omega
     refine Ev.pos hc ?_
     rw [hw3, hlm, hA, Int.toNat_natCast, rd48 _ (by rw [hA]; omega), rd_mid, hw]
     refine Ev.pos (by clear hw hw2 hw3; omega) (Ev.pos (by clear hw hw2 hw3; omega) ?_)
     have h2 := ih (i + 1) _ (by clear hw hw2 hw3; omega) (by clear hw hw2 hw3; omega) (m5 hc.symm)
     rw [← set48 (x := x)] at h2
     exact h2
    ·refine Ev.neg hc (fresh ?_)
     have h2 := m4 (fun h => hc h.symm)
     simpa using h2
theorem rwords_ev {big : Bool} {s e : Nat} (hse : s ≤ e) (he : e ≤ t.length) : Ev (fun k => quoinref13_words.f k t (s : Int) (e : Int) big) ((lineL t big s e).map c48) :=
 rwords_l0 hl hse he (e - s) s [] (by omega) (Nat.le_refl _) rfl
end
theorem rrows_l0 {M : List (List Int)} (hM : M.length ≤ 1048577) {LF : List S76} (hLF : Ch (vC M) M.length 0 LF) : ∀ (d i : Nat) (L : List S76), i + d = M.length → Ch (vC M) i 0 L → Ev (fun k => quoinref13_rows.l0 k M (L.map c48) (i : Int)) (LF.map c48) := by
 intro d
 induction d with
 | zero =>
  intro i L hi hL
  have hi : i = M.length := by omega
  subst hi
  rw [Ch_unique hLF hL]
  exact Ev.step (fun _ => quoinref13_rows.l0.eq_2 ..) (Ev.neg (by omega) (Ev.now _))
 | succ d ih =>
  intro i L hi hL
  have hll := Ch_len hL
  have hw : wrap64 ((i : Int) + 1) = ((i + 1 : Nat) : Int) := by rw [wrap64_id (by omega) (by omega)]; omega
  have hlm : (L.map c48).length = L.length := List.length_map _
  have b4 : (L.map c48).length < 5864062014805 := by clear hw; omega
  have fresh : Ch (vC M) (i + 1) 0 (L ++ [⟨(i : Int), ((i + 1 : Nat) : Int), vC M i == 0⟩]) → Ev (fun k => if (L.map c48).length < 5864062014805 then (quoinref13_rows.l0 k M (L.map c48 ++ [(⟨(i : Int), wrap64 ((i : Int) + 1), (vC M i == 0)⟩ : S48)]) (wrap64 ((i : Int) + 1))) else (none)) (LF.map c48) := by
   intro hch
   refine Ev.pos b4 ?_
   have h2 := ih (i + 1) _ (by clear hw; omega) hch
   rw [List.map_append] at h2
   rw [hw]
   exact h2
  refine Ev.step (fun _ => quoinref13_rows.l0.eq_2 ..) (Ev.pos (by clear hw; omega) (Ev.pos (by clear hw; omega) ?_))
  rw [vC_void]
  rcases List.eq_nil_or_concat L with rfl | ⟨A, x, rfl⟩
  ·have h0 : 0 = i := hL
   subst h0
   exact Ev.neg (by simp) (fresh ⟨1, rfl, rfl, by omega, by omega, fun j a b => by rw [show j = 0 from by omega], fun h => by omega, rfl, rfl⟩)
  ·rw [List.concat_eq_append] at *
   obtain ⟨m, m1, m2, m3, m4, m5⟩ := Ch_grow hL
   have hA : (A ++ [x]).length = A.length + 1 := by simp
   have hw3 : wrap64 ((((A ++ [x]).map c48).length : Int) - 1) = (A.length : Int) := by rw [hlm, hA, wrap64_id (by clear hw; omega) (by clear hw; omega)]; clear hw; omega
   refine Ev.pos (by rw [hlm, hA]; clear hw hw3; omega) ?_
   rw [hw3, hlm, hA, rd48 _ (by rw [hA]; omega), rd_mid, Int.toNat_natCast]
   refine Ev.pos (by clear hw hw3; omega) (Ev.pos (by clear hw hw3; omega) ?_)
   have hx2 : (c48 x).f2 = (vC M m == 0) := m3
   rw [hx2]
   by_cases hc : vC M i = vC M m
   ·rw [hc, show ((vC M m == 0) == (vC M m == 0)) = true from by simp]
    refine Ev.pos rfl ?_
    have h2 := ih (i + 1) _ (by clear hw hw3; omega) (m5 hc)
    rw [← set48 (x := x)] at h2
    rw [hw]
    have e3 : (⟨(c48 x).f0, ((i + 1 : Nat) : Int), (vC M m == 0)⟩ : S48) = c48 ⟨x.f0, ((i + 1 : Nat) : Int), x.f2⟩ := by unfold c48; rw [m3]
    rw [e3]
    exact h2
   ·have hvv : ((vC M m == 0) == (vC M i == 0)) = false := by
     unfold vC at hc ⊢
     revert hc
     split <;> split <;> simp
    rw [hvv]
    refine Ev.neg Bool.false_ne_true ?_
    have h2 := m4 (fun h => hc h)
    have h3 : Ch (vC M) (i + 1) 0 ((A ++ [x]) ++ [⟨(i : Int), ((i + 1 : Nat) : Int), vC M i == 0⟩]) := by simpa using h2
    have h4 := fresh h3
    rw [hlm, hA] at h4
    exact h4
/-- Where a place stands. -/
theorem hold_l0 {p : Int} {L : List S76} (hL : L.length ≤ 2000000) {x : S76} : ∀ (A B : List S76) (i : Nat), i + A.length ≤ L.length → L.drop i = A ++ B → (∀ y ∈ A, ¬ (y.f0 ≤ p ∧ p < y.f1)) →
  (B = [] → Ev (fun k => quoinref13_holding.l0 k (L.map c48) p (i : Int)) (-1)) ∧ (∀ z C, B = z :: C → z.f0 ≤ p → p < z.f1 → Ev (fun k => quoinref13_holding.l0 k (L.map c48) p (i : Int)) ((i + A.length : Nat) : Int)) := by
 intro A
 have hlm : (L.map c48).length = L.length := List.length_map _
 induction A with
 | nil =>
  intro B i hi hd _
  rw [List.nil_append] at hd
  refine ⟨fun hB => ?_, fun z C hB h1 h2 => ?_⟩
  ·subst hB
   have : L.length ≤ i := List.drop_eq_nil_iff.1 hd
   exact Ev.step (fun _ => quoinref13_holding.l0.eq_2 ..) (Ev.neg (by rw [hlm]; omega) (Ev.now _))
  ·subst hB
   have hi2 : i < L.length := by
    have h := congrArg List.length hd
    rw [List.length_drop, List.length_cons] at h
    omega
   have hz : rd_T48 (L.map c48) (i : Int) = c48 z := by
    rw [rd48 _ hi2, rd_get hi2]
    rw [List.drop_eq_getElem_cons hi2] at hd
    rw [(List.cons.inj hd).1]
   refine Ev.step (fun _ => quoinref13_holding.l0.eq_2 ..) (Ev.pos (by rw [hlm]; omega) (Ev.pos (by omega) ?_))
   rw [hz]
   exact Ev.pos h1 (Ev.pos h2 (Ev.now _))
 | cons a A ih =>
  intro B i hi hd hA
  have hi2 : i < L.length := by
   have h := congrArg List.length hd
   rw [List.length_drop, List.cons_append, List.length_cons] at h
   omega
  have hd2 := hd
  rw [List.drop_eq_getElem_cons hi2, List.cons_append] at hd2
  have ha : rd_T48 (L.map c48) (i : Int) = c48 a := by rw [rd48 _ hi2, rd_get hi2, (List.cons.inj hd2).1]
  have hw : wrap64 ((i : Int) + 1) = ((i + 1 : Nat) : Int) := by rw [wrap64_id (by omega) (by omega)]; omega
  have hna := hA a List.mem_cons_self
  have I := ih B (i + 1) (by clear hw; rw [List.length_cons] at hi; omega) (List.cons.inj hd2).2 (fun y hy => hA y (List.mem_cons_of_mem _ hy))
  have go : ∀ V, Ev (fun k => quoinref13_holding.l0 k (L.map c48) p ((i + 1 : Nat) : Int)) V → Ev (fun k => quoinref13_holding.l0 k (L.map c48) p (i : Int)) V := by
   intro V h
   refine Ev.step (fun _ => quoinref13_holding.l0.eq_2 ..) (Ev.pos (by rw [hlm]; clear hw; omega) (Ev.pos (by clear hw; omega) ?_))
   rw [ha, hw]
   by_cases h1 : a.f0 ≤ p
   ·refine Ev.pos h1 ?_
    exact Ev.neg (fun h2 => hna ⟨h1, h2⟩) h
   ·exact Ev.neg h1 h
  refine ⟨fun hB => go _ (I.1 hB), fun z C hB h1 h2 => ?_⟩
  have h3 := go _ (I.2 z C hB h1 h2)
  rw [show i + (a :: A).length = i + 1 + A.length from by rw [List.length_cons]; omega]
  exact h3
/-- A chain's stretch that holds p, or none does. -/
theorem hold_ev {C : Nat → Int} {s e p : Nat} {L : List S76} (h : Ch C e s L) (hL : L.length ≤ 2000000) (kx : Int) : (fk (p : Int) kx 0 L = kx ∧ (∀ y ∈ L, ¬ (y.f0 ≤ (p : Int) ∧ (p : Int) < y.f1)) ∧ Ev (fun k => quoinref13_holding.f k (L.map c48) (p : Int)) (-1)) ∨
  (∃ i : Nat, i < L.length ∧ fk (p : Int) kx 0 L = (i : Int) ∧ Ev (fun k => quoinref13_holding.f k (L.map c48) (p : Int)) (i : Int)) := by
 by_cases hp : s ≤ p ∧ p < e
 ·obtain ⟨A, x, B, e1, e2, e3⟩ := Ch_at h hp.1 hp.2
  have hk := fk_at (kx := kx) (by rw [← e1]; exact h) e2 e3
  have hsp := Ch_split (by rw [← e1]; exact h : Ch C e s (A ++ x :: B))
  obtain ⟨m, _, _, m3, ⟨n, n0, _⟩, _⟩ := hsp
  have hA : ∀ y ∈ A, ¬ (y.f0 ≤ (p : Int) ∧ (p : Int) < y.f1) := fun y hy => by have := m3 y hy; omega
  have hev := (hold_l0 (p := (p : Int)) hL (x := x) A (x :: B) 0 (by rw [e1, List.length_append]; omega) (by rw [List.drop_zero]; exact e1) hA).2 x B rfl e2 e3
  rw [Nat.zero_add] at hev
  refine .inr ⟨A.length, by rw [e1, List.length_append, List.length_cons]; omega, by rw [e1]; exact hk, hev⟩
 ·have hno : ∀ y ∈ L, ¬ (y.f0 ≤ (p : Int) ∧ (p : Int) < y.f1) := fun y hy => by have := Ch_mem h y hy; omega
  refine .inl ⟨fk_no hno, hno, ?_⟩
  exact (hold_l0 (p := (p : Int)) hL (x := ⟨0, 0, false⟩) L [] 0 (by omega) (by rw [List.drop_zero, List.append_nil]) hno).1 rfl
def rT (L : List S76) : Option (Nat × Nat) → Int × Int × Bool × Int
 | none => (0, 0, false, 130)
 | some x => ((rd_T76 L (x.1 : Int)).f0, (rd_T76 L ((x.2 : Int) - 1)).f1, false, 0)
theorem inner_ev {L : List S76} {p : Int} {i c : Nat} (hL : L.length ≤ 2000000) (hi : i < L.length) (h1 : 1 ≤ c) (h2 : c ≤ 9999) (hh : Ev (fun k => quoinref13_holding.f k (L.map c48) p) (i : Int)) : Ev (fun k => quoinref13_inner.f k (L.map c48) p (c : Int)) (rT L (takenV L i c false)) := by
 have hlm : (L.map c48).length = L.length := List.length_map _
 have hw : wrap64 ((i : Int) + (c : Int)) = ((i + c : Nat) : Int) := by rw [wrap64_id (by omega) (by omega)]; omega
 have hw2 : wrap64 (((i + c : Nat) : Int) - 1) = ((i + c - 1 : Nat) : Int) := by clear hw; rw [wrap64_id (by omega) (by omega)]; omega
 refine Ev.bind hh (Ev.neg (by clear hw hw2; omega) ?_)
 rw [hw, hw2, hlm]
 clear hw hw2
 by_cases h : i + c ≤ L.length
 ·rw [show takenV L i c false = some (i, i + c) from (if_neg Bool.false_ne_true).trans (if_pos h)]
  refine Ev.neg (by omega) (Ev.pos (by omega) (Ev.pos (by omega) (Ev.pos (by omega) (Ev.pos (by omega) ?_))))
  rw [rd48 _ hi, rd48 _ (by omega)]
  show Ev _ ((rd_T76 L (i : Int)).f0, (rd_T76 L (((i + c : Nat) : Int) - 1)).f1, false, (0 : Int))
  rw [show ((i + c : Nat) : Int) - 1 = ((i + c - 1 : Nat) : Int) from by omega]
  exact Ev.now _
 ·rw [show takenV L i c false = none from (if_neg Bool.false_ne_true).trans (if_neg h)]
  exact Ev.pos (by omega) (Ev.now _)
theorem none_ev {L : List S76} {p : Int} {c : Int} (hh : Ev (fun k => quoinref13_holding.f k (L.map c48) p) (-1)) : Ev (fun k => quoinref13_inner.f k (L.map c48) p c) (0, 0, false, 130) ∧ True :=
 ⟨Ev.bind hh (Ev.pos (by decide) (Ev.now _)), trivial⟩
end Go.Proofs.YtcochbkdgjgaeaaDoor.OR1
end
section
namespace Go.Proofs.YtcochbkdgjgaeaaDoor.OR2
open Go.RowKit Go.Proofs.YtcochbkdgjgaeaaDoorW.PrintWords Go.Proofs.YtcochbkdgjgaeaaDoorW.PrintMore Go.Proofs.YtcochbkdgjgaeaaDoor.X Go.Proofs.YtcochbkdgjgaeaaDoor.XL Go.Proofs.YtcochbkdgjgaeaaDoor.XO Go.Proofs.YtcochbkdgjgaeaaDoor.LN Go.Proofs.YtcochbkdgjgaeaaDoor.OB Go.Proofs.YtcochbkdgjgaeaaDoor.OB2 Go.Proofs.YtcochbkdgjgaeaaDoor.OVB Go.Proofs.YtcochbkdgjgaeaaDoor.OVQ Go.Proofs.YtcochbkdgjgaeaaDoor.OVW Go.Proofs.YtcochbkdgjgaeaaDoor.OR Go.Proofs.YtcochbkdgjgaeaaDoor.OR1
set_option linter.unusedVariables false
/-- How many backslashes stand right ahead of place i, from s on. -/
def slb (t : List Int) (s : Nat) : Nat → Nat
 | 0 => 0
 | i + 1 => if s ≤ i ∧ t.getD i 0 = 92 then slb t s i + 1 else 0
theorem slb_le (t : List Int) (s : Nat) : ∀ i, slb t s i ≤ i
 | 0 => Nat.le_refl _
 | i + 1 => by
  unfold slb
  have := slb_le t s i
  split <;> omega
theorem slb_low (t : List Int) {s i : Nat} (h : i ≤ s) : slb t s i = 0 := by
 cases i with
 | zero => rfl
 | succ i => exact if_neg (fun h2 => by omega)
section
variable {t : List Int} (hl : t.length ≤ 1048576)
include hl
theorem quotes_l1 {s e i : Nat} {q : Int} {acc : List Int} {V : List Int} (hsi : s ≤ i) (hie : i < e) (he : e ≤ t.length)
  (h : Ev (fun k => if 0 ≤ (i : Int) then (if (i : Int) < (t.length : Int) then (if (rd t (i : Int)) = q then (if (Int.tmod ((slb t s i : Nat) : Int) 2) = 0 then (if acc.length < 17592186044416 then (quoinref13_quotes.l0 k t (s : Int) (e : Int) q (acc ++ [(i : Int)]) (wrap64 ((i : Int) + 1))) else (none)) else (quoinref13_quotes.l0 k t (s : Int) (e : Int) q acc (wrap64 ((i : Int) + 1)))) else (quoinref13_quotes.l0 k t (s : Int) (e : Int) q acc (wrap64 ((i : Int) + 1)))) else (none)) else (none)) V) :
  ∀ (d n : Nat), n + d = slb t s i → (n ≤ i) → slb t s (i - n) = d → Ev (fun k => quoinref13_quotes.l1 k t (s : Int) (e : Int) q acc (i : Int) (n : Int)) V := by
 intro d
 induction d with
 | zero =>
  intro n hn hni hd
  have hne : n = slb t s i := by omega
  have hw1 : wrap64 ((i : Int) - 1) = (i : Int) - 1 := wrap64_id (by omega) (by omega)
  have hw2 : wrap64 ((i : Int) - 1 - (n : Int)) = (i : Int) - 1 - (n : Int) := by clear hw1; exact wrap64_id (by omega) (by omega)
  refine Ev.step (fun _ => quoinref13_quotes.l1.eq_2 ..) ?_
  rw [hw1, hw2]
  clear hw1 hw2
  rw [← hne] at h
  by_cases hlow : i - n ≤ s
  ·exact Ev.neg (by omega) h
  ·obtain ⟨j, hj⟩ : ∃ j, i - n = j + 1 := ⟨i - n - 1, by omega⟩
   have e1 : (i : Int) - 1 - (n : Int) = (j : Int) := by omega
   have hb : ¬ t.getD j 0 = 92 := by
    intro hb
    rw [hj] at hd
    unfold slb at hd
    rw [if_pos ⟨by omega, hb⟩] at hd
    omega
   rw [e1]
   refine Ev.pos (by omega) (Ev.pos (by omega) (Ev.pos (by omega) ?_))
   rw [OR.rd_at]
   exact Ev.neg hb h
 | succ d ih =>
  intro n hn hni hd
  obtain ⟨j, hj⟩ : ∃ j, i - n = j + 1 := by
   cases e : i - n with
   | zero => rw [e] at hd; unfold slb at hd; omega
   | succ j => exact ⟨j, rfl⟩
  rw [hj] at hd
  have hj2 : s ≤ j ∧ t.getD j 0 = 92 ∧ slb t s j = d := by
   unfold slb at hd
   by_cases h2 : s ≤ j ∧ t.getD j 0 = 92
   ·rw [if_pos h2] at hd; exact ⟨h2.1, h2.2, by omega⟩
   ·rw [if_neg h2] at hd; omega
  have hw1 : wrap64 ((i : Int) - 1) = (i : Int) - 1 := wrap64_id (by omega) (by omega)
  have hw2 : wrap64 ((i : Int) - 1 - (n : Int)) = (j : Int) := by clear hw1; rw [wrap64_id (by omega) (by omega)]; omega
  have hw3 : wrap64 ((n : Int) + 1) = ((n + 1 : Nat) : Int) := by clear hw1 hw2; rw [wrap64_id (by omega) (by omega)]; omega
  refine Ev.step (fun _ => quoinref13_quotes.l1.eq_2 ..) ?_
  rw [hw1, hw2, hw3]
  clear hw1 hw2 hw3
  refine Ev.pos (by omega) (Ev.pos (by omega) (Ev.pos (by omega) ?_))
  rw [OR.rd_at]
  exact Ev.pos hj2.2.1 (ih (n + 1) (by omega) (by omega) (by rw [show i - (n + 1) = j from by omega]; exact hj2.2.2))
theorem quotes_l0 {s e : Nat} {q : Int} (he : e ≤ t.length) : ∀ (l : List Int) (i : Nat) (acc : List Int), (t.take e).drop i = l → i ≤ e → s ≤ i → acc.length ≤ i → Ev (fun k => quoinref13_quotes.l0 k t (s : Int) (e : Int) q acc (i : Int)) (acc ++ (qlist q l i (slb t s i)).map fun n : Nat => (n : Int)) := by
 have hlen : (t.take e).length = e := by rw [List.length_take]; omega
 intro l
 induction l with
 | nil =>
  intro i acc hd hie hsi _
  have hi : i = e := by
   have h := congrArg List.length hd
   rw [List.length_drop, hlen, List.length_nil] at h
   omega
  refine Ev.eq (Ev.step (fun _ => quoinref13_quotes.l0.eq_2 ..) (Ev.neg (by omega) (Ev.now acc))) ?_
  simp [qlist]
 | cons c l ih =>
  intro i acc hd hie hsi ha
  have hi : i < e := by
   have h := congrArg List.length hd
   rw [List.length_drop, hlen, List.length_cons] at h
   omega
  have hd' := hd
  rw [List.drop_eq_getElem_cons (by rw [hlen]; exact hi)] at hd'
  have hd2 : (t.take e).drop (i + 1) = l := (List.cons.inj hd').2
  have hc : t.getD i 0 = c := by
   have h := (List.cons.inj hd').1
   rw [List.getElem_take] at h
   rw [List.getD_eq_getElem?_getD, List.getElem?_eq_getElem (by omega)]
   exact h
  have hsl : slb t s (i + 1) = if c = 92 then slb t s i + 1 else 0 := by
   show (if s ≤ i ∧ t.getD i 0 = 92 then slb t s i + 1 else 0) = _
   rw [hc]
   by_cases h : c = 92
   ·rw [if_pos ⟨hsi, h⟩, if_pos h]
   ·rw [if_neg (fun x => h x.2), if_neg h]
  have hw : wrap64 ((i : Int) + 1) = ((i + 1 : Nat) : Int) := by rw [wrap64_id (by omega) (by omega)]; omega
  have sl := slb_le t s i
  refine Ev.step (fun _ => quoinref13_quotes.l0.eq_2 ..) (Ev.pos (by clear hw; omega) (quotes_l1 hl (n := 0) hsi hi he ?_ (slb t s i) (Nat.zero_add _) (Nat.zero_le _) (by rw [Nat.sub_zero])))
  rw [OR.rd_at, hc, hw]
  refine Ev.pos (by clear hw; omega) (Ev.pos (by clear hw; omega) ?_)
  have stay := ih (i + 1) acc hd2 (by clear hw; omega) (by clear hw; omega) (by clear hw; omega)
  rw [hsl] at stay
  by_cases hq : c = q
  ·refine Ev.pos hq ?_
   by_cases hm : slb t s i % 2 = 0
   ·refine Ev.pos (by rw [show Int.tmod ((slb t s i : Nat) : Int) 2 = ((slb t s i % 2 : Nat) : Int) from rfl, hm]; rfl) (Ev.pos (by clear hw; omega) ?_)
    have h2 := ih (i + 1) (acc ++ [(i : Int)]) hd2 (by clear hw; omega) (by clear hw; omega) (by clear hw; rw [List.length_append, List.length_singleton]; omega)
    rw [hsl] at h2
    rw [show qlist q (c :: l) i (slb t s i) = i :: qlist q l (i + 1) (if c = 92 then slb t s i + 1 else 0) from if_pos ⟨hq, hm⟩]
    rw [List.append_assoc] at h2
    exact h2
   ·refine Ev.neg (by rw [show Int.tmod ((slb t s i : Nat) : Int) 2 = ((slb t s i % 2 : Nat) : Int) from rfl]; clear hw; omega) ?_
    rw [show qlist q (c :: l) i (slb t s i) = qlist q l (i + 1) (if c = 92 then slb t s i + 1 else 0) from if_neg (fun x => hm x.2)]
    exact stay
  ·refine Ev.neg hq ?_
   rw [show qlist q (c :: l) i (slb t s i) = qlist q l (i + 1) (if c = 92 then slb t s i + 1 else 0) from if_neg (fun x => hq x.1)]
   exact stay
theorem quotes_ev {s e : Nat} {q : Int} (hse : s ≤ e) (he : e ≤ t.length) : Ev (fun k => quoinref13_quotes.f k t (s : Int) (e : Int) q) ((lineQ t q s e).map fun n : Nat => (n : Int)) := by
 have h := quotes_l0 hl (q := q) (s := s) he _ s [] rfl hse (Nat.le_refl _) (Nat.zero_le _)
 rw [slb_low t (Nat.le_refl s), List.nil_append] at h
 exact h
omit hl in
theorem blank_eq (b : Int) : quoinref13_blank.f b = some (bl b) := by
 unfold quoinref13_blank.f bl
 by_cases h : b = 32
 ·rw [if_pos h, h]; rfl
 ·rw [if_neg h, show (b == 32) = false from beq_eq_false_iff_ne.2 h]; rfl
theorem rl2_ev {s : Nat} {x17 : Int} : ∀ (d i : Nat), s + d = i → i ≤ t.length → Ev (fun k => quoinref13_quoted.l2 k t (s : Int) (i : Int) x17) (((downB t d i : Nat) : Int), x17, false, 0) := by
 intro d
 induction d with
 | zero =>
  intro i hi hit
  exact Ev.step (fun _ => quoinref13_quoted.l2.eq_2 ..) (Ev.neg (by omega) (Ev.now _))
 | succ d ih =>
  intro i hi hit
  have hw : wrap64 ((i : Int) - 1) = ((i - 1 : Nat) : Int) := by rw [wrap64_id (by omega) (by omega)]; omega
  refine Ev.step (fun _ => quoinref13_quoted.l2.eq_2 ..) (Ev.pos (by clear hw; omega) ?_)
  rw [hw]
  clear hw
  refine Ev.pos (by omega) (Ev.pos (by omega) ?_)
  rw [OR.rd_at]
  refine Ev.cbind (blank_eq _) ?_
  by_cases h : bl (t.getD (i - 1) 0) = true
  ·rw [show downB t (d + 1) i = downB t d (i - 1) from if_pos h]
   exact Ev.pos h (ih (i - 1) (by omega) (by omega))
  ·rw [show downB t (d + 1) i = i from if_neg h]
   exact Ev.neg h (Ev.now _)
theorem rl1_ev {s e a b j : Nat} {L : List Int} (hj : j + 1 < L.length) (hL : L.length ≤ 1048576) (hb : rd L ((j + 1 : Nat) : Int) = (b : Int)) (hsa : s ≤ a) (hab : a < b) (hbe : b < e) (he : e ≤ t.length) : ∀ (d i : Nat), i + d = e → b < i → Ev (fun k => quoinref13_quoted.l1 k t (s : Int) (e : Int) L (j : Int) (a : Int) (i : Int)) (if upB t d i = b + 1 then (((downB t (a - s) a : Nat) : Int), ((b + 1 : Nat) : Int), false, 0) else ((a : Int), ((upB t d i : Nat) : Int), false, 0)) := by
 have fini : ∀ i : Nat, b < i → Ev (fun k => quoinref13_quoted.j2 k t (s : Int) L (j : Int) (a : Int) (i : Int)) (if i = b + 1 then (((downB t (a - s) a : Nat) : Int), ((b + 1 : Nat) : Int), false, 0) else ((a : Int), (i : Int), false, 0)) := by
  intro i hi
  have hw1 : wrap64 ((j : Int) + 1) = ((j + 1 : Nat) : Int) := by rw [wrap64_id (by omega) (by omega)]; omega
  have hw : wrap64 ((b : Int) + 1) = ((b + 1 : Nat) : Int) := by clear hw1; rw [wrap64_id (by omega) (by omega)]; omega
  refine Ev.step (fun _ => quoinref13_quoted.j2.eq_2 ..) ?_
  rw [hw1, hb, hw]
  clear hw hw1
  refine Ev.pos (by omega) (Ev.pos (by omega) ?_)
  by_cases h : i = b + 1
  ·subst h
   have e1 : (if b + 1 = b + 1 then (((downB t (a - s) a : Nat) : Int), ((b + 1 : Nat) : Int), false, (0 : Int)) else ((a : Int), ((b + 1 : Nat) : Int), false, 0)) = (((downB t (a - s) a : Nat) : Int), ((b + 1 : Nat) : Int), false, 0) := if_pos rfl
   rw [e1]
   exact Ev.pos rfl (rl2_ev hl (a - s) a (by omega) (by omega))
  ·have e1 : (if i = b + 1 then (((downB t (a - s) a : Nat) : Int), ((b + 1 : Nat) : Int), false, (0 : Int)) else ((a : Int), (i : Int), false, 0)) = ((a : Int), (i : Int), false, 0) := if_neg h
   rw [e1]
   exact Ev.neg (by omega) (Ev.now _)
 intro d
 induction d with
 | zero =>
  intro i hi hbi
  exact Ev.step (fun _ => quoinref13_quoted.l1.eq_2 ..) (Ev.neg (by omega) (fini i hbi))
 | succ d ih =>
  intro i hi hbi
  have hw : wrap64 ((i : Int) + 1) = ((i + 1 : Nat) : Int) := by rw [wrap64_id (by omega) (by omega)]; omega
  refine Ev.step (fun _ => quoinref13_quoted.l1.eq_2 ..) (Ev.pos (by clear hw; omega) (Ev.pos (by clear hw; omega) (Ev.pos (by clear hw; omega) ?_)))
  rw [OR.rd_at, hw]
  clear hw
  refine Ev.cbind (blank_eq _) ?_
  by_cases h : bl (t.getD i 0) = true
  ·rw [show upB t (d + 1) i = upB t d (i + 1) from if_pos h]
   exact Ev.pos h (ih (i + 1) (by omega) (by omega))
  ·rw [show upB t (d + 1) i = i from if_neg h]
   exact Ev.neg h (fini i hbi)
/-- The second account's answer of the first's. -/
def rV (r : Int × Int × Bool) : Int × Int × Bool × Int := if r.2.2 = true then (r.1, r.2.1, false, 0) else (0, 0, false, 130)
theorem rquoted_l0 {s e p : Nat} {around : Bool} {L : List Nat} (hL : L.length ≤ 1048576) (hpw : L.Pairwise (· < ·)) (hin : ∀ x ∈ L, s ≤ x ∧ x < e) (he : e ≤ t.length) : ∀ (n j : Nat) (R : List Nat), R.length ≤ n → L.drop j = R → j ≤ L.length → Ev (fun k => quoinref13_quoted.l0 k t (p : Int) (s : Int) (e : Int) around (L.map fun n : Nat => (n : Int)) (j : Int)) (rV (quoV t s e around (fp p R))) := by
 have hlm : (L.map fun n : Nat => (n : Int)).length = L.length := List.length_map _
 have rdL : ∀ k (h : k < L.length), rd (L.map fun n : Nat => (n : Int)) (k : Int) = ((L[k] : Nat) : Int) := by
  intro k h
  unfold rd
  rw [Int.toNat_natCast, List.getD_eq_getElem?_getD, List.getElem?_map, List.getElem?_eq_getElem h]
  rfl
 intro n
 induction n with
 | zero =>
  intro j R hR hd hj
  have hRn : R = [] := List.eq_nil_of_length_eq_zero (by omega)
  subst hRn
  have h1 : L.length ≤ j := List.drop_eq_nil_iff.1 hd
  have hw : wrap64 ((j : Int) + 1) = ((j + 1 : Nat) : Int) := by rw [wrap64_id (by omega) (by omega)]; omega
  refine Ev.step (fun _ => quoinref13_quoted.l0.eq_2 ..) ?_
  rw [hw, hlm]
  clear hw
  exact Ev.neg (by omega) (Ev.now _)
 | succ n ih =>
  intro j R hR hd hj
  have hw : wrap64 ((j : Int) + 1) = ((j + 1 : Nat) : Int) := by rw [wrap64_id (by omega) (by omega)]; omega
  have hw2 : wrap64 ((j : Int) + 2) = ((j + 2 : Nat) : Int) := by clear hw; rw [wrap64_id (by omega) (by omega)]; omega
  refine Ev.step (fun _ => quoinref13_quoted.l0.eq_2 ..) ?_
  rw [hw, hw2]
  clear hw hw2
  match R, hR, hd with
  | [], _, hd =>
   have h1 : L.length ≤ j := List.drop_eq_nil_iff.1 hd
   rw [hlm]
   exact Ev.neg (by omega) (Ev.now _)
  | [x], _, hd =>
   have h1 := congrArg List.length hd
   rw [List.length_drop, List.length_singleton] at h1
   rw [hlm]
   exact Ev.neg (by omega) (Ev.now _)
  | a :: b :: r, hR, hd =>
   have h1 := congrArg List.length hd
   rw [List.length_drop, List.length_cons, List.length_cons] at h1
   have hd1 := hd
   rw [List.drop_eq_getElem_cons (show j < L.length by omega)] at hd1
   have ha : L[j] = a := (List.cons.inj hd1).1
   have hd2 := (List.cons.inj hd1).2
   rw [List.drop_eq_getElem_cons (show j + 1 < L.length by omega)] at hd2
   have hb : L[j + 1] = b := (List.cons.inj hd2).1
   have hd3 : L.drop (j + 2) = r := (List.cons.inj hd2).2
   have ra := rdL j (by omega)
   have rb := rdL (j + 1) (by omega)
   rw [ha] at ra
   rw [hb] at rb
   have hab : a < b := by
    have := List.pairwise_iff_getElem.1 hpw j (j + 1) (by omega) (by omega) (by omega)
    rw [ha, hb] at this
    exact this
   have ma := hin a (by rw [← ha]; exact List.getElem_mem _)
   have mb := hin b (by rw [← hb]; exact List.getElem_mem _)
   refine Ev.pos (by rw [hlm]; omega) (Ev.pos (by omega) ?_)
   rw [rb]
   by_cases hbp : b < p
   ·rw [show fp p (a :: b :: r) = fp p r from if_pos hbp]
    exact Ev.pos (by omega) (ih (j + 2) r (by rw [List.length_cons, List.length_cons] at hR; omega) hd3 (by omega))
   ·rw [show fp p (a :: b :: r) = some (a, b) from if_neg hbp]
    refine Ev.neg (by omega) ?_
    cases around with
    | true =>
     have hw3 : wrap64 ((b : Int) + 1) = ((b + 1 : Nat) : Int) := by rw [wrap64_id (by omega) (by omega)]; omega
     refine Ev.pos rfl (Ev.pos (by clear hw3; omega) (Ev.pos (by rw [hlm]; clear hw3; omega) ?_))
     rw [ra, hw3]
     clear hw3
     refine Ev.eq (rl1_ev hl (by rw [hlm]; omega) (by rw [hlm]; exact hL) rb ma.1 hab mb.2 he (e - (b + 1)) (b + 1) (by omega) (by omega)) ?_
     show _ = rV (if upB t (e - (b + 1)) (b + 1) = b + 1 then (((downB t (a - s) a : Nat) : Int), ((b + 1 : Nat) : Int), true) else ((a : Int), ((upB t (e - (b + 1)) (b + 1) : Nat) : Int), true))
     by_cases h : upB t (e - (b + 1)) (b + 1) = b + 1
     ·rw [if_pos h, if_pos h]; rfl
     ·rw [if_neg h, if_neg h]; rfl
    | false =>
     have hw3 : wrap64 ((a : Int) + 1) = ((a + 1 : Nat) : Int) := by rw [wrap64_id (by omega) (by omega)]; omega
     refine Ev.neg Bool.false_ne_true (Ev.pos (by clear hw3; omega) (Ev.pos (by rw [hlm]; clear hw3; omega) ?_))
     rw [ra, hw3]
     exact Ev.now _
theorem rquoted_ev {s e p : Nat} (hse : s ≤ e) (he : e ≤ t.length) (q : Int) (around : Bool) : Ev (fun k => quoinref13_quoted.f k t (p : Int) (s : Int) (e : Int) q around) (rV (quoV t s e around (fp p (lineQ t q s e)))) := by
 have hlen : ((t.take e).drop s).length = e - s := by rw [List.length_drop, List.length_take]; omega
 have hin : ∀ x ∈ lineQ t q s e, s ≤ x ∧ x < e := fun x hx => by
  obtain ⟨h1, h2, _⟩ := qlist_mem _ _ _ _ x hx
  rw [hlen] at h2
  omega
 have hpw : (lineQ t q s e).Pairwise (· < ·) := qlist_pw _ _ _ _
 have hL : (lineQ t q s e).length ≤ 1048576 := by
  have h : ∀ (l : List Int) (i sl : Nat), (qlist q l i sl).length ≤ l.length := by
   intro l
   induction l with
   | nil => intro i sl; exact Nat.le_refl _
   | cons c l ih =>
    intro i sl
    unfold qlist
    have := ih (i + 1) (if c = 92 then sl + 1 else 0)
    split <;> (simp only [List.length_cons]; omega)
  have h2 := h ((t.take e).drop s) s 0
  unfold lineQ
  omega
 exact Ev.bind (quotes_ev hl hse he) (rquoted_l0 hl (p := p) (around := around) hL hpw hin he _ 0 _ (Nat.le_refl _) (List.drop_zero) (Nat.zero_le _))
/-! ### brackets -/
omit hl in
def p48 (x : Nat × Nat) : S48 := ⟨(x.1 : Int), (x.2 : Int), false⟩
theorem pairs_l0 {op cl : Int} (hne : op ≠ cl) : ∀ (l : List Int) (i : Nat) (st : List Nat) (acc : List S48), t.drop i = l → st.length ≤ i → acc.length ≤ i → Ev (fun k => quoinref13_pairs.l0 k t op cl acc (stI st) (i : Int)) (acc ++ (prs op cl l i st).map p48) := by
 intro l
 induction l with
 | nil =>
  intro i st acc hd _ _
  have hi : t.length ≤ i := List.drop_eq_nil_iff.1 hd
  refine Ev.eq (Ev.step (fun _ => quoinref13_pairs.l0.eq_2 ..) (Ev.neg (by omega) (Ev.now acc))) ?_
  simp [prs]
 | cons b l ih =>
  intro i st acc hd hsl ha
  obtain ⟨hi, hb, hd2⟩ := at_drop hd
  have hlen := stI_len st
  have hw : wrap64 ((i : Int) + 1) = ((i + 1 : Nat) : Int) := by rw [wrap64_id (by omega) (by omega)]; omega
  have b3 : (stI st).length < 17592186044416 := by clear hw; omega
  have b4 : acc.length < 5864062014805 := by clear hw; omega
  refine Ev.step (fun _ => quoinref13_pairs.l0.eq_2 ..) (Ev.pos (by clear hw; omega) (Ev.pos (by clear hw; omega) ?_))
  rw [hb, hw]
  by_cases h1 : b = op
  ·refine Ev.pos h1 (Ev.pos b3 (Ev.cbind rfl (Ev.neg (fun h2 => hne (h1.symm.trans h2)) ?_)))
   rw [show prs op cl (b :: l) i st = prs op cl l (i + 1) (i :: st) from if_pos h1, ← stI_cons]
   exact ih (i + 1) (i :: st) acc hd2 (by rw [List.length_cons]; clear hw; omega) (by clear hw; omega)
  ·refine Ev.neg h1 ?_
   by_cases h2 : b = cl
   ·refine Ev.pos h2 ?_
    cases st with
    | nil =>
     rw [show prs op cl (b :: l) i [] = prs op cl l (i + 1) [] from (if_neg h1).trans (if_pos h2)]
     exact Ev.neg (by decide) (ih (i + 1) [] acc hd2 (Nat.zero_le _) (by clear hw; omega))
    | cons o st =>
     have hll : (stI (o :: st)).length = st.length + 1 := hlen
     have hsl2 : st.length + 1 ≤ i := hsl
     have hwl : wrap64 (((stI (o :: st)).length : Int) - 1) = (st.length : Int) := by rw [hll, wrap64_id (by clear hw; omega) (by clear hw; omega)]; clear hw; omega
     have htk : (stI (o :: st)).take ((st.length : Int)).toNat = stI st := by rw [Int.toNat_natCast, stI_cons, ← stI_len st, List.take_left]
     have hrd : rd (stI (o :: st)) (st.length : Int) = (o : Int) := by
      unfold rd
      rw [Int.toNat_natCast, stI_cons, ← stI_len st]
      exact getD_mid _ _ _ _
     refine Ev.pos (by rw [hll]; clear hw hwl; omega) ?_
     rw [hwl, htk, hrd]
     refine Ev.pos (by clear hw hwl; omega) (Ev.pos (by rw [hll]; clear hw hwl; omega) (Ev.pos b4 (Ev.pos (by rw [hll]; clear hw hwl; omega) ?_)))
     rw [show prs op cl (b :: l) i (o :: st) = (o, i) :: prs op cl l (i + 1) st from (if_neg h1).trans (if_pos h2)]
     have h3 := ih (i + 1) st (acc ++ [p48 (o, i)]) hd2 (by clear hw hwl; omega) (by rw [List.length_append, List.length_singleton]; clear hw hwl; omega)
     rw [List.append_assoc] at h3
     exact h3
   ·rw [show prs op cl (b :: l) i st = prs op cl l (i + 1) st from (if_neg h1).trans (if_neg h2)]
    exact Ev.neg h2 (ih (i + 1) st acc hd2 (by clear hw; omega) (by clear hw; omega))
omit hl in
theorem rbr_l0 {p : Nat} {around : Bool} {L : List (Nat × Nat)} (hL : L.length ≤ 1048576) (hin : ∀ x ∈ L, x.1 < 1048576 ∧ x.2 < 1048576) : ∀ (R : List (Nat × Nat)) (j c : Nat), L.drop j = R → c + 1 ≤ 9999 → Ev (fun k => quoinref13_bracketed.l0 k (p : Int) ((c + 1 : Nat) : Int) around (L.map p48) (j : Int)) (rV (brkV around ((R.filter (inP p))[c]?))) := by
 have hlm : (L.map p48).length = L.length := List.length_map _
 intro R
 induction R with
 | nil =>
  intro j c hd _
  have hj : L.length ≤ j := List.drop_eq_nil_iff.1 hd
  exact Ev.step (fun _ => quoinref13_bracketed.l0.eq_2 ..) (Ev.neg (by rw [hlm]; omega) (Ev.now _))
 | cons x R ih =>
  intro j c hd hc
  have hj : j < L.length := by
   have h := congrArg List.length hd
   rw [List.length_drop, List.length_cons] at h
   omega
  have hd1 := hd
  rw [List.drop_eq_getElem_cons hj] at hd1
  have hx : L[j] = x := (List.cons.inj hd1).1
  have hd2 : L.drop (j + 1) = R := (List.cons.inj hd1).2
  obtain ⟨m1, m2⟩ := hin x (by rw [← hx]; exact List.getElem_mem _)
  have hrd : rd_T48 (L.map p48) (j : Int) = p48 x := by
   unfold rd_T48
   rw [Int.toNat_natCast, List.getD_eq_getElem?_getD, List.getElem?_map, List.getElem?_eq_getElem hj, ← hx]
   rfl
  have hw : wrap64 ((j : Int) + 1) = ((j + 1 : Nat) : Int) := by rw [wrap64_id (by omega) (by omega)]; omega
  refine Ev.step (fun _ => quoinref13_bracketed.l0.eq_2 ..) (Ev.pos (by rw [hlm]; clear hw; omega) (Ev.pos (by clear hw; omega) ?_))
  rw [hrd]
  obtain ⟨o, q⟩ := x
  simp only at m1 m2
  show Ev (fun k => if ((o : Nat) : Int) > (p : Int) then _ else _) _
  have no : inP p (o, q) = false → Ev (fun k => quoinref13_bracketed.j1 k (p : Int) ((c + 1 : Nat) : Int) around (L.map p48) (j : Int) true) (rV (brkV around ((((o, q) :: R).filter (inP p))[c]?))) := by
   intro h
   rw [List.filter_cons_of_neg (by rw [h]; exact Bool.false_ne_true)]
   refine Ev.step (fun _ => quoinref13_bracketed.j1.eq_2 ..) (Ev.pos rfl ?_)
   rw [hw]
   exact ih (j + 1) c hd2 hc
  by_cases h3 : (o : Int) > (p : Int)
  ·exact Ev.pos h3 (no (inP_false (by clear hw; simp only; omega)))
  ·refine Ev.neg h3 ?_
   show Ev (fun k => quoinref13_bracketed.j1 k (p : Int) ((c + 1 : Nat) : Int) around (L.map p48) (j : Int) (decide ((p : Int) > ((q : Nat) : Int)))) _
   by_cases h4 : (p : Int) > (q : Int)
   ·rw [decide_eq_true h4]
    exact no (inP_false (by clear hw; simp only; omega))
   ·rw [decide_eq_false h4]
    have hin : inP p (o, q) = true := (inP_iff _ _).2 (by clear hw; simp only; omega)
    have hwc : wrap64 (((c + 1 : Nat) : Int) - 1) = (c : Int) := by clear hw; rw [wrap64_id (by omega) (by omega)]; omega
    refine Ev.step (fun _ => quoinref13_bracketed.j1.eq_2 ..) (Ev.neg Bool.false_ne_true ?_)
    rw [List.filter_cons_of_pos hin, hwc, hw, hrd, hlm]
    clear hw hwc
    cases c with
    | zero =>
     have hw1 : wrap64 ((o : Int) + 1) = (o : Int) + 1 := wrap64_id (by omega) (by omega)
     have hw2 : wrap64 ((q : Int) + 1) = (q : Int) + 1 := by clear hw1; exact wrap64_id (by omega) (by omega)
     have f0 : (p48 (o, q)).f0 = (o : Int) := rfl
     have f1 : (p48 (o, q)).f1 = (q : Int) := rfl
     rw [f0, f1, hw1, hw2]
     clear hw1 hw2
     refine Ev.neg (by omega) ?_
     cases around with
     | true => exact Ev.pos rfl (Ev.pos (by omega) (Ev.pos (by omega) (Ev.now _)))
     | false => exact Ev.neg Bool.false_ne_true (Ev.pos (by omega) (Ev.pos (by omega) (Ev.now _)))
    | succ c => exact Ev.pos (by omega) (ih (j + 1) c hd2 (by omega))
theorem rbracketed_ev {op cl : Int} (hne : op ≠ cl) {p c : Nat} (hc : c + 1 ≤ 9999) (around : Bool) : Ev (fun k => quoinref13_bracketed.f k t (p : Int) ((c + 1 : Nat) : Int) op cl around) (rV (brkV around (nthP op cl t p c))) := by
 have h1 := pairs_l0 hl hne t 0 [] [] rfl (Nat.zero_le _) (Nat.zero_le _)
 rw [List.nil_append] at h1
 have hin : ∀ x ∈ prs op cl t 0 [], x.1 < 1048576 ∧ x.2 < 1048576 := fun x hx => by have := (prs_all t).1 x hx; omega
 have hL : (prs op cl t 0 []).length ≤ 1048576 := by
  have h : ∀ (l : List Int) (i : Nat) (st : List Nat), (prs op cl l i st).length ≤ l.length := by
   intro l
   induction l with
   | nil => intro i st; exact Nat.le_refl _
   | cons b l ih =>
    intro i st
    unfold prs
    split
    ·have := ih (i + 1) (i :: st); simp only [List.length_cons]; omega
    ·split
     ·cases st with
      | nil => have := ih (i + 1) []; simp only [List.length_cons]; omega
      | cons o st => have := ih (i + 1) st; simp only [List.length_cons]; omega
     ·have := ih (i + 1) st; simp only [List.length_cons]; omega
  have := h t 0 []
  omega
 exact Ev.bind h1 (rbr_l0 hL hin _ 0 c List.drop_zero hc)
end
end Go.Proofs.YtcochbkdgjgaeaaDoor.OR2
end
section
namespace Go.Proofs.YtcochbkdgjgaeaaDoor.OC1
open Go.RowKit Go.Proofs.YtcochbkdgjgaeaaDoorW.PrintWords Go.Proofs.YtcochbkdgjgaeaaDoorW.PrintLast Go.Proofs.YtcochbkdgjgaeaaDoorW.PrintMore Go.Proofs.YtcochbkdgjgaeaaDoor.X Go.Proofs.YtcochbkdgjgaeaaDoor.XL Go.Proofs.YtcochbkdgjgaeaaDoor.XO Go.Proofs.YtcochbkdgjgaeaaDoor.LN Go.Proofs.YtcochbkdgjgaeaaDoor.OB Go.Proofs.YtcochbkdgjgaeaaDoor.OVW Go.Proofs.YtcochbkdgjgaeaaDoor.OR1
set_option linter.unusedVariables false
set_option linter.unusedSimpArgs false
set_option maxHeartbeats 8000000 in
set_option maxRecDepth 100000 in
theorem around_calls {L : List S76} (hL : L.length ≤ 2000000) (p : Int) {n i : Nat} (h1 : 1 ≤ n) (h2 : n ≤ 9999) (hi : i < L.length) (hh : Ev (fun k => quoinref13_holding.f k (L.map c48) p) (i : Int)) {F T : Int} {G : Bool} {E : Int} (hr : rT L ((tk L i n i).map fun m => (fst L i m, m)) = (F, T, G, E))
  (A0 : Option Addr) (c0 : Nat) (w : World) (hr0 : Kd.C k48 w A0 L.length (L.map c48)) (hc0 : L.length ≤ c0) :
  Calls Tryd.prog 21 #[.slice A0 L.length c0, .int .i64 p, .int .i64 (n : Int)] w fun e w' => e = .returned (.tuple #[.agg #[.int .i64 F, .int .i64 T, .bool G], .int .i64 E]) ∧ Below w.heap.size w w' := by
 have hlm : (L.map c48).length = L.length := List.length_map _
 have HC := Aside0.mk hr0
 have HB0 := Aside0.mk (below_alloc (Below.refl w.heap.size w) (.cells #[.int .i64 0, .int .i64 0, .bool false] 48))
 have HH : Aside0 (∀ W : World, Below w.heap.size w W → Calls Tryd.prog 37 #[.slice A0 L.length c0, .int .i64 p] W fun e w' => e = .returned (.int .i64 (i : Int)) ∧ Below W.heap.size W w') := by
  obtain ⟨k, h⟩ := hh
  refine ⟨fun W hW => ?_⟩
  have h3 := quoinref13_holding.calls k A0 c0 (L.map c48) p (i : Int) W (by rw [hlm]; exact Kd.C_below hr0 hW) (by rw [hlm]; exact hc0) (h k (Nat.le_refl _))
  rw [hlm] at h3
  refine h3.mono ?_
  rintro e w' ⟨he, hx⟩
  exact ⟨he, hx.below⟩
 have BX := Aside0.mk (blk_new w (.cells #[.int .i64 0, .int .i64 0, .bool false] 48))
 have HR := Aside0.mk hr
 have HM := Aside0.mk hlm
 clear hr hh hr0 hlm
 have g1 : ((i : Int) < 0) = False := eq_false (by omega)
 go_enter Tryd.func21, Tryd.ntmps21
 go_wp2_with (go_at_call 37; (with_reducible refine (HH.out _ HB0.out).mono ?_); rintro e w1 ⟨rfl, hx⟩; have H1 := Aside0.mk (below_step HB0.out hx); have BK1 := Aside0.mk (blk_below BX.out hx); clear hx)
 go_loopg [9, 10] n (fun c v9 v10 wl => ∃ k j : Nat, v9 = .int .i64 (k : Int) ∧ v10 = .int .i64 (j : Int) ∧ j + c = n ∧ k ≤ L.length ∧ (0 < c ∨ i < k) ∧ i ≤ k ∧ Aside0 (rT L ((tk L i c k).map fun m => (fst L i m, m)) = (F, T, G, E)) ∧ Aside0 (wl.heap[w.heap.size]? = some (.cells #[.int .i64 0, .int .i64 0, .bool false] 48)) ∧ Aside0 (Below w.heap.size w wl))
 case atStart => exact ⟨i, 0, rfl, rfl, by omega, by omega, .inl (by omega), Nat.le_refl _, HR, BK1, H1⟩
 case round =>
  obtain ⟨k, j, rfl, rfl, hj, hkl, h0, hik, HR, BK, HB⟩ := hrel
  have c0_ := (blk_cell BK.out 0).trans rfl
  have c1_ := (blk_cell BK.out 1).trans rfl
  have c2_ := (blk_cell BK.out 2).trans rfl
  have f0_ := blk_frozen BK.out 0
  have f1_ := blk_frozen BK.out 1
  have f2_ := blk_frozen BK.out 2
  cases gk with
  | zero =>
   have hik2 : i < k := by omega
   have hr := HR.out
   have et : tk L i 0 k = some k := rfl
   rw [et] at hr
   have hr1 : (rd_T76 L ((fst L i k : Nat) : Int)).f0 = F ∧ (rd_T76 L ((k : Int) - 1)).f1 = T ∧ false = G ∧ (0 : Int) = E := by simpa only [rT, Option.map_some, Prod.mk.injEq] using hr
   obtain ⟨hF, hT, rfl, rfl⟩ := hr1
   obtain ⟨ad, rfl, x0, x1, x2⟩ := at_T48 (Kd.C_below HC.out HB.out) (i : Int) (by omega) (by omega)
   rw [rd48 L hi, Int.toNat_natCast] at x0 x1 x2
   obtain ⟨ad_, ea, z0, z1, z2⟩ := at_T48 (Kd.C_below HC.out HB.out) ((k : Int) - 1) (by omega) (by omega)
   obtain rfl := Option.some.inj ea
   have hz := rd48 L (show k - 1 < L.length by omega)
   rw [show ((k - 1 : Nat) : Int) = (k : Int) - 1 from by omega] at hz
   rw [hz, show ((k : Int) - 1).toNat = k - 1 from by omega] at z0 z1 z2
   have ex0 : (c48 (rd_T76 L (i : Int))).f0 = (rd_T76 L (i : Int)).f0 := rfl
   have ex2 : (c48 (rd_T76 L (i : Int))).f2 = vd L i := rfl
   have ez1 : (c48 (rd_T76 L ((k : Int) - 1))).f1 = T := hT
   have ez2 : (c48 (rd_T76 L ((k : Int) - 1))).f2 = vd L (k - 1) := by unfold vd; rw [show ((k - 1 : Nat) : Int) = (k : Int) - 1 from by omega]; rfl
   rw [ex0] at x0
   rw [ex2] at x2
   rw [ez1] at z1
   rw [ez2] at z2
   have HF := Aside0.mk hF
   clear hF hT hr et hz ex0 ex2 ez1 ez2 x1 z0
   have q1 : ((j : Int) < (n : Int)) = False := eq_false (by omega)
   have q3 : (0 ≤ (i : Int)) = True := eq_true (by omega)
   have q4 : ((i : Int) < (L.length : Int)) = True := eq_true (by omega)
   have q5 : (0 ≤ (k : Int) - 1) = True := eq_true (by omega)
   have q5' : (1 ≤ (k : Int)) = True := eq_true (by omega)
   have q6 : ((k : Int) - 1 < (L.length : Int)) = True := eq_true (by omega)
   go_wp2
   have x0o := fun o_ => pw_cell_below (below_alloc (Below.refl wr.heap.size wr) o_) x0
   have z1o := fun o_ => pw_cell_below (below_alloc (Below.refl wr.heap.size wr) o_) z1
   go_region
   have HB2 := Aside0.mk (below_drew1 (below_alloc HB.out (.cells #[.int .i64 (rd_T76 L (i : Int)).f0, .int .i64 T, .bool false] 48)))
   have BK2 := Aside0.mk (blk_drew (blk_alloc BK.out (.cells #[.int .i64 (rd_T76 L (i : Int)).f0, .int .i64 T, .bool false] 48)))
   have BR2 := Aside0.mk (blk_drew (blk_new wr (.cells #[.int .i64 (rd_T76 L (i : Int)).f0, .int .i64 T, .bool false] 48)))
   have HW2 := Aside0.mk (below_drew1 (below_alloc (Below.refl wr.heap.size wr) (.cells #[.int .i64 (rd_T76 L (i : Int)).f0, .int .i64 T, .bool false] 48)))
   have hwr : w.heap.size < wr.heap.size := blk_lt BK.out
   have HBw := Aside0.mk HB.out.size
   replace x2 := pw_cell_below HW2.out x2
   replace z2 := pw_cell_below HW2.out z2
   clear x0 z1 x0o z1o c0_ c1_ c2_ f0_ f1_ f2_
   generalize (wr.alloc (.cells #[.int .i64 (rd_T76 L (i : Int)).f0, .int .i64 T, .bool false] 48)).drew = W2 at HB2 BK2 BR2 HW2 x2 z2 ⊢
   have c0_ := (blk_cell BK2.out 0).trans rfl
   have c1_ := (blk_cell BK2.out 1).trans rfl
   have c2_ := (blk_cell BK2.out 2).trans rfl
   have f0_ := blk_frozen BK2.out 0
   have f1_ := blk_frozen BK2.out 1
   have f2_ := blk_frozen BK2.out 2
   have r0_ := (blk_cell BR2.out 0).trans rfl
   have r1_ := (blk_cell BR2.out 1).trans rfl
   have r2_ := (blk_cell BR2.out 2).trans rfl
   have s0_ := blk_frozen BR2.out 0
   by_cases hvi : vd L i = true
   ·rw [hvi] at x2
    have hF := HF.out
    rw [show fst L i k = i from if_neg (by rw [hvi]; simp)] at hF
    subst hF
    go_wp2
    exact bodyPost_ret (results_ct rfl _ _ w.heap.size 48 #[.int .i64 ((rd_T76 L (i : Int)).f0), .int .i64 T, .bool false] (0, 0) _ rfl (by refine blk_put (cs := #[.int .i64 ((rd_T76 L (i : Int)).f0), .int .i64 T, .bool false]) ?_ 2 _ rfl; refine blk_put (cs := #[.int .i64 ((rd_T76 L (i : Int)).f0), .int .i64 0, .bool false]) ?_ 1 _ rfl; refine blk_put (cs := #[.int .i64 0, .int .i64 0, .bool false]) ?_ 0 _ rfl; exact BK2.out) Tryd.underlying48 rfl (by kernel_rfl)) rfl ⟨rfl, below_set (below_set (below_set HB2.out (Nat.le_refl _)) (Nat.le_refl _)) (Nat.le_refl _)⟩
   ·have hvi' : vd L i = false := by simpa using hvi
    rw [hvi'] at x2
    by_cases hvk : vd L (k - 1) = true
    ·rw [hvk] at z2
     have hF := HF.out
     rw [show fst L i k = i from if_neg (by rw [hvk]; simp)] at hF
     subst hF
     go_wp2
     exact bodyPost_ret (results_ct rfl _ _ w.heap.size 48 #[.int .i64 ((rd_T76 L (i : Int)).f0), .int .i64 T, .bool false] (0, 0) _ rfl (by refine blk_put (cs := #[.int .i64 ((rd_T76 L (i : Int)).f0), .int .i64 T, .bool false]) ?_ 2 _ rfl; refine blk_put (cs := #[.int .i64 ((rd_T76 L (i : Int)).f0), .int .i64 0, .bool false]) ?_ 1 _ rfl; refine blk_put (cs := #[.int .i64 0, .int .i64 0, .bool false]) ?_ 0 _ rfl; exact BK2.out) Tryd.underlying48 rfl (by kernel_rfl)) rfl ⟨rfl, below_set (below_set (below_set HB2.out (Nat.le_refl _)) (Nat.le_refl _)) (Nat.le_refl _)⟩
    ·have hvk' : vd L (k - 1) = false := by simpa using hvk
     rw [hvk'] at z2
     by_cases hi0 : 0 < i
     ·have q7 : (0 < (i : Int)) = True := eq_true (by omega)
      have q7' : (0 < i) = True := eq_true hi0
      have q8 : (0 ≤ (i : Int) - 1) = True := eq_true (by omega)
      have q8' : (1 ≤ (i : Int)) = True := eq_true (by omega)
      have q9 : ((i : Int) - 1 < (L.length : Int)) = True := eq_true (by omega)
      obtain ⟨ad_, ea, y0, y1, y2⟩ := at_T48 (Kd.C_below (Kd.C_below HC.out HB.out) HW2.out) ((i : Int) - 1) (by omega) (by omega)
      obtain rfl := Option.some.inj ea
      have hy := rd48 L (show i - 1 < L.length by omega)
      rw [show ((i - 1 : Nat) : Int) = (i : Int) - 1 from by omega] at hy
      rw [hy, show ((i : Int) - 1).toNat = i - 1 from by omega] at y0 y2
      have ey0 : (c48 (rd_T76 L ((i : Int) - 1))).f0 = (rd_T76 L ((i : Int) - 1)).f0 := rfl
      have ey2 : (c48 (rd_T76 L ((i : Int) - 1))).f2 = vd L (i - 1) := by unfold vd; rw [show ((i - 1 : Nat) : Int) = (i : Int) - 1 from by omega]; rfl
      rw [ey0] at y0
      rw [ey2] at y2
      clear y1 hy ey0 ey2
      by_cases hv1 : vd L (i - 1) = true
      ·rw [hv1] at y2
       have hF := HF.out
       rw [show fst L i k = i - 1 from if_pos ⟨hi0, hvi', hvk', hv1⟩, show ((i - 1 : Nat) : Int) = (i : Int) - 1 from by omega] at hF
       rw [hF] at y0
       clear hF hvi hvi' hvk hvk' hv1 hi0
       go_wp2
       exact bodyPost_ret (results_ct rfl _ _ w.heap.size 48 #[.int .i64 F, .int .i64 T, .bool false] (0, 0) _ rfl (by refine blk_put (cs := #[.int .i64 F, .int .i64 T, .bool false]) ?_ 2 _ rfl; refine blk_put (cs := #[.int .i64 F, .int .i64 0, .bool false]) ?_ 1 _ rfl; refine blk_put (cs := #[.int .i64 0, .int .i64 0, .bool false]) ?_ 0 _ rfl; exact blk_far BK2.out (p := ⟨wr.heap.size, 0, none⟩) (Nat.ne_of_lt hwr) _) Tryd.underlying48 rfl (by kernel_rfl)) rfl ⟨rfl, below_set (below_set (below_set (below_set HB2.out HBw.out) (Nat.le_refl _)) (Nat.le_refl _)) (Nat.le_refl _)⟩
      ·have hv1' : vd L (i - 1) = false := by simpa using hv1
       rw [hv1'] at y2
       have hF := HF.out
       rw [show fst L i k = i from if_neg (fun h => hv1 h.2.2.2)] at hF
       subst hF
       go_wp2
       exact bodyPost_ret (results_ct rfl _ _ w.heap.size 48 #[.int .i64 ((rd_T76 L (i : Int)).f0), .int .i64 T, .bool false] (0, 0) _ rfl (by refine blk_put (cs := #[.int .i64 ((rd_T76 L (i : Int)).f0), .int .i64 T, .bool false]) ?_ 2 _ rfl; refine blk_put (cs := #[.int .i64 ((rd_T76 L (i : Int)).f0), .int .i64 0, .bool false]) ?_ 1 _ rfl; refine blk_put (cs := #[.int .i64 0, .int .i64 0, .bool false]) ?_ 0 _ rfl; exact BK2.out) Tryd.underlying48 rfl (by kernel_rfl)) rfl ⟨rfl, below_set (below_set (below_set HB2.out (Nat.le_refl _)) (Nat.le_refl _)) (Nat.le_refl _)⟩
     ·have q7 : (0 < (i : Int)) = False := eq_false (by omega)
      have q7' : (0 < i) = False := eq_false hi0
      have hF := HF.out
      rw [show fst L i k = i from if_neg (fun h => hi0 h.1)] at hF
      subst hF
      go_wp2
      exact bodyPost_ret (results_ct rfl _ _ w.heap.size 48 #[.int .i64 ((rd_T76 L (i : Int)).f0), .int .i64 T, .bool false] (0, 0) _ rfl (by refine blk_put (cs := #[.int .i64 ((rd_T76 L (i : Int)).f0), .int .i64 T, .bool false]) ?_ 2 _ rfl; refine blk_put (cs := #[.int .i64 ((rd_T76 L (i : Int)).f0), .int .i64 0, .bool false]) ?_ 1 _ rfl; refine blk_put (cs := #[.int .i64 0, .int .i64 0, .bool false]) ?_ 0 _ rfl; exact BK2.out) Tryd.underlying48 rfl (by kernel_rfl)) rfl ⟨rfl, below_set (below_set (below_set HB2.out (Nat.le_refl _)) (Nat.le_refl _)) (Nat.le_refl _)⟩
  | succ c =>
   have q1 : ((j : Int) < (n : Int)) = True := eq_true (by omega)
   by_cases hk : L.length ≤ k
   ·have q2 : ((k : Int) ≥ (L.length : Int)) = True := eq_true (by omega)
    have hr := HR.out
    rw [show tk L i (c + 1) k = none from if_pos hk] at hr
    obtain ⟨rfl, rfl, rfl, rfl⟩ : F = 0 ∧ T = 0 ∧ G = false ∧ E = 130 := by simp only [rT, Option.map_none, Prod.mk.injEq] at hr; exact ⟨hr.1.symm, hr.2.1.symm, hr.2.2.1.symm, hr.2.2.2.symm⟩
    clear hr HR
    go_wp2
    exact bodyPost_ret (results_ct rfl _ _ w.heap.size 48 #[.int .i64 0, .int .i64 0, .bool false] (0, 0) _ rfl (by refine blk_put (cs := #[.int .i64 0, .int .i64 0, .bool false]) ?_ 2 _ rfl; refine blk_put (cs := #[.int .i64 0, .int .i64 0, .bool false]) ?_ 1 _ rfl; refine blk_put (cs := #[.int .i64 0, .int .i64 0, .bool false]) ?_ 0 _ rfl; exact BK.out) Tryd.underlying48 rfl (by kernel_rfl)) rfl ⟨rfl, below_set (below_set (below_set HB.out (Nat.le_refl _)) (Nat.le_refl _)) (Nat.le_refl _)⟩
   ·have q2 : ((k : Int) ≥ (L.length : Int)) = False := eq_false (by omega)
    have q3 : (0 ≤ (k : Int)) = True := eq_true (by omega)
    have q4 : ((k : Int) < (L.length : Int)) = True := eq_true (by omega)
    obtain ⟨ad, rfl, x0, x1, x2⟩ := at_T48 (Kd.C_below HC.out HB.out) (k : Int) (by omega) (by omega)
    have hx := rd48 L (show k < L.length by omega)
    rw [hx, Int.toNat_natCast] at x0 x1 x2
    have e2 : (c48 (rd_T76 L (k : Int))).f2 = vd L k := rfl
    rw [e2] at x2
    clear x0 x1 hx e2
    by_cases hv : vd L k = true
    ·rw [hv] at x2
     by_cases hk1 : L.length ≤ k + 1
     ·have q5 : ((k : Int) + 1 ≥ (L.length : Int)) = True := eq_true (by omega)
      have hr := HR.out
      rw [show tk L i (c + 1) k = none from (if_neg hk).trans ((if_pos hv).trans (if_pos hk1))] at hr
      obtain ⟨rfl, rfl, rfl, rfl⟩ : F = 0 ∧ T = 0 ∧ G = false ∧ E = 130 := by simp only [rT, Option.map_none, Prod.mk.injEq] at hr; exact ⟨hr.1.symm, hr.2.1.symm, hr.2.2.1.symm, hr.2.2.2.symm⟩
      clear hr HR
      go_wp2
      exact bodyPost_ret (results_ct rfl _ _ w.heap.size 48 #[.int .i64 0, .int .i64 0, .bool false] (0, 0) _ rfl (by refine blk_put (cs := #[.int .i64 0, .int .i64 0, .bool false]) ?_ 2 _ rfl; refine blk_put (cs := #[.int .i64 0, .int .i64 0, .bool false]) ?_ 1 _ rfl; refine blk_put (cs := #[.int .i64 0, .int .i64 0, .bool false]) ?_ 0 _ rfl; exact BK.out) Tryd.underlying48 rfl (by kernel_rfl)) rfl ⟨rfl, below_set (below_set (below_set HB.out (Nat.le_refl _)) (Nat.le_refl _)) (Nat.le_refl _)⟩
     ·have q5 : ((k : Int) + 1 ≥ (L.length : Int)) = False := eq_false (by omega)
      have HT := Aside0.mk (show tk L i (c + 1) k = tk L i c (k + 2) from (if_neg hk).trans ((if_pos hv).trans (if_neg hk1)))
      have HK := Aside0.mk (And.intro hk1 hv)
      clear hk hk1 hv
      go_wp2
      go_roundg c
      case measure => omega
      case rel => exact ⟨k + 2, j + 1, by go_num, by go_num, by omega, by have := HK.out.1; omega, .inr (by omega), by omega, ⟨by have h := HR.out; rw [HT.out] at h; exact h⟩, BK, HB⟩
    ·have hv' : vd L k = false := by simpa using hv
     rw [hv'] at x2
     obtain ⟨ad_, ea, y0, y1, y2⟩ := at_T48 (Kd.C_below HC.out HB.out) (i : Int) (by omega) (by omega)
     obtain rfl := Option.some.inj ea
     have hy := rd48 L hi
     rw [hy, Int.toNat_natCast] at y2
     have e3 : (c48 (rd_T76 L (i : Int))).f2 = vd L i := rfl
     rw [e3] at y2
     clear y0 y1 hy e3
     have q6 : (0 ≤ (i : Int)) = True := eq_true (by omega)
     have q7 : ((i : Int) < (L.length : Int)) = True := eq_true (by omega)
     have HS := Aside0.mk (And.intro hk hv)
     have hkL : k < L.length := by omega
     clear hk hv
     -- one further, or two
     have goon1 : ∀ (W : World) (hT : tk L i (c + 1) k = tk L i c (k + 1)), Aside0 (rT L ((tk L i c (k + 1)).map fun m => (fst L i m, m)) = (F, T, G, E)) := fun _ hT => ⟨by have h := HR.out; rw [hT] at h; exact h⟩
     have HG := Aside0.mk goon1
     clear goon1
     by_cases hk1 : k + 1 < L.length
     ·have q5 : ((k : Int) + 1 < (L.length : Int)) = True := eq_true (by omega)
      have q8 : (0 ≤ (k : Int) + 1) = True := eq_true (by omega)
      obtain ⟨ad_, ea, z0, z1, z2⟩ := at_T48 (Kd.C_below HC.out HB.out) ((k : Int) + 1) (by omega) (by omega)
      obtain rfl := Option.some.inj ea
      have hz := rd48 L hk1
      rw [show ((k + 1 : Nat) : Int) = (k : Int) + 1 from by omega] at hz
      rw [hz, show ((k : Int) + 1).toNat = k + 1 from by omega] at z2
      have e4 : (c48 (rd_T76 L ((k : Int) + 1))).f2 = vd L (k + 1) := rfl
      rw [e4] at z2
      clear z0 z1 hz e4
      by_cases hv1 : vd L (k + 1) = true
      ·rw [hv1] at z2
       by_cases hvi : vd L i = true
       ·rw [hvi] at y2
        have HT := Aside0.mk (show tk L i (c + 1) k = tk L i c (k + 1) from (if_neg HS.out.1).trans ((if_neg HS.out.2).trans (if_neg (by rw [hvi]; simp))))
        clear hv1 hvi
        go_wp2
        go_roundg c
        case measure => omega
        case rel => exact ⟨k + 1, j + 1, by go_num, by go_num, by omega, by omega, .inr (by omega), by omega, HG.out wr HT.out, BK, HB⟩
       ·have hvi' : vd L i = false := by simpa using hvi
        rw [hvi'] at y2
        have HT := Aside0.mk (show tk L i (c + 1) k = tk L i c (k + 2) from (if_neg HS.out.1).trans ((if_neg HS.out.2).trans (if_pos ⟨hk1, hv1, hvi'⟩)))
        clear hv1 hvi hvi'
        go_wp2
        go_roundg c
        case measure => omega
        case rel => exact ⟨k + 2, j + 1, by go_num, by go_num, by omega, by omega, .inr (by omega), by omega, ⟨by have h := HR.out; rw [HT.out] at h; exact h⟩, BK, HB⟩
      ·have hv1' : vd L (k + 1) = false := by simpa using hv1
       rw [hv1'] at z2
       have HT := Aside0.mk (show tk L i (c + 1) k = tk L i c (k + 1) from (if_neg HS.out.1).trans ((if_neg HS.out.2).trans (if_neg (fun h => hv1 h.2.1))))
       clear hv1 hv1'
       go_wp2
       go_roundg c
       case measure => omega
       case rel => exact ⟨k + 1, j + 1, by go_num, by go_num, by omega, by omega, .inr (by omega), by omega, HG.out wr HT.out, BK, HB⟩
     ·have q5 : ((k : Int) + 1 < (L.length : Int)) = False := eq_false (by omega)
      have HT := Aside0.mk (show tk L i (c + 1) k = tk L i c (k + 1) from (if_neg HS.out.1).trans ((if_neg HS.out.2).trans (if_neg (fun h => hk1 h.1))))
      go_wp2
      go_roundg c
      case measure => omega
      case rel => exact ⟨k + 1, j + 1, by go_num, by go_num, by omega, by omega, .inr (by omega), by omega, HG.out wr HT.out, BK, HB⟩
end Go.Proofs.YtcochbkdgjgaeaaDoor.OC1
end
section
namespace Go.Proofs.YtcochbkdgjgaeaaDoor.OC2
open Go.RowKit Go.Proofs.YtcochbkdgjgaeaaDoorW.PrintWords Go.Proofs.YtcochbkdgjgaeaaDoorW.PrintLast Go.Proofs.YtcochbkdgjgaeaaDoorW.PrintMore Go.Proofs.YtcochbkdgjgaeaaDoor.X Go.Proofs.YtcochbkdgjgaeaaDoor.XL Go.Proofs.YtcochbkdgjgaeaaDoor.XO Go.Proofs.YtcochbkdgjgaeaaDoor.LN Go.Proofs.YtcochbkdgjgaeaaDoor.OB Go.Proofs.YtcochbkdgjgaeaaDoor.OB2 Go.Proofs.YtcochbkdgjgaeaaDoor.OVX Go.Proofs.YtcochbkdgjgaeaaDoor.OVW Go.Proofs.YtcochbkdgjgaeaaDoor.OR Go.Proofs.YtcochbkdgjgaeaaDoor.OR1 Go.Proofs.YtcochbkdgjgaeaaDoor.OC1
set_option linter.unusedVariables false
set_option linter.unusedSimpArgs false
theorem start_calls {t : List Int} (hl : t.length ≤ 1048576) {a : Int} (ha : a ≤ 9223372036854775807) (A0 : Option Addr) (c0 : Nat) (W : World) (hr0 : Kd.C (Kd.int .u8) W A0 t.length t) (hc0 : t.length ≤ c0) :
  Calls Tryd.prog 17 #[.slice A0 t.length c0, .int .i64 a] W fun e w' => e = .returned (.tuple #[.int .i64 (startR t a).1, .int .i64 (startR t a).2]) ∧ Below W.heap.size W w' := by
 obtain ⟨k, h⟩ := refStart_ev (t := t) (by omega) a ha
 refine (quoinref05_Start.calls k A0 c0 t a _ _ W hr0 hc0 (h k (Nat.le_refl _))).mono ?_
 rintro e w' ⟨he, hx⟩
 exact ⟨he, hx.below⟩
theorem inner_calls {L : List S76} {p : Int} {c : Int} {f1 t1 : Int} {g1 : Bool} {e1 : Int} (h : Ev (fun k => quoinref13_inner.f k (L.map c48) p c) (f1, t1, g1, e1)) (A0 : Option Addr) (c0 : Nat) (W : World) (hr0 : Kd.C k48 W A0 L.length (L.map c48)) (hc0 : L.length ≤ c0) :
  Calls Tryd.prog 22 #[.slice A0 L.length c0, .int .i64 p, .int .i64 c] W fun e w' => e = .returned (.tuple #[.agg #[.int .i64 f1, .int .i64 t1, .bool g1], .int .i64 e1]) ∧ Below W.heap.size W w' := by
 obtain ⟨k, h⟩ := h
 have hlm : (L.map c48).length = L.length := List.length_map _
 have h3 := quoinref13_inner.calls k A0 c0 (L.map c48) p c _ _ _ _ W (by rw [hlm]; exact hr0) (by rw [hlm]; exact hc0) (h k (Nat.le_refl _))
 rw [hlm] at h3
 exact h3
set_option maxHeartbeats 8000000 in
set_option maxRecDepth 100000 in
theorem paragraph_calls {t : List Int} (hu : u8s t = true) (hl : t.length ≤ 1048576) {L : List S76} (hch : Ch (vC (splitR t)) (splitR t).length 0 L) {line i n : Nat} (hi : i < L.length) (hh : Ev (fun k => quoinref13_holding.f k (L.map c48) (line : Int)) (i : Int)) (h1 : 1 ≤ n) (h2 : n ≤ 9999) (around : Bool) {F T K E : Int} (hr : selW 3 (parV t L (takenV L i n around)) = (F, T, K, E))
  (A0 : Option Addr) (c0 : Nat) (w : World) (hr0 : Kd.C (Kd.int .u8) w A0 t.length t) (hc0 : t.length ≤ c0) :
  Calls Tryd.prog 23 #[.slice A0 t.length c0, .int .i64 (line : Int), .int .i64 (n : Int), .bool around] w fun e w' => e = .returned (.tuple #[.agg #[.int .i64 F, .int .i64 T, .int .i64 K], .int .i64 E]) ∧ Below w.heap.size w w' := by
 have hlen := splitR_len t
 have hcl := cnt_le 10 t
 have hlL := Ch_len hch
 have hL : L.length ≤ 2000000 := by omega
 have HB0 := Aside0.mk (below_alloc (Below.refl w.heap.size w) (.cells #[.int .i64 0, .int .i64 0, .int .i64 0] 29))
 have BX := Aside0.mk (blk_new w (.cells #[.int .i64 0, .int .i64 0, .int .i64 0] 29))
 have HC := Aside0.mk hr0
 have HRW : Aside0 (∀ W : World, Below w.heap.size w W → Calls Tryd.prog 38 #[.slice A0 t.length c0] W fun e w' => ∃ v0_ : Value, e = .returned v0_ ∧ Kd.R k48 48 w' W.heap.size (fun _ => True) v0_ (L.map c48) ∧ Below W.heap.size W w') := by
  have hrows : Ev (fun k => quoinref13_rows.f k t) (L.map c48) := Ev.bind (rsplit_ev (by omega)) (rrows_l0 (by omega) hch (splitR t).length 0 [] (by omega) rfl)
  obtain ⟨k, h⟩ := hrows
  exact ⟨fun W hW => quoinref13_rows.calls k A0 c0 t _ W (Kd.C_below hr0 hW) hc0 (h k (Nat.le_refl _))⟩
 have hI := inner_ev (c := n) hL hi h1 h2 hh
 obtain ⟨f1, t1, g1, e1, hI1⟩ : ∃ f1 t1 g1 e1, rT L (takenV L i n false) = (f1, t1, g1, e1) := ⟨_, _, _, _, rfl⟩
 rw [hI1] at hI
 have HI := Aside0.mk (fun (A : Option Addr) (c : Nat) (W : World) (hC : Kd.C k48 W A L.length (L.map c48)) (hc : L.length ≤ c) => inner_calls hI A c W hC hc)
 clear hI
 -- what is taken: nothing, or stretches that lie in the list
 have hS := fun (m : Int) (hm : m ≤ 9223372036854775807) (W : World) (hW : Below w.heap.size w W) => start_calls hl hm A0 c0 W (Kd.C_below hr0 hW) hc0
 have HS := Aside0.mk hS
 clear hS hr0
 have hout : (takenV L i n around = none ∧ F = 0 ∧ T = 0 ∧ K = 0 ∧ E = 130) ∨ (∃ f' t' : Int, rT L (takenV L i n around) = (f', t', false, 0) ∧ f' ≤ 9223372036854775807 ∧ 0 ≤ t' ∧ t' ≤ 2000000 ∧ F = (startR t f').1 ∧ T = (startR t (t' - 1)).1 ∧ K = 3 ∧ E = 0) := by
  cases e : takenV L i n around with
  | none =>
   rw [e] at hr
   have hr : ((0 : Int), (0 : Int), (0 : Int), (130 : Int)) = (F, T, K, E) := hr
   simp only [Prod.mk.injEq] at hr
   exact .inl ⟨rfl, hr.1.symm, hr.2.1.symm, hr.2.2.1.symm, hr.2.2.2.symm⟩
  | some x =>
   obtain ⟨a, b⟩ := x
   rw [e] at hr
   have hb := takenV_le hi h1 e
   have h3 := Ch_span hch (a := a) (b := b) (by omega) (by omega)
   have hr : ((startR t (rd_T76 L (a : Int)).f0).1, (startR t ((rd_T76 L ((b : Int) - 1)).f1 - 1)).1, (3 : Int), (0 : Int)) = (F, T, K, E) := hr
   simp only [Prod.mk.injEq] at hr
   exact .inr ⟨(rd_T76 L (a : Int)).f0, (rd_T76 L ((b : Int) - 1)).f1, rfl, by omega, by omega, by omega, hr.1.symm, hr.2.1.symm, hr.2.2.1.symm, hr.2.2.2.symm⟩
 clear hr hlen hcl hlL
 cases around with
 | false =>
  rcases hout with ⟨ho, rfl, rfl, rfl, rfl⟩ | ⟨f', t', ho, hf1, ht0, ht1, rfl, rfl, rfl, rfl⟩
  ·skip
   rw [ho] at hI1
   obtain ⟨rfl, rfl, rfl, rfl⟩ : (0 : Int) = f1 ∧ (0 : Int) = t1 ∧ false = g1 ∧ (130 : Int) = e1 := by simpa only [rT, Prod.mk.injEq] using hI1
   have HO := Aside0.mk ho
   clear ho hI1 hh
   go_enter Tryd.func23, Tryd.ntmps23
   go_wp2_with (first
    | (go_at_call 38; (with_reducible refine (HRW.out _ HB0.out).mono ?_); rintro e w1 ⟨v1, rfl, hR, hx⟩; obtain ⟨A1, c1, ev⟩ := Kd.R_slice hR; rw [List.length_map] at ev; subst ev; have H1 := Aside0.mk (below_step HB0.out hx); have BK1 := Aside0.mk (blk_below BX.out hx); have HL1 := Aside0.mk (And.intro (show Kd.C k48 w1 A1 L.length (L.map c48) from by have h := (Kd.R_reads' hR).2.2; first | exact h | (rw [List.length_map] at h; exact h)) (show L.length ≤ c1 from by have h := (Kd.R_reads' hR).2.1; first | exact h | (rw [List.length_map] at h; exact h))); clear hR hx)
    | (go_at_call 22; (with_reducible refine (HI.out _ _ _ HL1.out.1 HL1.out.2).mono ?_); rintro e w2 ⟨rfl, hx⟩; have hn := Aside0.mk (show w.heap.size < w2.heap.size from blk_lt (blk_below BK1.out hx)); have H2 := Aside0.mk (below_alloc (below_step H1.out hx) (.cells #[.int .i64 0, .int .i64 0, .bool false] 48)); have BK2 := Aside0.mk (blk_alloc (blk_below BK1.out hx) (.cells #[.int .i64 0, .int .i64 0, .bool false] 48)); have BR2 := Aside0.mk (blk_new w2 (.cells #[.int .i64 0, .int .i64 0, .bool false] 48)); have HL2 := Aside0.mk (Kd.C_alloc (Kd.C_below HL1.out.1 hx) (.cells #[.int .i64 0, .int .i64 0, .bool false] 48)); clear hx; have c0_ := (blk_cell BK2.out 0).trans rfl; have c1_ := (blk_cell BK2.out 1).trans rfl; have c2_ := (blk_cell BK2.out 2).trans rfl; have f0_ := blk_frozen BK2.out 0; have f1_ := blk_frozen BK2.out 1; have f2_ := blk_frozen BK2.out 2))
   exact bodyPost_ret (results_ct rfl _ _ w.heap.size 29 #[.int .i64 0, .int .i64 0, .int .i64 0] (0, 0) _ rfl (by refine blk_put (cs := #[.int .i64 0, .int .i64 0, .int .i64 0]) ?_ 2 _ rfl; refine blk_put (cs := #[.int .i64 0, .int .i64 0, .int .i64 0]) ?_ 1 _ rfl; refine blk_put (cs := #[.int .i64 0, .int .i64 0, .int .i64 0]) ?_ 0 _ rfl; exact BK2.out) Tryd.underlying29 rfl (by kernel_rfl)) rfl ⟨rfl, below_set (below_set (below_set H2.out (Nat.le_refl _)) (Nat.le_refl _)) (Nat.le_refl _)⟩
  ·skip
   rw [ho] at hI1
   obtain ⟨rfl, rfl, rfl, rfl⟩ : f' = f1 ∧ t' = t1 ∧ false = g1 ∧ (0 : Int) = e1 := by simpa only [Prod.mk.injEq] using hI1
   have HO := Aside0.mk ho
   clear ho hI1 hh
   go_enter Tryd.func23, Tryd.ntmps23
   go_wp2_with (first
    | (go_at_call 38; (with_reducible refine (HRW.out _ HB0.out).mono ?_); rintro e w1 ⟨v1, rfl, hR, hx⟩; obtain ⟨A1, c1, ev⟩ := Kd.R_slice hR; rw [List.length_map] at ev; subst ev; have H1 := Aside0.mk (below_step HB0.out hx); have BK1 := Aside0.mk (blk_below BX.out hx); have HL1 := Aside0.mk (And.intro (show Kd.C k48 w1 A1 L.length (L.map c48) from by have h := (Kd.R_reads' hR).2.2; first | exact h | (rw [List.length_map] at h; exact h)) (show L.length ≤ c1 from by have h := (Kd.R_reads' hR).2.1; first | exact h | (rw [List.length_map] at h; exact h))); clear hR hx)
    | (go_at_call 22; (with_reducible refine (HI.out _ _ _ HL1.out.1 HL1.out.2).mono ?_); rintro e w2 ⟨rfl, hx⟩; have hn := Aside0.mk (show w.heap.size < w2.heap.size from blk_lt (blk_below BK1.out hx)); have H2 := Aside0.mk (below_alloc (below_step H1.out hx) (.cells #[.int .i64 f', .int .i64 t', .bool false] 48)); have BK2 := Aside0.mk (blk_alloc (blk_below BK1.out hx) (.cells #[.int .i64 f', .int .i64 t', .bool false] 48)); have BR2 := Aside0.mk (blk_new w2 (.cells #[.int .i64 f', .int .i64 t', .bool false] 48)); have HL2 := Aside0.mk (Kd.C_alloc (Kd.C_below HL1.out.1 hx) (.cells #[.int .i64 f', .int .i64 t', .bool false] 48)); clear hx; have r0_ := (blk_cell BR2.out 0).trans rfl; have c0_ := (blk_cell BK2.out 0).trans rfl; have c1_ := (blk_cell BK2.out 1).trans rfl; have c2_ := (blk_cell BK2.out 2).trans rfl; have f0_ := blk_frozen BK2.out 0; have f1_ := blk_frozen BK2.out 1; have f2_ := blk_frozen BK2.out 2)
    | (go_at_call 17; (with_reducible refine (HS.out f' (by omega) _ H2.out).mono ?_); rintro e w4 ⟨rfl, hx⟩; have H4 := Aside0.mk (below_step H2.out hx); have BK4 := Aside0.mk (blk_below BK2.out hx); have BR4 := Aside0.mk (blk_below BR2.out hx); clear hx; have x0_ := (blk_cell BR4.out 0).trans rfl; have x1_ := (blk_cell BR4.out 1).trans rfl)
    | (go_at_call 17; (with_reducible refine (HS.out (t' - 1) (by omega) _ H4.out).mono ?_); rintro e w5 ⟨rfl, hx⟩; have H5 := Aside0.mk (below_step H4.out hx); have BK5 := Aside0.mk (blk_below BK4.out hx); have BR5 := Aside0.mk (blk_below BR4.out hx); clear hx; have y0_ := (blk_cell BK5.out 0).trans rfl; have y1_ := (blk_cell BK5.out 1).trans rfl; have y2_ := (blk_cell BK5.out 2).trans rfl; have z0_ := blk_frozen BK5.out 0; have z1_ := blk_frozen BK5.out 1; have z2_ := blk_frozen BK5.out 2))
   exact bodyPost_ret (results_ct rfl _ _ w.heap.size 29 #[.int .i64 (startR t f').1, .int .i64 (startR t (t' - 1)).1, .int .i64 3] (0, 0) _ rfl (by refine blk_put (cs := #[.int .i64 (startR t f').1, .int .i64 (startR t (t' - 1)).1, .int .i64 0]) ?_ 2 _ rfl; refine blk_put (cs := #[.int .i64 (startR t f').1, .int .i64 0, .int .i64 0]) ?_ 1 _ rfl; refine blk_put (cs := #[.int .i64 0, .int .i64 0, .int .i64 0]) ?_ 0 _ rfl; exact BK5.out) Tryd.underlying29 rfl (by kernel_rfl)) rfl ⟨rfl, below_set (below_set (below_set H5.out (Nat.le_refl _)) (Nat.le_refl _)) (Nat.le_refl _)⟩
 | true =>
  rcases hout with ⟨ho, rfl, rfl, rfl, rfl⟩ | ⟨f', t', ho, hf1, ht0, ht1, rfl, rfl, rfl, rfl⟩
  ·skip
   have hA2 : rT L ((tk L i n i).map fun m => (fst L i m, m)) = (0, 0, false, 130) := by rw [show takenV L i n true = (tk L i n i).map (fun m => (fst L i m, m)) from if_pos rfl] at ho; rw [ho]; rfl
   have HAR := Aside0.mk (fun (A : Option Addr) (c : Nat) (W : World) (hC : Kd.C k48 W A L.length (L.map c48)) (hc : L.length ≤ c) => around_calls hL (line : Int) h1 h2 hi hh hA2 A c W hC hc)
   clear hA2
   have HO := Aside0.mk ho
   clear ho hI1 hh
   go_enter Tryd.func23, Tryd.ntmps23
   go_wp2_with (first
    | (go_at_call 38; (with_reducible refine (HRW.out _ HB0.out).mono ?_); rintro e w1 ⟨v1, rfl, hR, hx⟩; obtain ⟨A1, c1, ev⟩ := Kd.R_slice hR; rw [List.length_map] at ev; subst ev; have H1 := Aside0.mk (below_step HB0.out hx); have BK1 := Aside0.mk (blk_below BX.out hx); have HL1 := Aside0.mk (And.intro (show Kd.C k48 w1 A1 L.length (L.map c48) from by have h := (Kd.R_reads' hR).2.2; first | exact h | (rw [List.length_map] at h; exact h)) (show L.length ≤ c1 from by have h := (Kd.R_reads' hR).2.1; first | exact h | (rw [List.length_map] at h; exact h))); clear hR hx)
    | (go_at_call 22; (with_reducible refine (HI.out _ _ _ HL1.out.1 HL1.out.2).mono ?_); rintro e w2 ⟨rfl, hx⟩; have hn := Aside0.mk (show w.heap.size < w2.heap.size from blk_lt (blk_below BK1.out hx)); have H2 := Aside0.mk (below_alloc (below_step H1.out hx) (.cells #[.int .i64 f1, .int .i64 t1, .bool g1] 48)); have BK2 := Aside0.mk (blk_alloc (blk_below BK1.out hx) (.cells #[.int .i64 f1, .int .i64 t1, .bool g1] 48)); have BR2 := Aside0.mk (blk_new w2 (.cells #[.int .i64 f1, .int .i64 t1, .bool g1] 48)); have HL2 := Aside0.mk (Kd.C_alloc (Kd.C_below HL1.out.1 hx) (.cells #[.int .i64 f1, .int .i64 t1, .bool g1] 48)); clear hx)
    | (go_at_call 21; (with_reducible refine (HAR.out _ _ _ HL2.out HL1.out.2).mono ?_); rintro e w3 ⟨rfl, hx⟩; have H3 := Aside0.mk (below_set (j := 2) (v := .bool false) (below_set (j := 1) (v := .int .i64 0) (below_set (j := 0) (v := .int .i64 0) (below_step H2.out hx) (Nat.le_of_lt hn.out)) (Nat.le_of_lt hn.out)) (Nat.le_of_lt hn.out)); have BJ3 := Aside0.mk (blk_below BR2.out hx); have BL3 := Aside0.mk (blk_below BK2.out hx); have BR3 := Aside0.mk (blk_put (cs' := #[.int .i64 0, .int .i64 0, .bool false]) (blk_put (cs' := #[.int .i64 0, .int .i64 0, .bool g1]) (blk_put (cs' := #[.int .i64 0, .int .i64 t1, .bool g1]) BJ3.out 0 (.int .i64 0) rfl) 1 (.int .i64 0) rfl) 2 (.bool false) rfl); have BK3 := Aside0.mk (blk_far (blk_far (blk_far BL3.out (p := ⟨w2.heap.size, 0, none⟩) (Nat.ne_of_lt hn.out) (.int .i64 0)) (p := ⟨w2.heap.size, 1, none⟩) (Nat.ne_of_lt hn.out) (.int .i64 0)) (p := ⟨w2.heap.size, 2, none⟩) (Nat.ne_of_lt hn.out) (.bool false)); clear hx; have hn1 := Nat.ne_of_lt hn.out; have hn2 := Nat.ne_of_gt hn.out; have u0_ := (blk_cell BJ3.out 0).trans rfl; have u1_ := (blk_cell BJ3.out 1).trans rfl; have u2_ := (blk_cell BJ3.out 2).trans rfl; have v0_ := blk_frozen BJ3.out 0; have v1_ := blk_frozen BJ3.out 1; have v2_ := blk_frozen BJ3.out 2; have c0_ := (blk_cell BK3.out 0).trans rfl; have c1_ := (blk_cell BK3.out 1).trans rfl; have c2_ := (blk_cell BK3.out 2).trans rfl; have f0_ := blk_frozen BK3.out 0; have f1_ := blk_frozen BK3.out 1; have f2_ := blk_frozen BK3.out 2))
   exact bodyPost_ret (results_ct rfl _ _ w.heap.size 29 #[.int .i64 0, .int .i64 0, .int .i64 0] (0, 0) _ rfl (by refine blk_put (cs := #[.int .i64 0, .int .i64 0, .int .i64 0]) ?_ 2 _ rfl; refine blk_put (cs := #[.int .i64 0, .int .i64 0, .int .i64 0]) ?_ 1 _ rfl; refine blk_put (cs := #[.int .i64 0, .int .i64 0, .int .i64 0]) ?_ 0 _ rfl; exact BK3.out) Tryd.underlying29 rfl (by kernel_rfl)) rfl ⟨rfl, below_set (below_set (below_set H3.out (Nat.le_refl _)) (Nat.le_refl _)) (Nat.le_refl _)⟩
  ·skip
   have hA2 : rT L ((tk L i n i).map fun m => (fst L i m, m)) = (f', t', false, 0) := by rw [show takenV L i n true = (tk L i n i).map (fun m => (fst L i m, m)) from if_pos rfl] at ho; exact ho
   have HAR := Aside0.mk (fun (A : Option Addr) (c : Nat) (W : World) (hC : Kd.C k48 W A L.length (L.map c48)) (hc : L.length ≤ c) => around_calls hL (line : Int) h1 h2 hi hh hA2 A c W hC hc)
   clear hA2
   have HO := Aside0.mk ho
   clear ho hI1 hh
   go_enter Tryd.func23, Tryd.ntmps23
   go_wp2_with (first
    | (go_at_call 38; (with_reducible refine (HRW.out _ HB0.out).mono ?_); rintro e w1 ⟨v1, rfl, hR, hx⟩; obtain ⟨A1, c1, ev⟩ := Kd.R_slice hR; rw [List.length_map] at ev; subst ev; have H1 := Aside0.mk (below_step HB0.out hx); have BK1 := Aside0.mk (blk_below BX.out hx); have HL1 := Aside0.mk (And.intro (show Kd.C k48 w1 A1 L.length (L.map c48) from by have h := (Kd.R_reads' hR).2.2; first | exact h | (rw [List.length_map] at h; exact h)) (show L.length ≤ c1 from by have h := (Kd.R_reads' hR).2.1; first | exact h | (rw [List.length_map] at h; exact h))); clear hR hx)
    | (go_at_call 22; (with_reducible refine (HI.out _ _ _ HL1.out.1 HL1.out.2).mono ?_); rintro e w2 ⟨rfl, hx⟩; have hn := Aside0.mk (show w.heap.size < w2.heap.size from blk_lt (blk_below BK1.out hx)); have H2 := Aside0.mk (below_alloc (below_step H1.out hx) (.cells #[.int .i64 f1, .int .i64 t1, .bool g1] 48)); have BK2 := Aside0.mk (blk_alloc (blk_below BK1.out hx) (.cells #[.int .i64 f1, .int .i64 t1, .bool g1] 48)); have BR2 := Aside0.mk (blk_new w2 (.cells #[.int .i64 f1, .int .i64 t1, .bool g1] 48)); have HL2 := Aside0.mk (Kd.C_alloc (Kd.C_below HL1.out.1 hx) (.cells #[.int .i64 f1, .int .i64 t1, .bool g1] 48)); clear hx)
    | (go_at_call 21; (with_reducible refine (HAR.out _ _ _ HL2.out HL1.out.2).mono ?_); rintro e w3 ⟨rfl, hx⟩; have H3 := Aside0.mk (below_set (j := 2) (v := .bool false) (below_set (j := 1) (v := .int .i64 t') (below_set (j := 0) (v := .int .i64 f') (below_step H2.out hx) (Nat.le_of_lt hn.out)) (Nat.le_of_lt hn.out)) (Nat.le_of_lt hn.out)); have BJ3 := Aside0.mk (blk_below BR2.out hx); have BL3 := Aside0.mk (blk_below BK2.out hx); have BR3 := Aside0.mk (blk_put (cs' := #[.int .i64 f', .int .i64 t', .bool false]) (blk_put (cs' := #[.int .i64 f', .int .i64 t', .bool g1]) (blk_put (cs' := #[.int .i64 f', .int .i64 t1, .bool g1]) BJ3.out 0 (.int .i64 f') rfl) 1 (.int .i64 t') rfl) 2 (.bool false) rfl); have BK3 := Aside0.mk (blk_far (blk_far (blk_far BL3.out (p := ⟨w2.heap.size, 0, none⟩) (Nat.ne_of_lt hn.out) (.int .i64 f')) (p := ⟨w2.heap.size, 1, none⟩) (Nat.ne_of_lt hn.out) (.int .i64 t')) (p := ⟨w2.heap.size, 2, none⟩) (Nat.ne_of_lt hn.out) (.bool false)); clear hx; have hn1 := Nat.ne_of_lt hn.out; have hn2 := Nat.ne_of_gt hn.out; have u0_ := (blk_cell BJ3.out 0).trans rfl; have u1_ := (blk_cell BJ3.out 1).trans rfl; have u2_ := (blk_cell BJ3.out 2).trans rfl; have v0_ := blk_frozen BJ3.out 0; have v1_ := blk_frozen BJ3.out 1; have v2_ := blk_frozen BJ3.out 2; have c0_ := (blk_cell BK3.out 0).trans rfl; have c1_ := (blk_cell BK3.out 1).trans rfl; have c2_ := (blk_cell BK3.out 2).trans rfl; have f0_ := blk_frozen BK3.out 0; have f1_ := blk_frozen BK3.out 1; have f2_ := blk_frozen BK3.out 2; have r0_ := (blk_cell BR3.out 0).trans rfl)
    | (go_at_call 17; (with_reducible refine (HS.out f' (by omega) _ H3.out).mono ?_); rintro e w4 ⟨rfl, hx⟩; have H4 := Aside0.mk (below_step H3.out hx); have BK4 := Aside0.mk (blk_below BK3.out hx); have BR4 := Aside0.mk (blk_below BR3.out hx); clear hx; have x0_ := (blk_cell BR4.out 0).trans rfl; have x1_ := (blk_cell BR4.out 1).trans rfl)
    | (go_at_call 17; (with_reducible refine (HS.out (t' - 1) (by omega) _ H4.out).mono ?_); rintro e w5 ⟨rfl, hx⟩; have H5 := Aside0.mk (below_step H4.out hx); have BK5 := Aside0.mk (blk_below BK4.out hx); have BR5 := Aside0.mk (blk_below BR4.out hx); clear hx; have y0_ := (blk_cell BK5.out 0).trans rfl; have y1_ := (blk_cell BK5.out 1).trans rfl; have y2_ := (blk_cell BK5.out 2).trans rfl; have z0_ := blk_frozen BK5.out 0; have z1_ := blk_frozen BK5.out 1; have z2_ := blk_frozen BK5.out 2))
   exact bodyPost_ret (results_ct rfl _ _ w.heap.size 29 #[.int .i64 (startR t f').1, .int .i64 (startR t (t' - 1)).1, .int .i64 3] (0, 0) _ rfl (by refine blk_put (cs := #[.int .i64 (startR t f').1, .int .i64 (startR t (t' - 1)).1, .int .i64 0]) ?_ 2 _ rfl; refine blk_put (cs := #[.int .i64 (startR t f').1, .int .i64 0, .int .i64 0]) ?_ 1 _ rfl; refine blk_put (cs := #[.int .i64 0, .int .i64 0, .int .i64 0]) ?_ 0 _ rfl; exact BK5.out) Tryd.underlying29 rfl (by kernel_rfl)) rfl ⟨rfl, below_set (below_set (below_set H5.out (Nat.le_refl _)) (Nat.le_refl _)) (Nat.le_refl _)⟩
end Go.Proofs.YtcochbkdgjgaeaaDoor.OC2
end
