/-
  Layer 9 (seek), plainly: the n-th of the bytes that are looked for, ahead and back; what seek.Move, Again and the document's come to.
-/
import Derived.Test.YtdeohajlijalkaaLN
import Derived.Test.YtdeohajlijalkaaX11
import Derived.Test.YtdeohajlijalkaaX12
import Derived.Test.YtdeohajlijalkaaX13
import Derived.Test.YtdeohajlijalkaaX23
import Derived.Test.YtdeohajlijalkaaX17
import Derived.Test.YtdeohajlijalkaaX18
import Derived.Test.YtdeohajlijalkaaX19
import Derived.Test.YtdeohajlijalkaaX24
import Derived.Test.YtdeohajlijalkaaX14
namespace Go.Proofs.Ytdeohajlijalkaa.SK
open Go.RowKit Go.Proofs.YtdeohajlijalkaaW.PrintWords Go.Proofs.YtdeohajlijalkaaW.PrintMore Go.Proofs.Ytdeohajlijalkaa.X Go.Proofs.Ytdeohajlijalkaa.XL Go.Proofs.Ytdeohajlijalkaa.XO Go.Proofs.Ytdeohajlijalkaa.LN

/-- The n-th (from 0 on) byte b at p or behind it, among d places. -/
def nthA (t : List Int) (b : Int) : Nat → Nat → Nat → Option Nat
  | 0, _, _ => none
  | d + 1, p, n => if t.getD p 0 = b then (if n = 0 then some p else nthA t b d (p + 1) (n - 1)) else nthA t b d (p + 1) n
/-- The n-th byte b among the d places from s on, seen from the end. -/
def nthB (t : List Int) (b : Int) (s : Nat) : Nat → Nat → Option Nat
  | 0, _ => none
  | d + 1, n => if t.getD (s + d) 0 = b then (if n = 0 then some (s + d) else nthB t b s d (n - 1)) else nthB t b s d n
theorem nthA_some {t : List Int} {b : Int} : ∀ {d p n q : Nat}, nthA t b d p n = some q → p ≤ q ∧ q < p + d ∧ t.getD q 0 = b := by
  intro d
  induction d with
  | zero => intro p n q h; cases h
  | succ d ih =>
    intro p n q h
    unfold nthA at h
    split at h
    · rename_i hb
      split at h
      · obtain rfl := Option.some.inj h
        exact ⟨Nat.le_refl _, by omega, hb⟩
      · have := ih h
        exact ⟨by omega, by omega, this.2.2⟩
    · have := ih h
      exact ⟨by omega, by omega, this.2.2⟩
theorem nthB_some {t : List Int} {b : Int} {s : Nat} : ∀ {d n q : Nat}, nthB t b s d n = some q → s ≤ q ∧ q < s + d ∧ t.getD q 0 = b := by
  intro d
  induction d with
  | zero => intro n q h; cases h
  | succ d ih =>
    intro n q h
    unfold nthB at h
    split at h
    · rename_i hb
      split at h
      · obtain rfl := Option.some.inj h
        exact ⟨by omega, by omega, hb⟩
      · have := ih h
        exact ⟨by omega, by omega, this.2.2⟩
    · have := ih h
      exact ⟨by omega, by omega, this.2.2⟩
def isA (key : Int) : Bool := key == 102 || key == 116
/-- Where the byte stands for the n-th time (from 0 on), skip places beside at on. -/
def look (t : List Int) (at_ skip n : Nat) (key b : Int) : Option Nat :=
  if isA key = true then nthA t b (fin t at_ - (at_ + skip)) (at_ + skip) n else nthB t b (beg t at_) (at_ + 1 - skip - beg t at_) n
theorem look_some {t : List Int} {at_ skip n : Nat} {key b : Int} {q : Nat} (hs : 1 ≤ skip) (h : look t at_ skip n key b = some q) :
    t.getD q 0 = b ∧ beg t at_ ≤ q ∧ q < fin t at_ ∧ (isA key = true → at_ + skip ≤ q) ∧ (isA key = false → q + skip ≤ at_) := by
  have h1 := fin_ge t at_
  have h2 := beg_le t at_
  unfold look at h
  split at h
  · rename_i hk
    obtain ⟨h3, h4, h5⟩ := nthA_some h
    exact ⟨h5, by omega, by omega, fun _ => h3, fun h6 => by rw [hk] at h6; cases h6⟩
  · rename_i hk
    obtain ⟨h3, h4, h5⟩ := nthB_some h
    exact ⟨h5, h3, by omega, fun h6 => absurd h6 hk, fun _ => by omega⟩
def foundR (o : Option Nat) : Int × Bool := match o with | some q => ((q : Int), true) | none => (0, false)
theorem rd_nat (t : List Int) (p : Nat) : rd t (p : Int) = t.getD p 0 := by unfold rd; rw [Int.toNat_natCast]
section
variable {t : List Int} (hl : t.length ≤ 140737488355328)
include hl
theorem ahead_l0 (e start : Nat) (key b : Int) (he : e ≤ t.length) : ∀ (d p n : Nat), d = e - p → p ≤ t.length + 2 → start ≤ p → n ≤ 20000 →
    Ev (fun k => seek_found.l0 k t ((n : Int) + 1) (start : Int) (e : Int) 1 (p : Int) key b) (foundR (nthA t b d p n)) := by
  intro d
  induction d with
  | zero =>
    intro p n hd hp hs hn
    refine Ev.step (fun k => rfl) (Ev.pos (by omega) ?_)
    rw [decide_eq_false (by omega)]
    exact ⟨1, fun k hk => by obtain ⟨m, rfl⟩ : ∃ m, k = m + 1 := ⟨k - 1, by omega⟩; rfl⟩
  | succ d ih =>
    intro p n hd hp hs hn
    refine Ev.step (fun k => rfl) (Ev.pos (by omega) ?_)
    rw [decide_eq_true (by omega)]
    refine Ev.step (f := fun k => if 0 ≤ (p : Int) then (if (p : Int) < (t.length : Int) then (if (rd t p) = b then (if (wrap64 (((n : Int) + 1) - 1)) = 0 then (some ((p : Int), true)) else (seek_found.l0 k t (wrap64 (((n : Int) + 1) - 1)) start e 1 (wrap64 ((p : Int) + 1)) key b)) else (seek_found.l0 k t ((n : Int) + 1) start e 1 (wrap64 ((p : Int) + 1)) key b)) else none) else none) (fun k => rfl) (Ev.pos (by omega) (Ev.pos (by omega) ?_))
    rw [rd_nat, wrap64_id (n := (n : Int) + 1 - 1) (by omega) (by omega), wrap64_id (n := (p : Int) + 1) (by omega) (by omega)]
    unfold nthA
    by_cases hb : t.getD p 0 = b
    · rw [if_pos hb]
      refine Ev.pos hb ?_
      by_cases h0 : n = 0
      · subst h0
        exact Ev.pos (by simp) (Ev.now _)
      · rw [if_neg h0]
        refine Ev.neg (by omega) ?_
        have h1 := ih (p + 1) (n - 1) (by omega) (by omega) (by omega) (by omega)
        rw [show ((n - 1 : Nat) : Int) + 1 = (n : Int) + 1 - 1 from by omega, show ((p + 1 : Nat) : Int) = (p : Int) + 1 from by omega] at h1
        exact h1
    · rw [if_neg hb]
      refine Ev.neg hb ?_
      have h1 := ih (p + 1) n (by omega) (by omega) (by omega) hn
      rw [show ((p + 1 : Nat) : Int) = (p : Int) + 1 from by omega] at h1
      exact h1
theorem back_l0 (e start : Nat) (key b : Int) (he : e ≤ t.length) : ∀ (d : Nat) (p : Int) (n : Nat), d = (p + 1 - start).toNat → -3 ≤ p → p < e → n ≤ 20000 →
    Ev (fun k => seek_found.l0 k t ((n : Int) + 1) (start : Int) (e : Int) (-1) p key b) (foundR (nthB t b start d n)) := by
  intro d
  induction d with
  | zero =>
    intro p n hd hp hs hn
    exact Ev.step (fun k => rfl) (Ev.neg (by omega) ⟨1, fun k hk => by obtain ⟨m, rfl⟩ : ∃ m, k = m + 1 := ⟨k - 1, by omega⟩; rfl⟩)
  | succ d ih =>
    intro p n hd hp hs hn
    have hpd : p = ((start + d : Nat) : Int) := by omega
    subst hpd
    refine Ev.step (fun k => rfl) (Ev.pos (by omega) ?_)
    rw [decide_eq_true (by omega)]
    refine Ev.step (f := fun k => if 0 ≤ ((start + d : Nat) : Int) then (if ((start + d : Nat) : Int) < (t.length : Int) then (if (rd t ((start + d : Nat) : Int)) = b then (if (wrap64 (((n : Int) + 1) - 1)) = 0 then (some (((start + d : Nat) : Int), true)) else (seek_found.l0 k t (wrap64 (((n : Int) + 1) - 1)) start e (-1) (wrap64 (((start + d : Nat) : Int) + -1)) key b)) else (seek_found.l0 k t ((n : Int) + 1) start e (-1) (wrap64 (((start + d : Nat) : Int) + -1)) key b)) else none) else none) (fun k => rfl) (Ev.pos (by omega) (Ev.pos (by omega) ?_))
    rw [rd_nat, wrap64_id (n := (n : Int) + 1 - 1) (by omega) (by omega), wrap64_id (n := ((start + d : Nat) : Int) + -1) (by omega) (by omega)]
    unfold nthB
    by_cases hb : t.getD (start + d) 0 = b
    · rw [if_pos hb]
      refine Ev.pos hb ?_
      by_cases h0 : n = 0
      · subst h0
        exact Ev.pos (by simp) (Ev.now _)
      · rw [if_neg h0]
        refine Ev.neg (by omega) ?_
        have h1 := ih (((start + d : Nat) : Int) + -1) (n - 1) (by omega) (by omega) (by omega) (by omega)
        rw [show ((n - 1 : Nat) : Int) + 1 = (n : Int) + 1 - 1 from by omega] at h1
        exact h1
    · rw [if_neg hb]
      refine Ev.neg hb ?_
      exact ih (((start + d : Nat) : Int) + -1) n (by omega) (by omega) (by omega) hn
end
abbrev keyOk (key : Int) : Prop := key = 102 ∨ key = 70 ∨ key = 116 ∨ key = 84
section
variable {t : List Int} (hu : u8s t = true) (hl : t.length ≤ 140737488355328)
include hu hl
theorem found_ev {at_ skip n : Nat} {key b : Int} (ha : at_ ≤ t.length) (hs : 1 ≤ skip ∧ skip ≤ 2) (hn : n ≤ 20000) (hk : keyOk key) :
    Ev (fun k => seek_found.f k t at_ skip ((n : Int) + 1) key b) (foundR (look t at_ skip n key b)) := by
  refine Ev.cbind (Of_eq hu (at_ : Int)) ?_
  rw [if_pos (by omega), Int.toNat_natCast]
  refine Ev.bind (Start_of hu hl ha) (Ev.bind (End_of hu hl ha) ?_)
  have hf := fin_ge t at_
  have hf2 := fin_le ha
  have hb := beg_le t at_
  unfold look
  have hj : ∀ x45 : Bool, x45 = !(isA key) → Ev (fun k => seek_found.j0 k t at_ skip ((n : Int) + 1) (beg t at_ : Int) (fin t at_ : Int) 1 x45 key b) (foundR (if isA key = true then nthA t b (fin t at_ - (at_ + skip)) (at_ + skip) n else nthB t b (beg t at_) (at_ + 1 - skip - beg t at_) n)) := by
    intro x45 hx
    by_cases h : isA key = true
    · rw [if_pos h]
      rw [h] at hx
      subst hx
      refine Ev.step (f := fun k => seek_found.j1 k t at_ skip ((n : Int) + 1) (beg t at_ : Int) (fin t at_ : Int) 1 key b) (fun k => rfl) (Ev.step (f := fun k => seek_found.l0 k t ((n : Int) + 1) (beg t at_ : Int) (fin t at_ : Int) 1 (wrap64 ((at_ : Int) + (wrap64 ((skip : Int) * 1)))) key b) (fun k => rfl) ?_)
      rw [wrap64_id (n := (skip : Int) * 1) (by omega) (by omega), wrap64_id (n := (at_ : Int) + (skip : Int) * 1) (by omega) (by omega), show (at_ : Int) + (skip : Int) * 1 = ((at_ + skip : Nat) : Int) from by omega]
      exact ahead_l0 hl (fin t at_) (beg t at_) key b hf2 _ _ n rfl (by omega) (by omega) hn
    · rw [if_neg h]
      have hx' : x45 = true := by rw [hx]; simpa using h
      subst hx'
      refine Ev.step (f := fun k => seek_found.j1 k t at_ skip ((n : Int) + 1) (beg t at_ : Int) (fin t at_ : Int) (-1) key b) (fun k => rfl) (Ev.step (f := fun k => seek_found.l0 k t ((n : Int) + 1) (beg t at_ : Int) (fin t at_ : Int) (-1) (wrap64 ((at_ : Int) + (wrap64 ((skip : Int) * (-1))))) key b) (fun k => rfl) ?_)
      rw [wrap64_id (n := (skip : Int) * (-1)) (by omega) (by omega), wrap64_id (n := (at_ : Int) + (skip : Int) * (-1)) (by omega) (by omega)]
      exact back_l0 hl (fin t at_) (beg t at_) key b hf2 _ _ n (by omega) (by omega) (by omega) hn
  by_cases h70 : key = 70
  · exact Ev.pos h70 (hj true (by subst h70; rfl))
  · refine Ev.neg h70 (hj _ ?_)
    rcases hk with h | h | h | h <;> subst h <;> first | rfl | exact absurd rfl h70
/-- What a motion comes to: the target's ends, its kind, the error. -/
def moveR (t : List Int) (at_ skip n : Nat) (key b : Int) : Int × Int × Int × Int :=
  match look t at_ skip n key b with
  | none => (0, 0, 0, 70)
  | some q => if key = 102 then (at_, q, 2, 0) else if key = 116 then (at_, (q : Int) - 1, 2, 0) else if key = 70 then (at_, q, 1, 0) else (at_, (q : Int) + 1, 1, 0)
def cntN (count : Int) : Nat := (max count 1 - 1).toNat
theorem led_ev {at_ skip : Nat} {count : Int} {key b : Int} (ha : at_ ≤ t.length) (hs : 1 ≤ skip ∧ skip ≤ 2) (hc : 0 ≤ count ∧ count ≤ 9999) (hk : keyOk key) :
    Ev (fun k => seek_led.f k t at_ skip count key b) (moveR t at_ skip (cntN count) key b) := by
  have e : mx count 1 = ((cntN count : Nat) : Int) + 1 := by rw [mx_eq]; unfold cntN; omega
  have hn : cntN count ≤ 20000 := by unfold cntN; omega
  have hfd := found_ev hu hl (n := cntN count) (b := b) ha hs hn hk
  rw [← e] at hfd
  refine Ev.bind hfd ?_
  unfold moveR
  cases hq : look t at_ skip (cntN count) key b with
  | none => exact Ev.neg (by simp [foundR]) (Ev.now _)
  | some q =>
    have hql := (look_some hs.1 hq).2.2.1
    have hf2 := fin_le ha
    refine Ev.pos rfl (Ev.const ?_)
    simp only [foundR]
    rw [wrap64_id (n := (q : Int) - 1) (by omega) (by omega), wrap64_id (n := (q : Int) + 1) (by omega) (by omega)]
    by_cases h1 : key = 102
    · simp only [if_pos h1]
    · simp only [if_neg h1]
      by_cases h2 : key = 116
      · simp only [if_pos h2]
      · simp only [if_neg h2]
        by_cases h3 : key = 70
        · simp only [if_pos h3]
        · simp only [if_neg h3]
end
/-- Places and counts that aren't taken. -/
def badB (t : List Int) (at_ count : Int) : Bool := decide (at_ < 0 ∨ at_ > (t.length : Int) ∨ count < 0 ∨ count > 9999)
def keyB (key : Int) : Bool := decide (key = 102 ∨ key = 70 ∨ key = 116 ∨ key = 84)
theorem keyOk_of {key : Int} (h : keyB key = true) : keyOk key := of_decide_eq_true h
theorem fault_eq (t : List Int) (at_ count : Int) : seek_fault.f t at_ count = some (if badB t at_ count = true then 2 else 0) := by
  unfold seek_fault.f badB
  by_cases h1 : at_ < 0
  · simp [h1]
  · by_cases h2 : at_ > (t.length : Int)
    · simp [h1, h2]
    · by_cases h3 : count < 0
      · simp [h1, h2, h3]
      · by_cases h4 : count > 9999
        · simp [h1, h2, h3, h4]
        · simp [h1, h2, h3, h4]
theorem known_eq (key : Int) : seek_known.f key = some (keyB key) := by
  unfold seek_known.f keyB
  by_cases h1 : key = 102
  · simp [h1]
  · by_cases h2 : key = 70
    · simp [h2]
    · by_cases h3 : key = 116
      · simp [h3]
      · by_cases h4 : key = 84
        · simp [h4]
        · simp [h1, h2, h3, h4]
theorem bad_false {t : List Int} {at_ count : Int} (h : ¬ badB t at_ count = true) : 0 ≤ at_ ∧ at_ ≤ (t.length : Int) ∧ 0 ≤ count ∧ count ≤ 9999 := by
  unfold badB at h
  rw [decide_eq_true_iff] at h
  omega
def MoveR (t : List Int) (at_ count key b : Int) : Int × Int × Int × Int := if badB t at_ count = true then (0, 0, 0, 2) else if keyB key = true then moveR t at_.toNat 1 (cntN count) key b else (0, 0, 0, 2)
def turned (key : Int) (z : Bool) : Int := if z = true then Go.bits .xor .u8 key 32 else key
def skipOf (key : Int) : Nat := if key = 116 ∨ key = 84 then 2 else 1
def AgainR (t : List Int) (at_ count key b : Int) (z : Bool) : Int × Int × Int × Int := if badB t at_ count = true then (0, 0, 0, 2) else if key = 0 then (0, 0, 0, 70) else if keyB key = true then moveR t at_.toNat (skipOf (turned key z)) (cntN count) (turned key z) b else (0, 0, 0, 2)
theorem turned_ok {key : Int} (h : keyB key = true) (z : Bool) : keyOk (turned key z) := by
  rcases keyOk_of h with h | h | h | h <;> subst h <;> cases z <;> unfold turned keyOk <;> decide
section
variable {t : List Int} (hu : u8s t = true) (hl : t.length ≤ 140737488355328)
include hu hl
theorem Move_ev (at_ count key b : Int) : Ev (fun k => seek_Move.f k t at_ count key b) (MoveR t at_ count key b) := by
  refine Ev.cbind (fault_eq t at_ count) ?_
  unfold MoveR
  by_cases h : badB t at_ count = true
  · rw [if_pos h, if_pos h]
    exact Ev.neg (by decide) (Ev.now _)
  · rw [if_neg h, if_neg h]
    refine Ev.pos rfl (Ev.cbind (known_eq key) ?_)
    by_cases hk : keyB key = true
    · rw [if_pos hk]
      have hb := bad_false h
      have h1 := led_ev hu hl (at_ := at_.toNat) (skip := 1) (count := count) (key := key) (b := b) (by omega) (by omega) (by omega) (keyOk_of hk)
      rw [show ((at_.toNat : Nat) : Int) = at_ from by omega] at h1
      exact Ev.pos hk (Ev.done h1 rfl)
    · rw [if_neg hk]
      exact Ev.neg hk (Ev.now _)
theorem Again_ev (at_ count key b : Int) (z : Bool) : Ev (fun k => seek_Again.f k t at_ count key b z) (AgainR t at_ count key b z) := by
  refine Ev.cbind (fault_eq t at_ count) ?_
  unfold AgainR
  by_cases h : badB t at_ count = true
  · rw [if_pos h, if_pos h]
    exact Ev.neg (by decide) (Ev.now _)
  · rw [if_neg h, if_neg h]
    refine Ev.pos rfl ?_
    by_cases h0 : key = 0
    · rw [if_pos h0]
      exact Ev.pos h0 (Ev.now _)
    · rw [if_neg h0]
      refine Ev.neg h0 (Ev.cbind (known_eq key) ?_)
      by_cases hk : keyB key = true
      · rw [if_pos hk]
        refine Ev.pos hk ?_
        have hb := bad_false h
        have hj : ∀ key', keyOk key' → Ev (fun k => seek_Again.j0 k t at_ count key' b) (moveR t at_.toNat (skipOf key') (cntN count) key' b) := by
          intro key' hk'
          have h1 := led_ev hu hl (at_ := at_.toNat) (skip := skipOf key') (count := count) (key := key') (b := b) (by omega) (by unfold skipOf; split <;> omega) (by omega) hk'
          rw [show ((at_.toNat : Nat) : Int) = at_ from by omega] at h1
          have hj1 : ∀ x42 : Bool, x42 = decide (key' = 116 ∨ key' = 84) → Ev (fun k => seek_Again.j1 k t at_ count x42 key' b) (moveR t at_.toNat (skipOf key') (cntN count) key' b) := by
            intro x42 hx
            unfold skipOf at h1 ⊢
            by_cases hs : key' = 116 ∨ key' = 84
            · rw [if_pos hs] at h1 ⊢
              rw [decide_eq_true hs] at hx
              exact Ev.step (fun k => rfl) (Ev.pos hx (Ev.done h1 rfl))
            · rw [if_neg hs] at h1 ⊢
              rw [decide_eq_false hs] at hx
              exact Ev.step (fun k => rfl) (Ev.neg (by rw [hx]; decide) (Ev.done h1 rfl))
          by_cases h6 : key' = 116
          · exact Ev.step (fun k => rfl) (Ev.pos h6 (hj1 true (by simp [h6])))
          · exact Ev.step (fun k => rfl) (Ev.neg h6 (hj1 _ (by rw [Bool.eq_iff_iff]; simp [h6])))
        have ht := hj _ (turned_ok hk z)
        unfold turned at ht ⊢
        by_cases hz : z = true
        · rw [if_pos hz] at ht ⊢
          exact Ev.pos hz ht
        · rw [if_neg hz] at ht ⊢
          exact Ev.neg hz ht
      · rw [if_neg hk]
        exact Ev.neg hk (Ev.now _)
end
theorem awake_ev : Ev (fun k => quoinlaw09_awake.f k) true := Ev.of quoinlaw09_awake.mono (k := 40) (by decide +kernel)
end Go.Proofs.Ytdeohajlijalkaa.SK
