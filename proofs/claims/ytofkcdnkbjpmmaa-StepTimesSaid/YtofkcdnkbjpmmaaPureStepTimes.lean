/-
  StepTimes, the pure statement: one motion after the other is the motion with their count.
  Conditions: none.
-/
import Derived.Test.YtofkcdnkbjpmmaaLNP
import Derived.Test.YtofkcdnkbjpmmaaSayStepTimes
import Derived.Test.YtofkcdnkbjpmmaaX22
import Derived.Test.YtofkcdnkbjpmmaaX20
import Derived.Test.YtofkcdnkbjpmmaaX21
import Derived.Test.YtofkcdnkbjpmmaaX17
import Derived.Test.YtofkcdnkbjpmmaaX12
import Derived.Test.YtofkcdnkbjpmmaaX18
import Derived.Test.YtofkcdnkbjpmmaaX19
import Derived.Test.YtofkcdnkbjpmmaaX4
import Derived.Test.YtofkcdnkbjpmmaaX5
import Derived.Test.YtofkcdnkbjpmmaaX7
import Derived.Test.YtofkcdnkbjpmmaaX9
import Derived.Test.YtofkcdnkbjpmmaaX10
import Derived.Test.YtofkcdnkbjpmmaaX11
import Derived.Test.YtofkcdnkbjpmmaaX16
import Derived.Test.YtofkcdnkbjpmmaaX46
import Derived.Test.YtofkcdnkbjpmmaaX23
import Derived.Test.YtofkcdnkbjpmmaaX43
import Derived.Test.YtofkcdnkbjpmmaaX45
namespace Go.Proofs.Ytofkcdnkbjpmmaa.MV
open Go.RowKit Go.Proofs.YtofkcdnkbjpmmaaW.PrintWords Go.Proofs.YtofkcdnkbjpmmaaW.PrintMore Go.Proofs.Ytofkcdnkbjpmmaa.X Go.Proofs.Ytofkcdnkbjpmmaa.XL Go.Proofs.Ytofkcdnkbjpmmaa.XO Go.Proofs.Ytofkcdnkbjpmmaa.LN
abbrev R6 := Int × Int × Int × Int × Int × Bool
abbrev R5 := Int × Int × Int × Int × Int
def F6 : R6 := (0, 0, 0, 0, 70, true)
def T6 (t : List Int) (p q kind : Int) : R6 := (p, q, kind, (colR t q).1, 0, true)
def stopR (t : List Int) (x : Nat) : Prop := x = t.length ∨ t.getD x 0 ≠ 10 ∨ t.getD (x - 1) 0 = 10
instance (t : List Int) (x : Nat) : Decidable (stopR t x) := by unfold stopR; infer_instance
def nxt (t : List Int) : Nat → Nat → Option Nat
  | 0, _ => none
  | d + 1, x => if stopR t x then some x else nxt t d (x + 1)
def nx (t : List Int) (x : Nat) : Option Nat := nxt t (t.length + 1 - x) x
theorem nx_at {t : List Int} {x : Nat} (h : x ≤ t.length) : nx t x = if stopR t x then some x else nx t (x + 1) := by
  unfold nx
  rw [show t.length + 1 - x = (t.length + 1 - (x + 1)) + 1 from by omega]
  conv => lhs; unfold nxt
theorem nx_end {t : List Int} {x : Nat} (h : ¬ x ≤ t.length) : nx t x = none := by
  unfold nx
  rw [show t.length + 1 - x = 0 from by omega]
  rfl
def onwN (t : List Int) : Nat → Nat → Int → Int
  | 0, _, f => f
  | n + 1, x, f => match nx t x with
    | none => f
    | some y => onwN t n (y + 1) y
def stopL (t : List Int) (x : Nat) : Prop := t.getD x 0 ≠ 10 ∨ x = 0 ∨ t.getD (x - 1) 0 = 10
instance (t : List Int) (x : Nat) : Decidable (stopL t x) := by unfold stopL; infer_instance
def prv (t : List Int) : Nat → Option Nat
  | 0 => none
  | x + 1 => if stopL t x then some x else prv t x
def bckN (t : List Int) : Nat → Nat → Int → Int
  | 0, _, f => f
  | n + 1, x, f => match prv t x with
    | none => f
    | some y => bckN t n y y
def fin6 (t : List Int) (p f : Int) : R6 := if f < 0 then F6 else T6 t p f 1
def bytesV (t : List Int) (p n : Nat) (line : Int) (key : ByteArray) : R6 :=
  if key.toList = ([104] : List UInt8) then (if p = beg t p then F6 else T6 t p (max ((p : Int) - n) (beg t p)) 1)
  else if key.toList = ([108] : List UInt8) then (if p = fin t p then F6 else T6 t p (min ((p : Int) + n) (fin t p)) 1)
  else if key.toList = ([32] : List UInt8) then fin6 t p (onwN t n (p + 1) (-1))
  else if key.toList = ([8] : List UInt8) then fin6 t p (bckN t n p (-1))
  else if key.toList = ([48] : List UInt8) then T6 t p (beg t p) 1
  else if key.toList = ([94] : List UInt8) then T6 t p (firstR t line).1 1
  else if key.toList = ([124] : List UInt8) then (p, (atR t line ((n : Int) - 1)).1, 1, (n : Int) - 1, 0, true)
  else if key.toList = ([36] : List UInt8) then (if (endR t (line + n - 1)).2 = 0 then (p, (endR t (line + n - 1)).1, 1, -1, 0, true) else F6)
  else (0, 0, 0, 0, 0, false)
def lineV (t : List Int) (p want to_ : Int) (jk : Bool) : R6 :=
  if to_ < 0 ∨ to_ > cnt 10 t then F6 else if jk = true then (p, (atR t to_ want).1, 3, want, 0, true) else T6 t p (firstR t to_).1 3
def linesV (t : List Int) (p : Nat) (want : Int) (n : Nat) (given : Bool) (line : Int) (key : ByteArray) : R6 :=
  if key.toList = ([106] : List UInt8) then lineV t p want (line + n) true
  else if key.toList = ([43] : List UInt8) then lineV t p want (line + n) false
  else if key.toList = ([13] : List UInt8) then lineV t p want (line + n) false
  else if key.toList = ([107] : List UInt8) then lineV t p want (line - n) true
  else if key.toList = ([45] : List UInt8) then lineV t p want (line - n) false
  else if key.toList = ([95] : List UInt8) then lineV t p want (line + (n - 1)) false
  else if key.toList = ([71] : List UInt8) then lineV t p want (if given = true then (n : Int) - 1 else cnt 10 t) false
  else if key.toList = ([103, 103] : List UInt8) then lineV t p want ((n : Int) - 1) false
  else (0, 0, 0, 0, 0, false)
def five (r : R6) : R5 := (r.1, r.2.1, r.2.2.1, r.2.2.2.1, r.2.2.2.2.1)
def moveN (t : List Int) (p : Nat) (want : Int) (n : Nat) (given : Bool) (key : ByteArray) : R5 :=
  if (bytesV t p n (cnt 10 (t.take p)) key).2.2.2.2.2 = true then five (bytesV t p n (cnt 10 (t.take p)) key)
  else if (linesV t p want n given (cnt 10 (t.take p)) key).2.2.2.2.2 = true then five (linesV t p want n given (cnt 10 (t.take p)) key)
  else (0, 0, 0, 0, 2)
def moveV (t : List Int) (a want count : Int) (key : ByteArray) : R5 :=
  if (0 ≤ a ∧ a ≤ t.length) ∧ ¬ want < -1 ∧ ¬ count < 0 ∧ ¬ count > 9999 then moveN t a.toNat want (max count 1).toNat (decide (count > 0)) key else (0, 0, 0, 0, 2)
section
variable {t : List Int}
theorem to_ev (hl : t.length ≤ 140737488355328) (p want n : Int) (g : Bool) (ln ls st en q kind : Int) : Ev (fun k => step_walk_to.f k t p want n g ln ls st en q kind) (T6 t p q kind) := Ev.done (Column_ev hl q) rfl
theorem end_ev (hl : t.length ≤ 140737488355328) (f p want m : Int) (g : Bool) (ln ls st en : Int) : Ev (fun k => if f < 0 then ((step_walk_fails.f t p want m g ln ls st en).bind fun b => (some (b.1, b.2.1, b.2.2.1, b.2.2.2.1, b.2.2.2.2.1, b.2.2.2.2.2))) else ((step_walk_to.f k t p want m g ln ls st en f 1).bind fun b => (some (b.1, b.2.1, b.2.2.1, b.2.2.2.1, b.2.2.2.2.1, b.2.2.2.2.2)))) (fin6 t p f) := by
  unfold fin6
  by_cases h : f < 0
  · simp only [if_pos h]
    exact Ev.cbind rfl (Ev.now _)
  · simp only [if_neg h]
    exact Ev.done (to_ev hl p want m g ln ls st en f 1) rfl
theorem onw_fin (hl : t.length ≤ 140737488355328) (f n x : Int) (p want m : Int) (g : Bool) (ln ls st en : Int) : Ev (fun k => step_walk_onward.j1 k f n x false t p want m g ln ls st en) (fin6 t p f) := Ev.step (fun _ => rfl) (end_ev hl f p want m g ln ls st en)
theorem bck_fin (hl : t.length ≤ 140737488355328) (f n x : Int) (p want m : Int) (g : Bool) (ln ls st en : Int) : Ev (fun k => step_walk_back.j1 k f n x false t p want m g ln ls st en) (fin6 t p f) := Ev.step (fun _ => rfl) (end_ev hl f p want m g ln ls st en)
theorem onw_l0 (hl : t.length ≤ 140737488355328) (p want m : Int) (g : Bool) (ln ls st en : Int) : ∀ (d x n : Nat) (f : Int), x + d = t.length + 1 → 1 ≤ x → n ≤ 9999 → Ev (fun k => step_walk_onward.l0 k f (n : Int) (x : Int) t p want m g ln ls st en) (fin6 t p (onwN t n x f)) := by
  intro d
  induction d with
  | zero =>
    intro x n f hx h1 hn
    have e : onwN t n x f = f := by
      cases n with
      | zero => rfl
      | succ n => conv => lhs; unfold onwN
                  rw [nx_end (by omega)]
    rw [e]
    exact Ev.step (f := fun k => if (x : Int) ≤ (t.length : Int) then (step_walk_onward.j1 k f (n : Int) (x : Int) (decide ((n : Int) > 0)) t p want m g ln ls st en) else (step_walk_onward.j1 k f (n : Int) (x : Int) false t p want m g ln ls st en)) (fun _ => rfl) (Ev.neg (by omega) (onw_fin hl _ _ _ _ _ _ _ _ _ _ _))
  | succ d ih =>
    intro x n f hx h1 hn
    refine Ev.step (f := fun k => if (x : Int) ≤ (t.length : Int) then (step_walk_onward.j1 k f (n : Int) (x : Int) (decide ((n : Int) > 0)) t p want m g ln ls st en) else (step_walk_onward.j1 k f (n : Int) (x : Int) false t p want m g ln ls st en)) (fun _ => rfl) (Ev.pos (by omega) ?_)
    cases n with
    | zero =>
      rw [decide_eq_false (by omega)]
      exact onw_fin hl _ _ _ _ _ _ _ _ _ _ _
    | succ n =>
      rw [decide_eq_true (by omega)]
      have w1 : wrap64 (((n + 1 : Nat) : Int) - 1) = (n : Int) := by rw [wrap64_id (by omega) (by omega)]; omega
      have w2 : wrap64 ((x : Int) + 1) = ((x + 1 : Nat) : Int) := by rw [wrap64_id (by omega) (by omega)]; omega
      have w3 : wrap64 ((x : Int) - 1) = ((x - 1 : Nat) : Int) := by rw [wrap64_id (by omega) (by omega)]; omega
      refine Ev.step (f := fun k => if (x : Int) = (t.length : Int) then (step_walk_onward.l0 k (x : Int) (wrap64 (((n + 1 : Nat) : Int) - 1)) (wrap64 ((x : Int) + 1)) t p want m g ln ls st en) else (if 0 ≤ (x : Int) then (if (x : Int) < (t.length : Int) then (if (rd t (x : Int)) = 10 then (if 0 ≤ (wrap64 ((x : Int) - 1)) then (if (wrap64 ((x : Int) - 1)) < (t.length : Int) then (if (rd t (wrap64 ((x : Int) - 1))) = 10 then (step_walk_onward.l0 k (x : Int) (wrap64 (((n + 1 : Nat) : Int) - 1)) (wrap64 ((x : Int) + 1)) t p want m g ln ls st en) else (step_walk_onward.l0 k f ((n + 1 : Nat) : Int) (wrap64 ((x : Int) + 1)) t p want m g ln ls st en)) else (none)) else (none)) else (step_walk_onward.l0 k (x : Int) (wrap64 (((n + 1 : Nat) : Int) - 1)) (wrap64 ((x : Int) + 1)) t p want m g ln ls st en)) else (none)) else (none))) (fun _ => rfl) ?_
      rw [w1, w2, w3, rd_at, rd_at]
      clear w1 w2 w3
      have yes : stopR t x → Ev (fun k => step_walk_onward.l0 k (x : Int) (n : Int) ((x + 1 : Nat) : Int) t p want m g ln ls st en) (fin6 t p (onwN t (n + 1) x f)) := by
        intro h
        have e : onwN t (n + 1) x f = onwN t n (x + 1) x := by
          conv => lhs; unfold onwN
          rw [nx_at (by omega), if_pos h]
        rw [e]
        exact ih (x + 1) n x (by omega) (by omega) (by omega)
      by_cases hx1 : x = t.length
      · exact Ev.pos (by omega) (yes (.inl hx1))
      · refine Ev.neg (by omega) (Ev.pos (by omega) (Ev.pos (by omega) ?_))
        by_cases hx2 : t.getD x 0 = 10
        · refine Ev.pos hx2 (Ev.pos (by omega) (Ev.pos (by omega) ?_))
          by_cases hx3 : t.getD (x - 1) 0 = 10
          · exact Ev.pos hx3 (yes (.inr (.inr hx3)))
          · have hn2 : ¬ stopR t x := fun h => by
              rcases h with h | h | h
              · exact hx1 h
              · exact h hx2
              · exact hx3 h
            have e : onwN t (n + 1) x f = onwN t (n + 1) (x + 1) f := by
              conv => lhs; unfold onwN
              conv => rhs; unfold onwN
              rw [nx_at (t := t) (x := x) (by omega), if_neg hn2]
            rw [e]
            exact Ev.neg hx3 (ih (x + 1) (n + 1) f (by omega) (by omega) (by omega))
        · exact Ev.neg hx2 (yes (.inr (.inl hx2)))
theorem bck_l0 (hl : t.length ≤ 140737488355328) (p want m : Int) (g : Bool) (ln ls st en : Int) : ∀ (x n : Nat) (f : Int), x ≤ t.length → n ≤ 9999 → Ev (fun k => step_walk_back.l0 k f (n : Int) ((x : Int) - 1) t p want m g ln ls st en) (fin6 t p (bckN t n x f)) := by
  intro x
  induction x with
  | zero =>
    intro n f hx hn
    have e : bckN t n 0 f = f := by
      cases n with
      | zero => rfl
      | succ n => rfl
    rw [e]
    exact Ev.step (f := fun k => if ((0 : Nat) : Int) - 1 ≥ 0 then (step_walk_back.j1 k f (n : Int) (((0 : Nat) : Int) - 1) (decide ((n : Int) > 0)) t p want m g ln ls st en) else (step_walk_back.j1 k f (n : Int) (((0 : Nat) : Int) - 1) false t p want m g ln ls st en)) (fun _ => rfl) (Ev.neg (by omega) (bck_fin hl _ _ _ _ _ _ _ _ _ _ _))
  | succ x ih =>
    intro n f hx hn
    rw [show ((x + 1 : Nat) : Int) - 1 = (x : Int) from by omega]
    refine Ev.step (f := fun k => if (x : Int) ≥ 0 then (step_walk_back.j1 k f (n : Int) (x : Int) (decide ((n : Int) > 0)) t p want m g ln ls st en) else (step_walk_back.j1 k f (n : Int) (x : Int) false t p want m g ln ls st en)) (fun _ => rfl) (Ev.pos (by omega) ?_)
    cases n with
    | zero =>
      rw [decide_eq_false (by omega)]
      exact bck_fin hl _ _ _ _ _ _ _ _ _ _ _
    | succ n =>
      rw [decide_eq_true (by omega)]
      have w1 : wrap64 (((n + 1 : Nat) : Int) - 1) = (n : Int) := by rw [wrap64_id (by omega) (by omega)]; omega
      have w2 : wrap64 ((x : Int) - 1) = (x : Int) - 1 := wrap64_id (by omega) (by omega)
      refine Ev.step (f := fun k => if 0 ≤ (x : Int) then (if (x : Int) < (t.length : Int) then (if (rd t (x : Int)) = 10 then (if (x : Int) = 0 then (step_walk_back.l0 k (x : Int) (wrap64 (((n + 1 : Nat) : Int) - 1)) (wrap64 ((x : Int) - 1)) t p want m g ln ls st en) else (if 0 ≤ (wrap64 ((x : Int) - 1)) then (if (wrap64 ((x : Int) - 1)) < (t.length : Int) then (if (rd t (wrap64 ((x : Int) - 1))) = 10 then (step_walk_back.l0 k (x : Int) (wrap64 (((n + 1 : Nat) : Int) - 1)) (wrap64 ((x : Int) - 1)) t p want m g ln ls st en) else (step_walk_back.l0 k f ((n + 1 : Nat) : Int) (wrap64 ((x : Int) - 1)) t p want m g ln ls st en)) else (none)) else (none))) else (step_walk_back.l0 k (x : Int) (wrap64 (((n + 1 : Nat) : Int) - 1)) (wrap64 ((x : Int) - 1)) t p want m g ln ls st en)) else (none)) else (none)) (fun _ => rfl) ?_
      rw [w1, w2, rd_at]
      clear w1 w2
      have yes : stopL t x → Ev (fun k => step_walk_back.l0 k (x : Int) (n : Int) ((x : Int) - 1) t p want m g ln ls st en) (fin6 t p (bckN t (n + 1) (x + 1) f)) := by
        intro h
        have e : bckN t (n + 1) (x + 1) f = bckN t n x x := by
          conv => lhs; unfold bckN prv
          rw [if_pos h]
        rw [e]
        exact ih n x (by omega) (by omega)
      refine Ev.pos (by omega) (Ev.pos (by omega) ?_)
      by_cases hx2 : t.getD x 0 = 10
      · refine Ev.pos hx2 ?_
        by_cases hx0 : x = 0
        · exact Ev.pos (by omega) (yes (.inr (.inl hx0)))
        · rw [show (x : Int) - 1 = ((x - 1 : Nat) : Int) from by omega, rd_at]
          refine Ev.neg (by omega) (Ev.pos (by omega) (Ev.pos (by omega) ?_))
          rw [show ((x - 1 : Nat) : Int) = (x : Int) - 1 from by omega]
          by_cases hx3 : t.getD (x - 1) 0 = 10
          · exact Ev.pos hx3 (yes (.inr (.inr hx3)))
          · have hn2 : ¬ stopL t x := fun h => by
              rcases h with h | h | h
              · exact h hx2
              · exact hx0 h
              · exact hx3 h
            have e : bckN t (n + 1) (x + 1) f = bckN t (n + 1) x f := by
              conv => lhs; unfold bckN prv
              conv => rhs; unfold bckN
              rw [if_neg hn2]
            rw [e]
            exact Ev.neg hx3 (ih (n + 1) f (by omega) (by omega))
      · exact Ev.neg hx2 (yes (.inl hx2))
end
section
variable {t : List Int} (hu : u8s t = true) (hl : t.length ≤ 140737488355328)
include hu hl
theorem bytes_ev {p n : Nat} (hp : p ≤ t.length) (h1 : 1 ≤ n) (hn : n ≤ 9999) (want : Int) (g : Bool) (last_ : Int) (key : ByteArray) : Ev (fun k => step_walk_bytes.f k t (p : Int) want (n : Int) g (cnt 10 (t.take p)) last_ (beg t p : Int) (fin t p : Int) key) (bytesV t p n (cnt 10 (t.take p)) key) := by
  have hb := beg_le t p
  have hf := fin_ge t p
  have hf2 := fin_le hp
  have c0 := cnt_nonneg 10 (t.take p)
  have c1 := cnt_le 10 (t.take p)
  have c2 := List.length_take_le p t
  have f6 : ∀ (ls : Int) (st en : Int), step_walk_fails.f t (p : Int) want (n : Int) g (cnt 10 (t.take p)) ls st en = some F6 := fun _ _ _ => rfl
  by_cases k1 : key.toList = ([104] : List UInt8)
  · have e : bytesV t p n (cnt 10 (t.take p)) key = if p = beg t p then F6 else T6 t p (max ((p : Int) - n) (beg t p)) 1 := by unfold bytesV; rw [if_pos k1]
    rw [e]
    refine Ev.pos k1 ?_
    by_cases h : p = beg t p
    · rw [if_pos h]
      exact Ev.pos (by omega) (Ev.cbind (f6 _ _ _) (Ev.now _))
    · have w : mx (wrap64 ((p : Int) - n)) (beg t p : Int) = max ((p : Int) - n) (beg t p) := by rw [mx_eq, wrap64_id (by omega) (by omega)]
      rw [if_neg h, w]
      exact Ev.neg (by omega) (Ev.done (to_ev hl _ _ _ _ _ _ _ _ _ _) rfl)
  by_cases k2 : key.toList = ([108] : List UInt8)
  · have e : bytesV t p n (cnt 10 (t.take p)) key = if p = fin t p then F6 else T6 t p (min ((p : Int) + n) (fin t p)) 1 := by unfold bytesV; rw [if_neg k1, if_pos k2]
    rw [e]
    refine Ev.neg k1 (Ev.pos k2 ?_)
    by_cases h : p = fin t p
    · rw [if_pos h]
      exact Ev.pos (by omega) (Ev.cbind (f6 _ _ _) (Ev.now _))
    · have w : mn (wrap64 ((p : Int) + n)) (fin t p : Int) = min ((p : Int) + n) (fin t p) := by rw [mn_eq, wrap64_id (by omega) (by omega)]
      rw [if_neg h, w]
      exact Ev.neg (by omega) (Ev.done (to_ev hl _ _ _ _ _ _ _ _ _ _) rfl)
  by_cases k3 : key.toList = ([32] : List UInt8)
  · have e : bytesV t p n (cnt 10 (t.take p)) key = fin6 t p (onwN t n (p + 1) (-1)) := by unfold bytesV; rw [if_neg k1, if_neg k2, if_pos k3]
    rw [e]
    refine Ev.neg k1 (Ev.neg k2 (Ev.pos k3 (Ev.done (a := fin6 t p (onwN t n (p + 1) (-1))) ?_ rfl)))
    unfold step_walk_onward.f
    rw [show wrap64 ((p : Int) + 1) = ((p + 1 : Nat) : Int) from by rw [wrap64_id (by omega) (by omega)]; omega]
    exact onw_l0 hl _ _ _ _ _ _ _ _ (t.length - p) (p + 1) n (-1) (by omega) (by omega) hn
  by_cases k4 : key.toList = ([8] : List UInt8)
  · have e : bytesV t p n (cnt 10 (t.take p)) key = fin6 t p (bckN t n p (-1)) := by unfold bytesV; rw [if_neg k1, if_neg k2, if_neg k3, if_pos k4]
    rw [e]
    refine Ev.neg k1 (Ev.neg k2 (Ev.neg k3 (Ev.pos k4 (Ev.done (a := fin6 t p (bckN t n p (-1))) ?_ rfl))))
    unfold step_walk_back.f
    rw [wrap64_id (n := (p : Int) - 1) (by omega) (by omega)]
    exact bck_l0 hl _ _ _ _ _ _ _ _ p n (-1) hp hn
  by_cases k5 : key.toList = ([48] : List UInt8)
  · have e : bytesV t p n (cnt 10 (t.take p)) key = T6 t p (beg t p) 1 := by unfold bytesV; rw [if_neg k1, if_neg k2, if_neg k3, if_neg k4, if_pos k5]
    rw [e]
    exact Ev.neg k1 (Ev.neg k2 (Ev.neg k3 (Ev.neg k4 (Ev.pos k5 (Ev.done (to_ev hl _ _ _ _ _ _ _ _ _ _) rfl)))))
  by_cases k6 : key.toList = ([94] : List UInt8)
  · have e : bytesV t p n (cnt 10 (t.take p)) key = T6 t p (firstR t (cnt 10 (t.take p))).1 1 := by unfold bytesV; rw [if_neg k1, if_neg k2, if_neg k3, if_neg k4, if_neg k5, if_pos k6]
    rw [e]
    exact Ev.neg k1 (Ev.neg k2 (Ev.neg k3 (Ev.neg k4 (Ev.neg k5 (Ev.pos k6 (Ev.bind (First_ev hu hl _ (by omega)) (Ev.done (to_ev hl _ _ _ _ _ _ _ _ _ _) rfl)))))))
  by_cases k7 : key.toList = ([124] : List UInt8)
  · have e : bytesV t p n (cnt 10 (t.take p)) key = ((p : Int), (atR t (cnt 10 (t.take p)) ((n : Int) - 1)).1, 1, (n : Int) - 1, 0, true) := by unfold bytesV; rw [if_neg k1, if_neg k2, if_neg k3, if_neg k4, if_neg k5, if_neg k6, if_pos k7]
    have w : wrap64 ((n : Int) - 1) = (n : Int) - 1 := wrap64_id (by omega) (by omega)
    rw [e]
    refine Ev.neg k1 (Ev.neg k2 (Ev.neg k3 (Ev.neg k4 (Ev.neg k5 (Ev.neg k6 (Ev.pos k7 ?_))))))
    rw [w]
    exact Ev.done (At_ev hu hl _ _ (by omega)) rfl
  by_cases k8 : key.toList = ([36] : List UInt8)
  · have e : bytesV t p n (cnt 10 (t.take p)) key = if (endR t (cnt 10 (t.take p) + n - 1)).2 = 0 then ((p : Int), (endR t (cnt 10 (t.take p) + n - 1)).1, 1, -1, 0, true) else F6 := by unfold bytesV; rw [if_neg k1, if_neg k2, if_neg k3, if_neg k4, if_neg k5, if_neg k6, if_neg k7, if_pos k8]
    have w : wrap64 ((wrap64 (cnt 10 (t.take p) + (n : Int))) - 1) = cnt 10 (t.take p) + (n : Int) - 1 := by rw [wrap64_id (n := cnt 10 (t.take p) + (n : Int)) (by omega) (by omega), wrap64_id (by omega) (by omega)]
    rw [e]
    refine Ev.neg k1 (Ev.neg k2 (Ev.neg k3 (Ev.neg k4 (Ev.neg k5 (Ev.neg k6 (Ev.neg k7 (Ev.pos k8 ?_)))))))
    rw [w]
    refine Ev.bind (End_ev hu hl _ (by omega)) ?_
    by_cases h : (endR t (cnt 10 (t.take p) + n - 1)).2 = 0
    · rw [if_pos h, if_pos h]
      exact Ev.now _
    · rw [if_neg h, if_neg h]
      exact Ev.cbind (f6 _ _ _) (Ev.now _)
  have e : bytesV t p n (cnt 10 (t.take p)) key = (0, 0, 0, 0, 0, false) := by unfold bytesV; rw [if_neg k1, if_neg k2, if_neg k3, if_neg k4, if_neg k5, if_neg k6, if_neg k7, if_neg k8]
  rw [e]
  exact Ev.neg k1 (Ev.neg k2 (Ev.neg k3 (Ev.neg k4 (Ev.neg k5 (Ev.neg k6 (Ev.neg k7 (Ev.neg k8 (Ev.now _))))))))
theorem lines_j5 (p want n to_ : Int) (g : Bool) (ln ls st en : Int) (jk : Bool) (hto : to_ ≤ 9223372036854775807) : Ev (fun k => step_walk_lines.j5 k to_ jk t p want n g ln ls st en) (if jk = true then (p, (atR t to_ want).1, 3, want, 0, true) else T6 t p (firstR t to_).1 3) := by
  refine Ev.step (f := fun k => if jk = true then ((lines_At.f k t to_ want).bind fun bt240 => (some (p, bt240.1, 3, want, 0, true))) else ((lines_First.f k t to_).bind fun bt242 => ((step_walk_to.f k t p want n g ln ls st en bt242.1 3).bind fun bt244 => (some (bt244.1, bt244.2.1, bt244.2.2.1, bt244.2.2.2.1, bt244.2.2.2.2.1, bt244.2.2.2.2.2))))) (fun _ => rfl) ?_
  cases jk with
  | true => exact Ev.pos rfl (Ev.done (At_ev hu hl to_ want hto) rfl)
  | false => exact Ev.neg (by decide) (Ev.bind (First_ev hu hl to_ hto) (Ev.done (to_ev hl _ _ _ _ _ _ _ _ _ _) rfl))
theorem lines_j3 (p want n to_ : Int) (g : Bool) (ln st en : Int) (key : ByteArray) (jk : Bool) (hto : to_ ≤ 9223372036854775807) (hk : jk = true ↔ (key.toList = ([106] : List UInt8) ∨ key.toList = ([107] : List UInt8))) : Ev (fun k => step_walk_lines.j3 k key to_ t p want n g ln (cnt 10 t) st en) (lineV t p want to_ jk) := by
  have j5 := lines_j5 hu hl p want n to_ g ln (cnt 10 t) st en jk hto
  have j4f : ¬ (to_ < 0 ∨ to_ > cnt 10 t) → Ev (fun k => step_walk_lines.j4 k key to_ false t p want n g ln (cnt 10 t) st en) (lineV t p want to_ jk) := by
    intro h
    have e : lineV t p want to_ jk = (if jk = true then (p, (atR t to_ want).1, 3, want, 0, true) else T6 t p (firstR t to_).1 3) := by unfold lineV; rw [if_neg h]
    rw [e]
    refine Ev.step (f := fun k => if key.toList = ([106] : List UInt8) then (step_walk_lines.j5 k to_ true t p want n g ln (cnt 10 t) st en) else (step_walk_lines.j5 k to_ (key.toList == ([107] : List UInt8)) t p want n g ln (cnt 10 t) st en)) (fun _ => rfl) ?_
    by_cases h1 : key.toList = ([106] : List UInt8)
    · have : jk = true := hk.2 (.inl h1)
      subst this
      exact Ev.pos h1 j5
    · refine Ev.neg h1 ?_
      have : (key.toList == ([107] : List UInt8)) = jk := by
        cases jk with
        | true =>
          rcases hk.1 rfl with h2 | h2
          · exact absurd h2 h1
          · exact beq_iff_eq.2 h2
        | false => exact beq_eq_false_iff_ne.2 (fun h2 => by have := hk.2 (.inr h2); cases this)
      rw [this]
      exact j5
  have j4t : (to_ < 0 ∨ to_ > cnt 10 t) → Ev (fun k => step_walk_lines.j4 k key to_ true t p want n g ln (cnt 10 t) st en) (lineV t p want to_ jk) := by
    intro h
    have e : lineV t p want to_ jk = F6 := by unfold lineV; rw [if_pos h]
    rw [e]
    exact Ev.step (f := fun _ => (step_walk_fails.f t p want n g ln (cnt 10 t) st en).bind fun bt234 => (some (bt234.1, bt234.2.1, bt234.2.2.1, bt234.2.2.2.1, bt234.2.2.2.2.1, bt234.2.2.2.2.2))) (fun _ => rfl) (Ev.cbind rfl (Ev.now _))
  refine Ev.step (f := fun k => if to_ < 0 then (step_walk_lines.j4 k key to_ true t p want n g ln (cnt 10 t) st en) else (step_walk_lines.j4 k key to_ (decide (to_ > cnt 10 t)) t p want n g ln (cnt 10 t) st en)) (fun _ => rfl) ?_
  by_cases h0 : to_ < 0
  · exact Ev.pos h0 (j4t (.inl h0))
  · refine Ev.neg h0 ?_
    by_cases h1 : to_ > cnt 10 t
    · rw [decide_eq_true h1]
      exact j4t (.inr h1)
    · rw [decide_eq_false h1]
      exact j4f (fun h => h.elim h0 h1)
theorem lines_ev {p n : Nat} (hp : p ≤ t.length) (h1 : 1 ≤ n) (hn : n ≤ 9999) (want : Int) (g : Bool) (st en : Int) (key : ByteArray) : Ev (fun k => step_walk_lines.f k t (p : Int) want (n : Int) g (cnt 10 (t.take p)) (cnt 10 t) st en key) (linesV t p want n g (cnt 10 (t.take p)) key) := by
  have c0 := cnt_nonneg 10 (t.take p)
  have c1 := cnt_le 10 (t.take p)
  have c2 := List.length_take_le p t
  have c3 := cnt_nonneg 10 t
  have c4 := cnt_le 10 t
  have w1 : wrap64 (cnt 10 (t.take p) + (n : Int)) = cnt 10 (t.take p) + (n : Int) := wrap64_id (by omega) (by omega)
  have w2 : wrap64 (cnt 10 (t.take p) - (n : Int)) = cnt 10 (t.take p) - (n : Int) := wrap64_id (by omega) (by omega)
  have w3 : wrap64 ((n : Int) - 1) = (n : Int) - 1 := wrap64_id (by omega) (by omega)
  have w4 : wrap64 (cnt 10 (t.take p) + ((n : Int) - 1)) = cnt 10 (t.take p) + ((n : Int) - 1) := wrap64_id (by omega) (by omega)
  have J := fun (to_ : Int) (jk : Bool) (h : to_ ≤ 9223372036854775807) hk => lines_j3 hu hl (p : Int) want (n : Int) to_ g (cnt 10 (t.take p)) st en key jk h hk
  have j0t : ∀ jk : Bool, (jk = true ↔ (key.toList = ([106] : List UInt8) ∨ key.toList = ([107] : List UInt8))) → Ev (fun k => step_walk_lines.j0 k key (cnt 10 (t.take p)) key true t (p : Int) want (n : Int) g (cnt 10 (t.take p)) (cnt 10 t) st en) (lineV t p want (cnt 10 (t.take p) + n) jk) := by
    intro jk hk
    refine Ev.step (f := fun k => step_walk_lines.j3 k key (wrap64 (cnt 10 (t.take p) + (n : Int))) t (p : Int) want (n : Int) g (cnt 10 (t.take p)) (cnt 10 t) st en) (fun _ => rfl) ?_
    rw [w1]
    exact J _ jk (by omega) hk
  have j1t : ∀ jk : Bool, (jk = true ↔ (key.toList = ([106] : List UInt8) ∨ key.toList = ([107] : List UInt8))) → Ev (fun k => step_walk_lines.j1 k key (cnt 10 (t.take p)) key true t (p : Int) want (n : Int) g (cnt 10 (t.take p)) (cnt 10 t) st en) (lineV t p want (cnt 10 (t.take p) - n) jk) := by
    intro jk hk
    refine Ev.step (f := fun k => step_walk_lines.j3 k key (wrap64 (cnt 10 (t.take p) - (n : Int))) t (p : Int) want (n : Int) g (cnt 10 (t.take p)) (cnt 10 t) st en) (fun _ => rfl) ?_
    rw [w2]
    exact J _ jk (by omega) hk
  by_cases k1 : key.toList = ([106] : List UInt8)
  · have e : linesV t p want n g (cnt 10 (t.take p)) key = lineV t p want (cnt 10 (t.take p) + n) true := by unfold linesV; rw [if_pos k1]
    rw [e]
    refine Ev.pos k1 ?_
    rw [beq_iff_eq.2 k1]
    exact j0t true ⟨fun _ => .inl k1, fun _ => rfl⟩
  by_cases k2 : key.toList = ([43] : List UInt8)
  · have e : linesV t p want n g (cnt 10 (t.take p)) key = lineV t p want (cnt 10 (t.take p) + n) false := by unfold linesV; rw [if_neg k1, if_pos k2]
    rw [e]
    refine Ev.neg k1 (Ev.pos k2 ?_)
    rw [beq_iff_eq.2 k2]
    exact j0t false ⟨(fun h => by cases h), (fun h => by rw [k2] at h; simp at h)⟩
  by_cases k3 : key.toList = ([13] : List UInt8)
  · have e : linesV t p want n g (cnt 10 (t.take p)) key = lineV t p want (cnt 10 (t.take p) + n) false := by unfold linesV; rw [if_neg k1, if_neg k2, if_pos k3]
    rw [e]
    refine Ev.neg k1 (Ev.neg k2 ?_)
    rw [beq_iff_eq.2 k3]
    exact j0t false ⟨(fun h => by cases h), (fun h => by rw [k3] at h; simp at h)⟩
  have j0f : ∀ {r : R6}, Ev (fun k => if key.toList = ([107] : List UInt8) then (step_walk_lines.j1 k key (cnt 10 (t.take p)) key (key.toList == ([107] : List UInt8)) t (p : Int) want (n : Int) g (cnt 10 (t.take p)) (cnt 10 t) st en) else (step_walk_lines.j1 k key (cnt 10 (t.take p)) key (key.toList == ([45] : List UInt8)) t (p : Int) want (n : Int) g (cnt 10 (t.take p)) (cnt 10 t) st en)) r → Ev (fun k => step_walk_lines.f k t (p : Int) want (n : Int) g (cnt 10 (t.take p)) (cnt 10 t) st en key) r := by
    intro r h
    refine Ev.neg k1 (Ev.neg k2 ?_)
    rw [beq_eq_false_iff_ne.2 k3]
    exact Ev.step (fun _ => rfl) h
  by_cases k4 : key.toList = ([107] : List UInt8)
  · have e : linesV t p want n g (cnt 10 (t.take p)) key = lineV t p want (cnt 10 (t.take p) - n) true := by unfold linesV; rw [if_neg k1, if_neg k2, if_neg k3, if_pos k4]
    rw [e]
    refine j0f (Ev.pos k4 ?_)
    rw [beq_iff_eq.2 k4]
    exact j1t true ⟨fun _ => .inr k4, fun _ => rfl⟩
  have nk : ∀ b : Bool, b = false → (b = true ↔ (key.toList = ([106] : List UInt8) ∨ key.toList = ([107] : List UInt8))) := fun b hb => ⟨(fun h => by rw [hb] at h; cases h), fun h => h.elim (fun h => absurd h k1) (fun h => absurd h k4)⟩
  by_cases k5 : key.toList = ([45] : List UInt8)
  · have e : linesV t p want n g (cnt 10 (t.take p)) key = lineV t p want (cnt 10 (t.take p) - n) false := by unfold linesV; rw [if_neg k1, if_neg k2, if_neg k3, if_neg k4, if_pos k5]
    rw [e]
    refine j0f (Ev.neg k4 ?_)
    rw [beq_iff_eq.2 k5]
    exact j1t false (nk false rfl)
  have j1f : ∀ {r : R6}, Ev (fun k => if key.toList = ([95] : List UInt8) then (step_walk_lines.j3 k key (wrap64 (cnt 10 (t.take p) + (wrap64 ((n : Int) - 1)))) t (p : Int) want (n : Int) g (cnt 10 (t.take p)) (cnt 10 t) st en) else (if key.toList = ([71] : List UInt8) then (step_walk_lines.j2 k key (key.toList == ([71] : List UInt8)) t (p : Int) want (n : Int) g (cnt 10 (t.take p)) (cnt 10 t) st en) else (step_walk_lines.j2 k key (key.toList == ([103, 103] : List UInt8)) t (p : Int) want (n : Int) g (cnt 10 (t.take p)) (cnt 10 t) st en))) r → Ev (fun k => step_walk_lines.f k t (p : Int) want (n : Int) g (cnt 10 (t.take p)) (cnt 10 t) st en key) r := by
    intro r h
    refine j0f (Ev.neg k4 ?_)
    rw [beq_eq_false_iff_ne.2 k5]
    exact Ev.step (fun _ => rfl) h
  by_cases k6 : key.toList = ([95] : List UInt8)
  · have e : linesV t p want n g (cnt 10 (t.take p)) key = lineV t p want (cnt 10 (t.take p) + ((n : Int) - 1)) false := by unfold linesV; rw [if_neg k1, if_neg k2, if_neg k3, if_neg k4, if_neg k5, if_pos k6]
    rw [e]
    refine j1f (Ev.pos k6 ?_)
    rw [w3, w4]
    exact J _ false (by omega) (nk false rfl)
  have j2t : ∀ {r : R6}, Ev (fun k => if key.toList = ([71] : List UInt8) then (if g = true then (step_walk_lines.j3 k key (wrap64 ((n : Int) - 1)) t (p : Int) want (n : Int) g (cnt 10 (t.take p)) (cnt 10 t) st en) else (step_walk_lines.j3 k key (cnt 10 t) t (p : Int) want (n : Int) g (cnt 10 (t.take p)) (cnt 10 t) st en)) else (step_walk_lines.j3 k key (wrap64 ((n : Int) - 1)) t (p : Int) want (n : Int) g (cnt 10 (t.take p)) (cnt 10 t) st en)) r → Ev (fun k => step_walk_lines.j2 k key true t (p : Int) want (n : Int) g (cnt 10 (t.take p)) (cnt 10 t) st en) r := fun h => Ev.step (fun _ => rfl) h
  by_cases k7 : key.toList = ([71] : List UInt8)
  · have e : linesV t p want n g (cnt 10 (t.take p)) key = lineV t p want (if g = true then (n : Int) - 1 else cnt 10 t) false := by unfold linesV; rw [if_neg k1, if_neg k2, if_neg k3, if_neg k4, if_neg k5, if_neg k6, if_pos k7]
    rw [e]
    refine j1f (Ev.neg k6 (Ev.pos k7 ?_))
    rw [beq_iff_eq.2 k7]
    refine j2t (Ev.pos k7 ?_)
    cases g with
    | true =>
      rw [w3]
      exact Ev.pos rfl (J _ false (by omega) (nk false rfl))
    | false => exact Ev.neg (by decide) (J _ false (by omega) (nk false rfl))
  by_cases k8 : key.toList = ([103, 103] : List UInt8)
  · have e : linesV t p want n g (cnt 10 (t.take p)) key = lineV t p want ((n : Int) - 1) false := by unfold linesV; rw [if_neg k1, if_neg k2, if_neg k3, if_neg k4, if_neg k5, if_neg k6, if_neg k7, if_pos k8]
    rw [e]
    refine j1f (Ev.neg k6 (Ev.neg k7 ?_))
    rw [beq_iff_eq.2 k8]
    refine j2t (Ev.neg k7 ?_)
    rw [w3]
    exact J _ false (by omega) (nk false rfl)
  have e : linesV t p want n g (cnt 10 (t.take p)) key = (0, 0, 0, 0, 0, false) := by unfold linesV; rw [if_neg k1, if_neg k2, if_neg k3, if_neg k4, if_neg k5, if_neg k6, if_neg k7, if_neg k8]
  rw [e]
  refine j1f (Ev.neg k6 (Ev.neg k7 ?_))
  rw [beq_eq_false_iff_ne.2 k8]
  exact Ev.step (f := fun _ => some (0, 0, 0, 0, 0, false)) (fun _ => rfl) (Ev.now _)
theorem move_ev (a want count : Int) (key : ByteArray) : Ev (fun k => step_Move.f k t a want count key) (moveV t a want count key) := by
  have bad : ∀ x : Int, Ev (fun k => step_Move.j0 k t a want count key x true) (0, 0, 0, 0, 2) := fun x => Ev.step (f := fun _ => some (0, 0, 0, 0, 2)) (fun _ => rfl) (Ev.now _)
  have o1 := Of_eq hu a
  refine Ev.cbind o1 ?_
  by_cases h0 : 0 ≤ a ∧ a ≤ t.length
  · rw [if_pos h0]
    refine Ev.pos rfl ?_
    by_cases h1 : want < -1
    · have e : moveV t a want count key = (0, 0, 0, 0, 2) := by unfold moveV; rw [if_neg (fun h => h.2.1 h1)]
      rw [e]
      exact Ev.pos h1 (bad _)
    by_cases h2 : count < 0
    · have e : moveV t a want count key = (0, 0, 0, 0, 2) := by unfold moveV; rw [if_neg (fun h => h.2.2.1 h2)]
      rw [e]
      exact Ev.neg h1 (Ev.pos h2 (bad _))
    by_cases h3 : count > 9999
    · have e : moveV t a want count key = (0, 0, 0, 0, 2) := by unfold moveV; rw [if_neg (fun h => h.2.2.2 h3)]
      rw [e]
      refine Ev.neg h1 (Ev.neg h2 ?_)
      rw [decide_eq_true h3]
      exact bad _
    have e : moveV t a want count key = moveN t a.toNat want (max count 1).toNat (decide (count > 0)) key := by unfold moveV; rw [if_pos ⟨h0, h1, h2, h3⟩]
    rw [e]
    refine Ev.neg h1 (Ev.neg h2 ?_)
    rw [decide_eq_false h3]
    obtain ⟨p, rfl⟩ := Int.eq_ofNat_of_zero_le h0.1
    have hp : p ≤ t.length := by omega
    simp only [Int.toNat_natCast]
    obtain ⟨n, hn⟩ : ∃ n : Nat, max count 1 = (n : Int) := ⟨(max count 1).toNat, by omega⟩
    have hm : mx count 1 = (n : Int) := by rw [mx_eq, hn]
    have c3 := cnt_nonneg 10 t
    have c4 := cnt_le 10 t
    have hw : wrap64 (cnt 10 t + 1 - 1) = cnt 10 t := by rw [wrap64_id (by omega) (by omega)]; omega
    have b1 := bytes_ev hu hl hp (n := n) (by omega) (by omega) want (decide (count > 0)) (cnt 10 t) key
    have l1 := lines_ev hu hl hp (n := n) (by omega) (by omega) want (decide (count > 0)) (beg t p) (fin t p) key
    rw [hn, Int.toNat_natCast]
    refine Ev.step (f := fun k => (lines_Count.f t).bind fun t253 => ((lines_Start.f k t (cnt 10 (t.take p))).bind fun bt255 => ((lines_End.f k t (cnt 10 (t.take p))).bind fun bt257 => ((step_walk_bytes.f k t (p : Int) want (mx count 1) (decide (count > 0)) (cnt 10 (t.take p)) (wrap64 (t253 - 1)) bt255.1 bt257.1 key).bind fun bt259 => (if bt259.2.2.2.2.2 = true then (some (bt259.1, bt259.2.1, bt259.2.2.1, bt259.2.2.2.1, bt259.2.2.2.2.1)) else ((step_walk_lines.f k t (p : Int) want (mx count 1) (decide (count > 0)) (cnt 10 (t.take p)) (wrap64 (t253 - 1)) bt255.1 bt257.1 key).bind fun bt266 => (if bt266.2.2.2.2.2 = true then (some (bt266.1, bt266.2.1, bt266.2.2.1, bt266.2.2.2.1, bt266.2.2.2.2.1)) else (some (0, 0, 0, 0, 2))))))))) (fun _ => rfl) (Ev.cbind (Count_eq hu hl) (Ev.bind (Start_of hu hl hp) (Ev.bind (End_of hu hl hp) ?_)))
    rw [hm, hw]
    refine Ev.bind b1 ?_
    by_cases h4 : (bytesV t p n (cnt 10 (t.take p)) key).2.2.2.2.2 = true
    · have e2 : moveN t p want n (decide (count > 0)) key = five (bytesV t p n (cnt 10 (t.take p)) key) := by unfold moveN; rw [if_pos h4]
      rw [e2]
      exact Ev.pos h4 (Ev.now _)
    · refine Ev.neg h4 (Ev.bind l1 ?_)
      by_cases h5 : (linesV t p want n (decide (count > 0)) (cnt 10 (t.take p)) key).2.2.2.2.2 = true
      · have e2 : moveN t p want n (decide (count > 0)) key = five (linesV t p want n (decide (count > 0)) (cnt 10 (t.take p)) key) := by unfold moveN; rw [if_neg h4, if_pos h5]
        rw [e2]
        exact Ev.pos h5 (Ev.now _)
      · have e2 : moveN t p want n (decide (count > 0)) key = (0, 0, 0, 0, 2) := by unfold moveN; rw [if_neg h4, if_neg h5]
        rw [e2]
        exact Ev.neg h5 (Ev.now _)
  · have e : moveV t a want count key = (0, 0, 0, 0, 2) := by unfold moveV; rw [if_neg (fun h => h0 h.1)]
    rw [if_neg h0, e]
    exact Ev.neg (by decide) (bad _)
end
end Go.Proofs.Ytofkcdnkbjpmmaa.MV
namespace Go.Proofs.Ytofkcdnkbjpmmaa.Pure
open Go.RowKit Go.Proofs.YtofkcdnkbjpmmaaW.PrintWords Go.Proofs.YtofkcdnkbjpmmaaW.PrintMore Go.Proofs.Ytofkcdnkbjpmmaa.X Go.Proofs.Ytofkcdnkbjpmmaa.XL Go.Proofs.Ytofkcdnkbjpmmaa.XO Go.Proofs.Ytofkcdnkbjpmmaa.LN Go.Proofs.Ytofkcdnkbjpmmaa.MV
theorem awake_ev : Ev (fun k => quoinlaw07_awake.f k) true := Ev.of quoinlaw07_awake.mono (k := 60) (by decide +kernel)
section
variable {t : List Int}
theorem sg_ex : ∀ (n p : Nat), p ≤ t.length → isSt t p → cnt 10 (t.take p) + n ≤ cnt 10 t → ∃ q, sg t p n = some q := by
  intro n
  induction n with
  | zero => intro p _ _ _; exact ⟨p, rfl⟩
  | succ n ih =>
    intro p hp hs hc
    have hf := fin_ge t p
    by_cases h : fin t p < t.length
    · obtain ⟨q, hq⟩ := ih (fin t p + 1) (by omega) (.inr (fin_at h)) (by rw [cnt_next h]; omega)
      exact ⟨q, by unfold sg; rw [if_pos h]; exact hq⟩
    · exfalso
      have hf2 := fin_le hp
      have h1 := cnt_same (t := t) (p := p) (q := t.length) hp (Nat.le_refl _) (fun j a b => fin_ne a (by omega))
      rw [List.take_length] at h1
      omega
theorem startR_ex {l : Int} (h0 : 0 ≤ l) (h1 : l ≤ cnt 10 t) : ∃ s : Nat, s ≤ t.length ∧ isSt t s ∧ startR t l = ((s : Int), 0) ∧ cnt 10 (t.take s) = l := by
  obtain ⟨q, hq⟩ := sg_ex (t := t) l.toNat 0 (Nat.zero_le _) (.inl rfl) (by rw [show cnt 10 (t.take 0) = 0 from rfl]; omega)
  rcases startR_cases t l with e | ⟨s, h2, h3, e, _, h4⟩
  · unfold startR at e
    rw [if_neg (by omega), hq] at e
    simp at e
  · exact ⟨s, h2, h3, e, h4⟩
theorem cnt_in {s q : Nat} (h1 : s ≤ q) (h2 : q ≤ fin t s) (hs : s ≤ t.length) : cnt 10 (t.take q) = cnt 10 (t.take s) := cnt_same h1 (Nat.le_trans h2 (fin_le hs)) (fun _ a b => fin_ne a (Nat.lt_of_lt_of_le b h2))
theorem atV_in {s : Nat} (c : Int) (hc : -1 ≤ c) : ∃ q : Nat, atV t s c = (q : Int) ∧ s ≤ q ∧ q ≤ fin t s := by
  have hf := fin_ge t s
  have hl : s ≤ last t s ∧ last t s ≤ fin t s := by unfold last; omega
  unfold atV
  by_cases h1 : c = -1
  · rw [if_pos h1]; exact ⟨_, rfl, hl.1, hl.2⟩
  · rw [if_neg h1]
    by_cases h2 : c > (last t s : Int) - s
    · rw [if_pos h2]; exact ⟨_, rfl, hl.1, hl.2⟩
    · rw [if_neg h2]; exact ⟨s + c.toNat, by omega, by omega, by omega⟩
theorem atR_line {l c : Int} (h0 : 0 ≤ l) (h1 : l ≤ cnt 10 t) (hc : -1 ≤ c) : ∃ q : Nat, (atR t l c).1 = (q : Int) ∧ q ≤ t.length ∧ cnt 10 (t.take q) = l := by
  obtain ⟨s, h2, _, e, h4⟩ := startR_ex h0 h1
  obtain ⟨q, h5, h6, h7⟩ := atV_in (t := t) (s := s) c hc
  refine ⟨q, ?_, Nat.le_trans h7 (fin_le h2), by rw [cnt_in h6 h7 h2, h4]⟩
  unfold atR
  rw [e, if_pos rfl, if_neg (by omega)]
  exact h5
theorem onw_comp {q y : Nat} (hy : nx t (q + 1) = some y) : ∀ (n x : Nat) (f : Int), (f = -1 ∨ ∃ z : Nat, f = (z : Int) ∧ x = z + 1) → onwN t n x f = (q : Int) → onwN t (n + 1) x f = (y : Int) := by
  intro n
  induction n with
  | zero =>
    intro x f hf h
    have h0 : f = (q : Int) := h
    rcases hf with e | ⟨z, e, ex⟩
    · omega
    · obtain rfl : z = q := by omega
      subst ex
      unfold onwN
      rw [hy]
      rfl
  | succ n ih =>
    intro x f hf h
    unfold onwN at h ⊢
    cases e : nx t x with
    | none =>
      rw [e] at h
      have h0 : f = (q : Int) := h
      rcases hf with e2 | ⟨z, e2, ex⟩
      · omega
      · obtain rfl : z = q := by omega
        subst ex
        rw [e] at hy
        cases hy
    | some z =>
      rw [e] at h
      exact ih (z + 1) z (.inr ⟨z, rfl, rfl⟩) h
theorem bck_comp {q y : Nat} (hy : prv t q = some y) : ∀ (n x : Nat) (f : Int), (f = -1 ∨ ∃ z : Nat, f = (z : Int) ∧ x = z) → bckN t n x f = (q : Int) → bckN t (n + 1) x f = (y : Int) := by
  intro n
  induction n with
  | zero =>
    intro x f hf h
    have h0 : f = (q : Int) := h
    rcases hf with e | ⟨z, e, ex⟩
    · omega
    · obtain rfl : z = q := by omega
      subst ex
      unfold bckN
      rw [hy]
      rfl
  | succ n ih =>
    intro x f hf h
    unfold bckN at h ⊢
    cases e : prv t x with
    | none =>
      rw [e] at h
      have h0 : f = (q : Int) := h
      rcases hf with e2 | ⟨z, e2, ex⟩
      · omega
      · obtain rfl : z = q := by omega
        subst ex
        rw [e] at hy
        cases hy
    | some z =>
      rw [e] at h
      exact ih z z (.inr ⟨z, rfl, rfl⟩) h
theorem onw_one {x : Nat} {g : Int} (h : onwN t 1 x (-1) = g) (hg : ¬ g < 0) : ∃ y : Nat, nx t x = some y ∧ g = (y : Int) := by
  unfold onwN at h
  cases e : nx t x with
  | none => rw [e] at h; exact absurd h (by intro h; simp at h; omega)
  | some y => rw [e] at h; exact ⟨y, rfl, h.symm⟩
theorem bck_one {x : Nat} {g : Int} (h : bckN t 1 x (-1) = g) (hg : ¬ g < 0) : ∃ y : Nat, prv t x = some y ∧ g = (y : Int) := by
  unfold bckN at h
  cases e : prv t x with
  | none => rw [e] at h; exact absurd h (by intro h; simp at h; omega)
  | some y => rw [e] at h; exact ⟨y, rfl, h.symm⟩
theorem beg_same {p q : Nat} (h1 : beg t p ≤ q) (h2 : q ≤ p) : beg t q = beg t p := (beg_unique h1 (beg_st t p) (fun _ a b => beg_ne a (by omega))).symm
theorem fin_same {p q : Nat} (hp : p ≤ t.length) (h1 : p ≤ q) (h2 : q ≤ fin t p) : fin t q = fin t p := (fin_unique h2 (fin_le hp) (fun _ a b => fin_ne (by omega) b) (fun h => fin_at h)).symm
theorem moveV_ok {a w c : Int} {key : ByteArray} {f g kd w' : Int} (h : moveV t a w c key = (f, g, kd, w', 0)) : (0 ≤ a ∧ a ≤ t.length) ∧ ¬ w < -1 ∧ ¬ c < 0 ∧ ¬ c > 9999 ∧ moveN t a.toNat w (max c 1).toNat (decide (c > 0)) key = (f, g, kd, w', 0) := by
  unfold moveV at h
  by_cases hc : (0 ≤ a ∧ a ≤ t.length) ∧ ¬ w < -1 ∧ ¬ c < 0 ∧ ¬ c > 9999
  · rw [if_pos hc] at h
    exact ⟨hc.1, hc.2.1, hc.2.2.1, hc.2.2.2, h⟩
  · rw [if_neg hc] at h
    exfalso
    have h2 : (2 : Int) = 0 := congrArg (fun r : R5 => r.2.2.2.2) h
    omega
theorem moveV_of {p n : Nat} {w : Int} {key : ByteArray} (hp : p ≤ t.length) (hw : ¬ w < -1) (h1 : 1 ≤ n) (hn : n ≤ 9999) : moveV t (p : Int) w (n : Int) key = moveN t p w n true key := by
  unfold moveV
  rw [if_pos ⟨⟨by omega, by omega⟩, hw, by omega, by omega⟩, decide_eq_true (by omega), Int.toNat_natCast, show (max (n : Int) 1).toNat = n from by omega]
theorem moveN_h {p n : Nat} {w : Int} {key : ByteArray} (k : key.toList = ([104] : List UInt8)) : moveN t p w n true key = if p = beg t p then (0, 0, 0, 0, 70) else ((p : Int), max ((p : Int) - n) (beg t p), 1, (colR t (max ((p : Int) - n) (beg t p))).1, 0) := by
  have e : bytesV t p n (cnt 10 (t.take p)) key = if p = beg t p then F6 else T6 t p (max ((p : Int) - n) (beg t p)) 1 := by unfold bytesV; rw [if_pos k]
  unfold moveN
  rw [e]
  by_cases h : p = beg t p
  · rw [if_pos h, if_pos h]; rfl
  · rw [if_neg h, if_neg h]; rfl
theorem moveN_l {p n : Nat} {w : Int} {key : ByteArray} (k : key.toList = ([108] : List UInt8)) : moveN t p w n true key = if p = fin t p then (0, 0, 0, 0, 70) else ((p : Int), min ((p : Int) + n) (fin t p), 1, (colR t (min ((p : Int) + n) (fin t p))).1, 0) := by
  have e : bytesV t p n (cnt 10 (t.take p)) key = if p = fin t p then F6 else T6 t p (min ((p : Int) + n) (fin t p)) 1 := by unfold bytesV; rw [if_neg (by rw [k]; decide), if_pos k]
  unfold moveN
  rw [e]
  by_cases h : p = fin t p
  · rw [if_pos h, if_pos h]; rfl
  · rw [if_neg h, if_neg h]; rfl
def fin5 (t : List Int) (p f : Int) : R5 := if f < 0 then (0, 0, 0, 0, 70) else (p, f, 1, (colR t f).1, 0)
theorem moveN_sp {p n : Nat} {w : Int} {key : ByteArray} (k : key.toList = ([32] : List UInt8)) : moveN t p w n true key = fin5 t p (onwN t n (p + 1) (-1)) := by
  have e : bytesV t p n (cnt 10 (t.take p)) key = fin6 t p (onwN t n (p + 1) (-1)) := by unfold bytesV; rw [if_neg (by rw [k]; decide), if_neg (by rw [k]; decide), if_pos k]
  unfold moveN
  rw [e]
  unfold fin6 fin5
  by_cases h : onwN t n (p + 1) (-1) < 0
  · rw [if_pos h, if_pos h]; rfl
  · rw [if_neg h, if_neg h]; rfl
theorem moveN_bs {p n : Nat} {w : Int} {key : ByteArray} (k : key.toList = ([8] : List UInt8)) : moveN t p w n true key = fin5 t p (bckN t n p (-1)) := by
  have e : bytesV t p n (cnt 10 (t.take p)) key = fin6 t p (bckN t n p (-1)) := by unfold bytesV; rw [if_neg (by rw [k]; decide), if_neg (by rw [k]; decide), if_neg (by rw [k]; decide), if_pos k]
  unfold moveN
  rw [e]
  unfold fin6 fin5
  by_cases h : bckN t n p (-1) < 0
  · rw [if_pos h, if_pos h]; rfl
  · rw [if_neg h, if_neg h]; rfl
def line5 (t : List Int) (p want to_ : Int) : R5 := if to_ < 0 ∨ to_ > cnt 10 t then (0, 0, 0, 0, 70) else (p, (atR t to_ want).1, 3, want, 0)
theorem moveN_j {p n : Nat} {w : Int} {key : ByteArray} (k : key.toList = ([106] : List UInt8)) : moveN t p w n true key = line5 t p w (cnt 10 (t.take p) + n) := by
  have e : bytesV t p n (cnt 10 (t.take p)) key = (0, 0, 0, 0, 0, false) := by simp [bytesV, k]
  have e2 : linesV t p w n true (cnt 10 (t.take p)) key = lineV t p w (cnt 10 (t.take p) + n) true := by unfold linesV; rw [if_pos k]
  unfold moveN
  rw [e, e2, if_neg (by decide)]
  unfold lineV line5
  by_cases h : cnt 10 (t.take p) + (n : Int) < 0 ∨ cnt 10 (t.take p) + (n : Int) > cnt 10 t
  · rw [if_pos h, if_pos h]; rfl
  · rw [if_neg h, if_neg h]; rfl
theorem moveN_k {p n : Nat} {w : Int} {key : ByteArray} (k : key.toList = ([107] : List UInt8)) : moveN t p w n true key = line5 t p w (cnt 10 (t.take p) - n) := by
  have e : bytesV t p n (cnt 10 (t.take p)) key = (0, 0, 0, 0, 0, false) := by simp [bytesV, k]
  have e2 : linesV t p w n true (cnt 10 (t.take p)) key = lineV t p w (cnt 10 (t.take p) - n) true := by unfold linesV; rw [if_neg (by rw [k]; decide), if_neg (by rw [k]; decide), if_neg (by rw [k]; decide), if_pos k]
  unfold moveN
  rw [e, e2, if_neg (by decide)]
  unfold lineV line5
  by_cases h : cnt 10 (t.take p) - (n : Int) < 0 ∨ cnt 10 (t.take p) - (n : Int) > cnt 10 t
  · rw [if_pos h, if_pos h]; rfl
  · rw [if_neg h, if_neg h]; rfl
def six (key : ByteArray) : Prop := key.toList = ([104] : List UInt8) ∨ key.toList = ([108] : List UInt8) ∨ key.toList = ([106] : List UInt8) ∨ key.toList = ([107] : List UInt8) ∨ key.toList = ([32] : List UInt8) ∨ key.toList = ([8] : List UInt8)
theorem r5 {a b c d e a' b' c' d' e' : Int} (h : ((a, b, c, d, e) : R5) = (a', b', c', d', e')) : a = a' ∧ b = b' ∧ c = c' ∧ d = d' ∧ e = e' := by
  simp only [Prod.mk.injEq] at h
  exact h
theorem no70 {f g kd w : Int} (h : ((0, 0, 0, 0, 70) : R5) = (f, g, kd, w, 0)) : False := by
  have := (r5 h).2.2.2.2
  omega
theorem comp_ok {p q i : Nat} {want w f g kd w' kd0 : Int} {key : ByteArray} (hk : six key) (hp : p ≤ t.length) (hw : -1 ≤ want) (h1 : moveN t p want i true key = ((p : Int), (q : Int), kd0, w, 0)) (h2 : moveN t q w 1 true key = (f, g, kd, w', 0)) : f = (q : Int) ∧ moveN t p want (i + 1) true key = ((p : Int), g, kd, w', 0) := by
  rcases hk with k | k | k | k | k | k
  · rw [moveN_h k] at h1 h2 ⊢
    by_cases e1 : p = beg t p
    · rw [if_pos e1] at h1; exact absurd h1 no70
    · by_cases e2 : q = beg t q
      · rw [if_pos e2] at h2; exact absurd h2 no70
      · rw [if_neg e1] at h1 ⊢
        rw [if_neg e2] at h2
        obtain ⟨_, b1, _, _, _⟩ := r5 h1
        obtain ⟨a2, b2, c2, d2, _⟩ := r5 h2
        have hb := beg_le t p
        have hb2 := beg_le t q
        have hbq : beg t q = beg t p := beg_same (by omega) (by omega)
        have hg : max ((p : Int) - ((i + 1 : Nat) : Int)) (beg t p) = max ((q : Int) - ((1 : Nat) : Int)) (beg t q) := by rw [hbq] at e2 ⊢; omega
        refine ⟨a2.symm, ?_⟩
        rw [hg, ← c2, ← d2, ← b2]
  · rw [moveN_l k] at h1 h2 ⊢
    by_cases e1 : p = fin t p
    · rw [if_pos e1] at h1; exact absurd h1 no70
    · by_cases e2 : q = fin t q
      · rw [if_pos e2] at h2; exact absurd h2 no70
      · rw [if_neg e1] at h1 ⊢
        rw [if_neg e2] at h2
        obtain ⟨_, b1, _, _, _⟩ := r5 h1
        obtain ⟨a2, b2, c2, d2, _⟩ := r5 h2
        have hb := fin_ge t p
        have hb2 := fin_ge t q
        have hbq : fin t q = fin t p := fin_same hp (by omega) (by omega)
        have hg : min ((p : Int) + ((i + 1 : Nat) : Int)) (fin t p) = min ((q : Int) + ((1 : Nat) : Int)) (fin t q) := by rw [hbq] at e2 ⊢; omega
        refine ⟨a2.symm, ?_⟩
        rw [hg, ← c2, ← d2, ← b2]
  · rw [moveN_j k] at h1 h2 ⊢
    unfold line5 at h1 h2 ⊢
    by_cases e1 : cnt 10 (t.take p) + (i : Int) < 0 ∨ cnt 10 (t.take p) + (i : Int) > cnt 10 t
    · rw [if_pos e1] at h1; exact absurd h1 no70
    · by_cases e2 : cnt 10 (t.take q) + ((1 : Nat) : Int) < 0 ∨ cnt 10 (t.take q) + ((1 : Nat) : Int) > cnt 10 t
      · rw [if_pos e2] at h2; exact absurd h2 no70
      · rw [if_neg e1] at h1
        rw [if_neg e2] at h2
        obtain ⟨_, b1, _, d1, _⟩ := r5 h1
        obtain ⟨a2, b2, c2, d2, _⟩ := r5 h2
        obtain ⟨z, z1, z2, z3⟩ := atR_line (t := t) (l := cnt 10 (t.take p) + (i : Int)) (c := want) (by omega) (by omega) hw
        obtain rfl : z = q := by omega
        have hg : cnt 10 (t.take p) + ((i + 1 : Nat) : Int) = cnt 10 (t.take z) + ((1 : Nat) : Int) := by omega
        refine ⟨a2.symm, ?_⟩
        rw [hg, if_neg e2, ← c2, ← d2, ← b2, d1]
  · rw [moveN_k k] at h1 h2 ⊢
    unfold line5 at h1 h2 ⊢
    by_cases e1 : cnt 10 (t.take p) - (i : Int) < 0 ∨ cnt 10 (t.take p) - (i : Int) > cnt 10 t
    · rw [if_pos e1] at h1; exact absurd h1 no70
    · by_cases e2 : cnt 10 (t.take q) - ((1 : Nat) : Int) < 0 ∨ cnt 10 (t.take q) - ((1 : Nat) : Int) > cnt 10 t
      · rw [if_pos e2] at h2; exact absurd h2 no70
      · rw [if_neg e1] at h1
        rw [if_neg e2] at h2
        obtain ⟨_, b1, _, d1, _⟩ := r5 h1
        obtain ⟨a2, b2, c2, d2, _⟩ := r5 h2
        obtain ⟨z, z1, z2, z3⟩ := atR_line (t := t) (l := cnt 10 (t.take p) - (i : Int)) (c := want) (by omega) (by omega) hw
        obtain rfl : z = q := by omega
        have hg : cnt 10 (t.take p) - ((i + 1 : Nat) : Int) = cnt 10 (t.take z) - ((1 : Nat) : Int) := by omega
        refine ⟨a2.symm, ?_⟩
        rw [hg, if_neg e2, ← c2, ← d2, ← b2, d1]
  · rw [moveN_sp k] at h1 h2 ⊢
    unfold fin5 at h1 h2
    by_cases e1 : onwN t i (p + 1) (-1) < 0
    · rw [if_pos e1] at h1; exact absurd h1 no70
    · by_cases e2 : onwN t 1 (q + 1) (-1) < 0
      · rw [if_pos e2] at h2; exact absurd h2 no70
      · rw [if_neg e1] at h1
        rw [if_neg e2] at h2
        obtain ⟨_, b1, _, _, _⟩ := r5 h1
        obtain ⟨a2, b2, c2, d2, _⟩ := r5 h2
        obtain ⟨y, y1, y2⟩ := onw_one rfl e2
        have hg := onw_comp y1 i (p + 1) (-1) (.inl rfl) b1
        refine ⟨a2.symm, ?_⟩
        rw [hg, ← y2, b2]
        rw [b2] at d2 e2
        unfold fin5
        rw [if_neg e2, ← c2, ← d2]
  · rw [moveN_bs k] at h1 h2 ⊢
    unfold fin5 at h1 h2
    by_cases e1 : bckN t i p (-1) < 0
    · rw [if_pos e1] at h1; exact absurd h1 no70
    · by_cases e2 : bckN t 1 q (-1) < 0
      · rw [if_pos e2] at h2; exact absurd h2 no70
      · rw [if_neg e1] at h1
        rw [if_neg e2] at h2
        obtain ⟨_, b1, _, _, _⟩ := r5 h1
        obtain ⟨a2, b2, c2, d2, _⟩ := r5 h2
        obtain ⟨y, y1, y2⟩ := bck_one rfl e2
        have hg := bck_comp y1 i p (-1) (.inl rfl) b1
        refine ⟨a2.symm, ?_⟩
        rw [hg, ← y2, b2]
        rw [b2] at d2 e2
        unfold fin5
        rw [if_neg e2, ← c2, ← d2]
theorem one_from {q : Nat} {w f g kd w' : Int} {key : ByteArray} (hk : six key) (h2 : moveN t q w 1 true key = (f, g, kd, w', 0)) : f = (q : Int) := by
  rcases hk with k | k | k | k | k | k
  · rw [moveN_h k] at h2
    by_cases e : q = beg t q
    · rw [if_pos e] at h2; exact absurd h2 no70
    · rw [if_neg e] at h2; exact (r5 h2).1.symm
  · rw [moveN_l k] at h2
    by_cases e : q = fin t q
    · rw [if_pos e] at h2; exact absurd h2 no70
    · rw [if_neg e] at h2; exact (r5 h2).1.symm
  · rw [moveN_j k] at h2
    unfold line5 at h2
    by_cases e : cnt 10 (t.take q) + ((1 : Nat) : Int) < 0 ∨ cnt 10 (t.take q) + ((1 : Nat) : Int) > cnt 10 t
    · rw [if_pos e] at h2; exact absurd h2 no70
    · rw [if_neg e] at h2; exact (r5 h2).1.symm
  · rw [moveN_k k] at h2
    unfold line5 at h2
    by_cases e : cnt 10 (t.take q) - ((1 : Nat) : Int) < 0 ∨ cnt 10 (t.take q) - ((1 : Nat) : Int) > cnt 10 t
    · rw [if_pos e] at h2; exact absurd h2 no70
    · rw [if_neg e] at h2; exact (r5 h2).1.symm
  · rw [moveN_sp k] at h2
    unfold fin5 at h2
    by_cases e : onwN t 1 (q + 1) (-1) < 0
    · rw [if_pos e] at h2; exact absurd h2 no70
    · rw [if_neg e] at h2; exact (r5 h2).1.symm
  · rw [moveN_bs k] at h2
    unfold fin5 at h2
    by_cases e : bckN t 1 q (-1) < 0
    · rw [if_pos e] at h2; exact absurd h2 no70
    · rw [if_neg e] at h2; exact (r5 h2).1.symm
theorem six_err (r : R6) (h : r.2.2.2.2.1 = 0 ∨ r.2.2.2.2.1 = 70) : (five r).2.2.2.2 = 0 ∨ (five r).2.2.2.2 = 70 := h
theorem bytes_err (p n : Nat) (line : Int) (key : ByteArray) : (bytesV t p n line key).2.2.2.2.1 = 0 ∨ (bytesV t p n line key).2.2.2.2.1 = 70 := by
  unfold bytesV fin6
  repeat' split
  all_goals first | exact .inl rfl | exact .inr rfl
theorem lines_err (p n : Nat) (want : Int) (g : Bool) (line : Int) (key : ByteArray) : (linesV t p want n g line key).2.2.2.2.1 = 0 ∨ (linesV t p want n g line key).2.2.2.2.1 = 70 := by
  have h : ∀ (a b c : Int) (d : Bool), (lineV t a b c d).2.2.2.2.1 = 0 ∨ (lineV t a b c d).2.2.2.2.1 = 70 := by
    intro a b c d
    unfold lineV
    repeat' split
    all_goals first | exact .inl rfl | exact .inr rfl
  unfold linesV
  repeat' split
  all_goals first | exact h _ _ _ _ | exact .inl rfl
theorem move_err (a w c : Int) (key : ByteArray) : (moveV t a w c key).2.2.2.2 = 0 ∨ (moveV t a w c key).2.2.2.2 = 2 ∨ (moveV t a w c key).2.2.2.2 = 70 := by
  unfold moveV moveN
  split
  · split
    · rcases six_err _ (bytes_err (t := t) _ _ _ _) with h | h
      · exact .inl h
      · exact .inr (.inr h)
    · split
      · rcases six_err _ (lines_err (t := t) _ _ _ _ _ _) with h | h
        · exact .inl h
        · exact .inr (.inr h)
      · exact .inr (.inl rfl)
  · exact .inr (.inl rfl)
end
section
variable {t : List Int} (hu : u8s t = true) (hl : t.length ≤ 140737488355328)
def Inv (t : List Int) (p : Nat) (want : Int) (key : ByteArray) (i : Nat) (q w : Int) : Prop := (i = 0 ∧ q = (p : Int) ∧ w = want) ∨ (1 ≤ i ∧ ∃ kd, moveN t p want i true key = ((p : Int), q, kd, w, 0))
omit hu hl in
theorem Inv_next {p i : Nat} {want q w f g kd w' : Int} {key : ByteArray} (hk : six key) (hp : p ≤ t.length) (hw : -1 ≤ want) (h : Inv t p want key i q w) (h2 : moveV t q w 1 key = (f, g, kd, w', 0)) : f = q ∧ Inv t p want key (i + 1) g w' := by
  obtain ⟨h3, h4, _, _, h5⟩ := moveV_ok h2
  obtain ⟨q, rfl⟩ := Int.eq_ofNat_of_zero_le h3.1
  rw [decide_eq_true (show (1 : Int) > 0 by omega), Int.toNat_natCast, show (max (1 : Int) 1).toNat = 1 from rfl] at h5
  rcases h with ⟨h0, h6, h7⟩ | ⟨h0, kd0, h6⟩
  · subst h0
    subst h7
    obtain rfl : q = p := by omega
    have hf := one_from hk h5
    refine ⟨hf, .inr ⟨Nat.le_refl _, kd, ?_⟩⟩
    rw [hf] at h5
    exact h5
  · obtain ⟨h8, h9⟩ := comp_ok hk hp hw h6 h5
    exact ⟨h8, .inr ⟨by omega, kd, h9⟩⟩
include hu hl
theorem Times_l0 {p n : Nat} {want : Int} {key : ByteArray} (hk : six key) (hp : p ≤ t.length) (hw : -1 ≤ want) (h1 : 1 ≤ n) (hn : n ≤ 40) : ∀ (d i : Nat) (q w : Int), i + d = n → Inv t p want key i q w → Ev (fun k => quoinlaw07_StepTimes.l0 k t want key (p : Int) (n : Int) q w (n : Int) (i : Int)) true := by
  intro d
  induction d with
  | zero =>
    intro i q w hi hI
    obtain rfl : i = n := by omega
    rcases hI with ⟨h0, _⟩ | ⟨_, kd, hM⟩
    · omega
    · have hm := move_ev hu hl (p : Int) want (i : Int) key
      rw [moveV_of hp (by omega) h1 (by omega), hM] at hm
      refine Ev.step (f := fun k => if (i : Int) < (i : Int) then none else ((step_Move.f k t (p : Int) want (i : Int) key).bind fun bt494 => (if bt494.2.2.2.2 = 0 then (if bt494.1 = (p : Int) then (if bt494.2.1 = q then (some (bt494.2.2.2.1 == w)) else (some false)) else (some false)) else (some false)))) (fun k => ?_) (Ev.neg (by omega) (Ev.bind hm (Ev.pos rfl (Ev.pos rfl (Ev.pos rfl (Ev.const (by rw [beq_self_eq_true])))))))
      show (if (i : Int) < (i : Int) then _ else _) = _
      rw [if_neg (show ¬ (i : Int) < (i : Int) from by omega), if_neg (show ¬ (i : Int) < (i : Int) from by omega)]
  | succ d ih =>
    intro i q w hi hI
    have hm := move_ev hu hl q w 1 key
    have hwr : wrap64 ((i : Int) + 1) = ((i + 1 : Nat) : Int) := by rw [wrap64_id (by omega) (by omega)]; omega
    have stop : ∀ (w' a b c : Int), Ev (fun k => quoinlaw07_StepTimes.j2 k t want key (p : Int) (n : Int) q w' (n : Int) (i : Int) true a b c) true := fun w' a b c => Ev.step (f := fun _ => some true) (fun _ => rfl) (Ev.now _)
    obtain ⟨f, g, kd, w', e, hr⟩ : ∃ f g kd w' e, moveV t q w 1 key = (f, g, kd, w', e) := ⟨_, _, _, _, _, rfl⟩
    rw [hr] at hm
    refine Ev.step (f := fun k => if (i : Int) < (n : Int) then ((step_Move.f k t q w 1 key).bind fun bt500 => (if bt500.2.2.2.2 = 0 then (if bt500.2.1 > (t.length : Int) then (quoinlaw07_StepTimes.j2 k t want key (p : Int) (n : Int) q bt500.2.2.2.1 (n : Int) (i : Int) true bt500.1 bt500.2.1 bt500.2.2.1) else (if key.toList = ([32] : List UInt8) then ((lines_Rest.f k t bt500.2.1).bind fun t506 => (quoinlaw07_StepTimes.j2 k t want key (p : Int) (n : Int) q bt500.2.2.2.1 (n : Int) (i : Int) (t506 != bt500.2.1) bt500.1 bt500.2.1 bt500.2.2.1)) else (if key.toList = ([8] : List UInt8) then ((lines_Rest.f k t bt500.2.1).bind fun t507 => (quoinlaw07_StepTimes.j2 k t want key (p : Int) (n : Int) q bt500.2.2.2.1 (n : Int) (i : Int) (t507 != bt500.2.1) bt500.1 bt500.2.1 bt500.2.2.1)) else (quoinlaw07_StepTimes.j2 k t want key (p : Int) (n : Int) q bt500.2.2.2.1 (n : Int) (i : Int) false bt500.1 bt500.2.1 bt500.2.2.1)))) else (quoinlaw07_StepTimes.j2 k t want key (p : Int) (n : Int) q bt500.2.2.2.1 (n : Int) (i : Int) true bt500.1 bt500.2.1 bt500.2.2.1))) else none) (fun k => ?_) (Ev.pos (by omega) (Ev.bind hm ?_))
    · show (if (i : Int) < (n : Int) then _ else _) = _
      rw [if_pos (show (i : Int) < (n : Int) from by omega), if_pos (show (i : Int) < (n : Int) from by omega)]
    · by_cases he : e = 0
      · subst he
        obtain ⟨hf, hI2⟩ := Inv_next hk hp hw hI hr
        have h2 := ih (i + 1) g w' (by omega) hI2
        have on : Ev (fun k => quoinlaw07_StepTimes.j2 k t want key (p : Int) (n : Int) q w' (n : Int) (i : Int) false f g kd) true := by
          refine Ev.step (f := fun k => if f = q then (quoinlaw07_StepTimes.l0 k t want key (p : Int) (n : Int) g w' (n : Int) (wrap64 ((i : Int) + 1))) else (some false)) (fun _ => rfl) (Ev.pos hf ?_)
          rw [hwr]
          exact h2
        have any : ∀ b : Bool, Ev (fun k => quoinlaw07_StepTimes.j2 k t want key (p : Int) (n : Int) q w' (n : Int) (i : Int) b f g kd) true := fun b => by
          cases b with
          | true => exact stop w' f g kd
          | false => exact on
        clear hwr
        refine Ev.pos rfl ?_
        by_cases h3 : g > (t.length : Int)
        · exact Ev.pos h3 (stop _ _ _ _)
        · refine Ev.neg h3 ?_
          by_cases h4 : key.toList = ([32] : List UInt8)
          · exact Ev.pos h4 (Ev.bind (Rest_ev hu hl g) (any _))
          · refine Ev.neg h4 ?_
            by_cases h5 : key.toList = ([8] : List UInt8)
            · exact Ev.pos h5 (Ev.bind (Rest_ev hu hl g) (any _))
            · exact Ev.neg h5 on
      · exact Ev.neg he (stop _ _ _ _)
end
theorem place_ok (a : Int) (ha : okI64 a) (b : Int) (hb : 0 < b) : ∃ m, quoinlaw07_place.f a b = some m ∧ 0 ≤ m ∧ m < b := by
  unfold quoinlaw07_place.f
  have h1 := ha.1
  have h2 := ha.2
  by_cases h : a < 0
  · rw [if_pos h, if_neg (by omega)]
    have w1 : wrap64 (a + 1) = a + 1 := wrap64_id (by omega) (by omega)
    have w2 : wrap64 (-(a + 1)) = -(a + 1) := wrap64_id (by omega) (by omega)
    rw [w1, w2]
    refine ⟨_, rfl, ?_, ?_⟩
    · exact Int.tmod_nonneg _ (by omega)
    · exact Int.tmod_lt_of_pos _ hb
  · rw [if_neg h, if_neg (by omega)]
    exact ⟨_, rfl, Int.tmod_nonneg _ (by omega), Int.tmod_lt_of_pos _ hb⟩
theorem StepTimes : Say.StepTimes := by
  rintro t ⟨a, w, c, key⟩ ht ⟨ha, hw, hc, _⟩
  have hu : u8s t = true := u8s_ok ht
  have hl : t.length ≤ 140737488355328 := by have h1 : t.length * 1 ≤ 140737488351232 := ht.1; omega
  refine Ev.rounds (g := fun k => quoinlaw07_StepTimes.f k t a w c key) ?_
  have wl : wrap64 ((t.length : Int) + 1) = (t.length : Int) + 1 := wrap64_id (by omega) (by omega)
  obtain ⟨v, v1, v2, v3⟩ := place_ok a ha ((t.length : Int) + 1) (by omega)
  obtain ⟨m, m1, m2, m3⟩ := place_ok c hc 40 (by omega)
  have hr := Rest_ev hu hl v
  have hcl := clamp_le t v
  generalize hp0 : rest t (clamp t v) = p at hr
  have hp : p ≤ t.length := by
    have : rest t (clamp t v) ≤ clamp t v := by unfold rest; split <;> omega
    omega
  obtain ⟨n, hn⟩ : ∃ n : Nat, m + 1 = (n : Int) := ⟨(m + 1).toNat, by omega⟩
  have wn : wrap64 (m + 1) = (n : Int) := by rw [wrap64_id (by omega) (by omega), hn]
  have hmx : -1 ≤ mx w (-1) := by rw [mx_eq]; omega
  have j0 : six key → Ev (fun k => quoinlaw07_StepTimes.j0 k t w key (p : Int) (n : Int)) true := fun hk =>
    Ev.step (f := fun k => quoinlaw07_StepTimes.l0 k t (mx w (-1)) key (p : Int) (n : Int) (p : Int) (mx w (-1)) (n : Int) 0) (fun _ => rfl) (Times_l0 hu hl hk hp hmx (by omega) (by omega) n 0 (p : Int) (mx w (-1)) (by omega) (.inl ⟨rfl, rfl, rfl⟩))
  refine Ev.bind awake_ev (Ev.pos rfl ?_)
  rw [wl]
  refine Ev.cbind v1 (Ev.bind hr (Ev.cbind m1 ?_))
  rw [wn]
  clear wl wn
  by_cases k1 : key.toList = ([104] : List UInt8)
  · exact Ev.pos k1 (j0 (.inl k1))
  by_cases k2 : key.toList = ([108] : List UInt8)
  · exact Ev.neg k1 (Ev.pos k2 (j0 (.inr (.inl k2))))
  by_cases k3 : key.toList = ([106] : List UInt8)
  · exact Ev.neg k1 (Ev.neg k2 (Ev.pos k3 (j0 (.inr (.inr (.inl k3))))))
  by_cases k4 : key.toList = ([107] : List UInt8)
  · exact Ev.neg k1 (Ev.neg k2 (Ev.neg k3 (Ev.pos k4 (j0 (.inr (.inr (.inr (.inl k4))))))))
  by_cases k5 : key.toList = ([32] : List UInt8)
  · exact Ev.neg k1 (Ev.neg k2 (Ev.neg k3 (Ev.neg k4 (Ev.pos k5 (j0 (.inr (.inr (.inr (.inr (.inl k5))))))))))
  by_cases k6 : key.toList = ([8] : List UInt8)
  · exact Ev.neg k1 (Ev.neg k2 (Ev.neg k3 (Ev.neg k4 (Ev.neg k5 (Ev.pos k6 (j0 (.inr (.inr (.inr (.inr (.inr k6)))))))))))
  refine Ev.neg k1 (Ev.neg k2 (Ev.neg k3 (Ev.neg k4 (Ev.neg k5 (Ev.neg k6 (Ev.bind (move_ev hu hl (p : Int) w (n : Int) key) ?_))))))
  rcases move_err (t := t) (p : Int) w (n : Int) key with h | h | h
  · exact Ev.pos h (Ev.now _)
  · exact Ev.neg (by omega) (Ev.pos h (Ev.now _))
  · exact Ev.neg (by omega) (Ev.neg (by omega) (Ev.const (by rw [h]; rfl)))
end Go.Proofs.Ytofkcdnkbjpmmaa.Pure
