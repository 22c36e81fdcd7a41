/-
  step.Move, plainly: where a motion by bytes or lines leads.
-/
import Derived.Test.YtofkcdnkbjpmmaaLNP
import Derived.Test.YtofkcdnkbjpmmaaX22
import Derived.Test.YtofkcdnkbjpmmaaX20
import Derived.Test.YtofkcdnkbjpmmaaX21
import Derived.Test.YtofkcdnkbjpmmaaX17
import Derived.Test.YtofkcdnkbjpmmaaX12
import Derived.Test.YtofkcdnkbjpmmaaX18
import Derived.Test.YtofkcdnkbjpmmaaX19
import Derived.Test.YtofkcdnkbjpmmaaX4
import Derived.Test.YtofkcdnkbjpmmaaX5
import Derived.Test.YtofkcdnkbjpmmaaX7
import Derived.Test.YtofkcdnkbjpmmaaX9
import Derived.Test.YtofkcdnkbjpmmaaX10
import Derived.Test.YtofkcdnkbjpmmaaX11
import Derived.Test.YtofkcdnkbjpmmaaX16
namespace Go.Proofs.Ytofkcdnkbjpmmaa.MV
open Go.RowKit Go.Proofs.YtofkcdnkbjpmmaaW.PrintWords Go.Proofs.YtofkcdnkbjpmmaaW.PrintMore Go.Proofs.Ytofkcdnkbjpmmaa.X Go.Proofs.Ytofkcdnkbjpmmaa.XL Go.Proofs.Ytofkcdnkbjpmmaa.XO Go.Proofs.Ytofkcdnkbjpmmaa.LN
abbrev R6 := Int × Int × Int × Int × Int × Bool
abbrev R5 := Int × Int × Int × Int × Int
def F6 : R6 := (0, 0, 0, 0, 70, true)
def T6 (t : List Int) (p q kind : Int) : R6 := (p, q, kind, (colR t q).1, 0, true)
def stopR (t : List Int) (x : Nat) : Prop := x = t.length ∨ t.getD x 0 ≠ 10 ∨ t.getD (x - 1) 0 = 10
instance (t : List Int) (x : Nat) : Decidable (stopR t x) := by unfold stopR; infer_instance
def nxt (t : List Int) : Nat → Nat → Option Nat
  | 0, _ => none
  | d + 1, x => if stopR t x then some x else nxt t d (x + 1)
def nx (t : List Int) (x : Nat) : Option Nat := nxt t (t.length + 1 - x) x
theorem nx_at {t : List Int} {x : Nat} (h : x ≤ t.length) : nx t x = if stopR t x then some x else nx t (x + 1) := by
  unfold nx
  rw [show t.length + 1 - x = (t.length + 1 - (x + 1)) + 1 from by omega]
  conv => lhs; unfold nxt
theorem nx_end {t : List Int} {x : Nat} (h : ¬ x ≤ t.length) : nx t x = none := by
  unfold nx
  rw [show t.length + 1 - x = 0 from by omega]
  rfl
def onwN (t : List Int) : Nat → Nat → Int → Int
  | 0, _, f => f
  | n + 1, x, f => match nx t x with
    | none => f
    | some y => onwN t n (y + 1) y
def stopL (t : List Int) (x : Nat) : Prop := t.getD x 0 ≠ 10 ∨ x = 0 ∨ t.getD (x - 1) 0 = 10
instance (t : List Int) (x : Nat) : Decidable (stopL t x) := by unfold stopL; infer_instance
def prv (t : List Int) : Nat → Option Nat
  | 0 => none
  | x + 1 => if stopL t x then some x else prv t x
def bckN (t : List Int) : Nat → Nat → Int → Int
  | 0, _, f => f
  | n + 1, x, f => match prv t x with
    | none => f
    | some y => bckN t n y y
def fin6 (t : List Int) (p f : Int) : R6 := if f < 0 then F6 else T6 t p f 1
def bytesV (t : List Int) (p n : Nat) (line : Int) (key : ByteArray) : R6 :=
  if key.toList = ([104] : List UInt8) then (if p = beg t p then F6 else T6 t p (max ((p : Int) - n) (beg t p)) 1)
  else if key.toList = ([108] : List UInt8) then (if p = fin t p then F6 else T6 t p (min ((p : Int) + n) (fin t p)) 1)
  else if key.toList = ([32] : List UInt8) then fin6 t p (onwN t n (p + 1) (-1))
  else if key.toList = ([8] : List UInt8) then fin6 t p (bckN t n p (-1))
  else if key.toList = ([48] : List UInt8) then T6 t p (beg t p) 1
  else if key.toList = ([94] : List UInt8) then T6 t p (firstR t line).1 1
  else if key.toList = ([124] : List UInt8) then (p, (atR t line ((n : Int) - 1)).1, 1, (n : Int) - 1, 0, true)
  else if key.toList = ([36] : List UInt8) then (if (endR t (line + n - 1)).2 = 0 then (p, (endR t (line + n - 1)).1, 1, -1, 0, true) else F6)
  else (0, 0, 0, 0, 0, false)
def lineV (t : List Int) (p want to_ : Int) (jk : Bool) : R6 :=
  if to_ < 0 ∨ to_ > cnt 10 t then F6 else if jk = true then (p, (atR t to_ want).1, 3, want, 0, true) else T6 t p (firstR t to_).1 3
def linesV (t : List Int) (p : Nat) (want : Int) (n : Nat) (given : Bool) (line : Int) (key : ByteArray) : R6 :=
  if key.toList = ([106] : List UInt8) then lineV t p want (line + n) true
  else if key.toList = ([43] : List UInt8) then lineV t p want (line + n) false
  else if key.toList = ([13] : List UInt8) then lineV t p want (line + n) false
  else if key.toList = ([107] : List UInt8) then lineV t p want (line - n) true
  else if key.toList = ([45] : List UInt8) then lineV t p want (line - n) false
  else if key.toList = ([95] : List UInt8) then lineV t p want (line + (n - 1)) false
  else if key.toList = ([71] : List UInt8) then lineV t p want (if given = true then (n : Int) - 1 else cnt 10 t) false
  else if key.toList = ([103, 103] : List UInt8) then lineV t p want ((n : Int) - 1) false
  else (0, 0, 0, 0, 0, false)
def five (r : R6) : R5 := (r.1, r.2.1, r.2.2.1, r.2.2.2.1, r.2.2.2.2.1)
def moveN (t : List Int) (p : Nat) (want : Int) (n : Nat) (given : Bool) (key : ByteArray) : R5 :=
  if (bytesV t p n (cnt 10 (t.take p)) key).2.2.2.2.2 = true then five (bytesV t p n (cnt 10 (t.take p)) key)
  else if (linesV t p want n given (cnt 10 (t.take p)) key).2.2.2.2.2 = true then five (linesV t p want n given (cnt 10 (t.take p)) key)
  else (0, 0, 0, 0, 2)
def moveV (t : List Int) (a want count : Int) (key : ByteArray) : R5 :=
  if (0 ≤ a ∧ a ≤ t.length) ∧ ¬ want < -1 ∧ ¬ count < 0 ∧ ¬ count > 9999 then moveN t a.toNat want (max count 1).toNat (decide (count > 0)) key else (0, 0, 0, 0, 2)
section
variable {t : List Int}
theorem to_ev (hl : t.length ≤ 140737488355328) (p want n : Int) (g : Bool) (ln ls st en q kind : Int) : Ev (fun k => step_walk_to.f k t p want n g ln ls st en q kind) (T6 t p q kind) := Ev.done (Column_ev hl q) rfl
theorem end_ev (hl : t.length ≤ 140737488355328) (f p want m : Int) (g : Bool) (ln ls st en : Int) : Ev (fun k => if f < 0 then ((step_walk_fails.f t p want m g ln ls st en).bind fun b => (some (b.1, b.2.1, b.2.2.1, b.2.2.2.1, b.2.2.2.2.1, b.2.2.2.2.2))) else ((step_walk_to.f k t p want m g ln ls st en f 1).bind fun b => (some (b.1, b.2.1, b.2.2.1, b.2.2.2.1, b.2.2.2.2.1, b.2.2.2.2.2)))) (fin6 t p f) := by
  unfold fin6
  by_cases h : f < 0
  · simp only [if_pos h]
    exact Ev.cbind rfl (Ev.now _)
  · simp only [if_neg h]
    exact Ev.done (to_ev hl p want m g ln ls st en f 1) rfl
theorem onw_fin (hl : t.length ≤ 140737488355328) (f n x : Int) (p want m : Int) (g : Bool) (ln ls st en : Int) : Ev (fun k => step_walk_onward.j1 k f n x false t p want m g ln ls st en) (fin6 t p f) := Ev.step (fun _ => rfl) (end_ev hl f p want m g ln ls st en)
theorem bck_fin (hl : t.length ≤ 140737488355328) (f n x : Int) (p want m : Int) (g : Bool) (ln ls st en : Int) : Ev (fun k => step_walk_back.j1 k f n x false t p want m g ln ls st en) (fin6 t p f) := Ev.step (fun _ => rfl) (end_ev hl f p want m g ln ls st en)
theorem onw_l0 (hl : t.length ≤ 140737488355328) (p want m : Int) (g : Bool) (ln ls st en : Int) : ∀ (d x n : Nat) (f : Int), x + d = t.length + 1 → 1 ≤ x → n ≤ 9999 → Ev (fun k => step_walk_onward.l0 k f (n : Int) (x : Int) t p want m g ln ls st en) (fin6 t p (onwN t n x f)) := by
  intro d
  induction d with
  | zero =>
    intro x n f hx h1 hn
    have e : onwN t n x f = f := by
      cases n with
      | zero => rfl
      | succ n => conv => lhs; unfold onwN
                  rw [nx_end (by omega)]
    rw [e]
    exact Ev.step (f := fun k => if (x : Int) ≤ (t.length : Int) then (step_walk_onward.j1 k f (n : Int) (x : Int) (decide ((n : Int) > 0)) t p want m g ln ls st en) else (step_walk_onward.j1 k f (n : Int) (x : Int) false t p want m g ln ls st en)) (fun _ => rfl) (Ev.neg (by omega) (onw_fin hl _ _ _ _ _ _ _ _ _ _ _))
  | succ d ih =>
    intro x n f hx h1 hn
    refine Ev.step (f := fun k => if (x : Int) ≤ (t.length : Int) then (step_walk_onward.j1 k f (n : Int) (x : Int) (decide ((n : Int) > 0)) t p want m g ln ls st en) else (step_walk_onward.j1 k f (n : Int) (x : Int) false t p want m g ln ls st en)) (fun _ => rfl) (Ev.pos (by omega) ?_)
    cases n with
    | zero =>
      rw [decide_eq_false (by omega)]
      exact onw_fin hl _ _ _ _ _ _ _ _ _ _ _
    | succ n =>
      rw [decide_eq_true (by omega)]
      have w1 : wrap64 (((n + 1 : Nat) : Int) - 1) = (n : Int) := by rw [wrap64_id (by omega) (by omega)]; omega
      have w2 : wrap64 ((x : Int) + 1) = ((x + 1 : Nat) : Int) := by rw [wrap64_id (by omega) (by omega)]; omega
      have w3 : wrap64 ((x : Int) - 1) = ((x - 1 : Nat) : Int) := by rw [wrap64_id (by omega) (by omega)]; omega
      refine Ev.step (f := fun k => if (x : Int) = (t.length : Int) then (step_walk_onward.l0 k (x : Int) (wrap64 (((n + 1 : Nat) : Int) - 1)) (wrap64 ((x : Int) + 1)) t p want m g ln ls st en) else (if 0 ≤ (x : Int) then (if (x : Int) < (t.length : Int) then (if (rd t (x : Int)) = 10 then (if 0 ≤ (wrap64 ((x : Int) - 1)) then (if (wrap64 ((x : Int) - 1)) < (t.length : Int) then (if (rd t (wrap64 ((x : Int) - 1))) = 10 then (step_walk_onward.l0 k (x : Int) (wrap64 (((n + 1 : Nat) : Int) - 1)) (wrap64 ((x : Int) + 1)) t p want m g ln ls st en) else (step_walk_onward.l0 k f ((n + 1 : Nat) : Int) (wrap64 ((x : Int) + 1)) t p want m g ln ls st en)) else (none)) else (none)) else (step_walk_onward.l0 k (x : Int) (wrap64 (((n + 1 : Nat) : Int) - 1)) (wrap64 ((x : Int) + 1)) t p want m g ln ls st en)) else (none)) else (none))) (fun _ => rfl) ?_
      rw [w1, w2, w3, rd_at, rd_at]
      clear w1 w2 w3
      have yes : stopR t x → Ev (fun k => step_walk_onward.l0 k (x : Int) (n : Int) ((x + 1 : Nat) : Int) t p want m g ln ls st en) (fin6 t p (onwN t (n + 1) x f)) := by
        intro h
        have e : onwN t (n + 1) x f = onwN t n (x + 1) x := by
          conv => lhs; unfold onwN
          rw [nx_at (by omega), if_pos h]
        rw [e]
        exact ih (x + 1) n x (by omega) (by omega) (by omega)
      by_cases hx1 : x = t.length
      · exact Ev.pos (by omega) (yes (.inl hx1))
      · refine Ev.neg (by omega) (Ev.pos (by omega) (Ev.pos (by omega) ?_))
        by_cases hx2 : t.getD x 0 = 10
        · refine Ev.pos hx2 (Ev.pos (by omega) (Ev.pos (by omega) ?_))
          by_cases hx3 : t.getD (x - 1) 0 = 10
          · exact Ev.pos hx3 (yes (.inr (.inr hx3)))
          · have hn2 : ¬ stopR t x := fun h => by
              rcases h with h | h | h
              · exact hx1 h
              · exact h hx2
              · exact hx3 h
            have e : onwN t (n + 1) x f = onwN t (n + 1) (x + 1) f := by
              conv => lhs; unfold onwN
              conv => rhs; unfold onwN
              rw [nx_at (t := t) (x := x) (by omega), if_neg hn2]
            rw [e]
            exact Ev.neg hx3 (ih (x + 1) (n + 1) f (by omega) (by omega) (by omega))
        · exact Ev.neg hx2 (yes (.inr (.inl hx2)))
theorem bck_l0 (hl : t.length ≤ 140737488355328) (p want m : Int) (g : Bool) (ln ls st en : Int) : ∀ (x n : Nat) (f : Int), x ≤ t.length → n ≤ 9999 → Ev (fun k => step_walk_back.l0 k f (n : Int) ((x : Int) - 1) t p want m g ln ls st en) (fin6 t p (bckN t n x f)) := by
  intro x
  induction x with
  | zero =>
    intro n f hx hn
    have e : bckN t n 0 f = f := by
      cases n with
      | zero => rfl
      | succ n => rfl
    rw [e]
    exact Ev.step (f := fun k => if ((0 : Nat) : Int) - 1 ≥ 0 then (step_walk_back.j1 k f (n : Int) (((0 : Nat) : Int) - 1) (decide ((n : Int) > 0)) t p want m g ln ls st en) else (step_walk_back.j1 k f (n : Int) (((0 : Nat) : Int) - 1) false t p want m g ln ls st en)) (fun _ => rfl) (Ev.neg (by omega) (bck_fin hl _ _ _ _ _ _ _ _ _ _ _))
  | succ x ih =>
    intro n f hx hn
    rw [show ((x + 1 : Nat) : Int) - 1 = (x : Int) from by omega]
    refine Ev.step (f := fun k => if (x : Int) ≥ 0 then (step_walk_back.j1 k f (n : Int) (x : Int) (decide ((n : Int) > 0)) t p want m g ln ls st en) else (step_walk_back.j1 k f (n : Int) (x : Int) false t p want m g ln ls st en)) (fun _ => rfl) (Ev.pos (by omega) ?_)
    cases n with
    | zero =>
      rw [decide_eq_false (by omega)]
      exact bck_fin hl _ _ _ _ _ _ _ _ _ _ _
    | succ n =>
      rw [decide_eq_true (by omega)]
      have w1 : wrap64 (((n + 1 : Nat) : Int) - 1) = (n : Int) := by rw [wrap64_id (by omega) (by omega)]; omega
      have w2 : wrap64 ((x : Int) - 1) = (x : Int) - 1 := wrap64_id (by omega) (by omega)
      refine Ev.step (f := fun k => if 0 ≤ (x : Int) then (if (x : Int) < (t.length : Int) then (if (rd t (x : Int)) = 10 then (if (x : Int) = 0 then (step_walk_back.l0 k (x : Int) (wrap64 (((n + 1 : Nat) : Int) - 1)) (wrap64 ((x : Int) - 1)) t p want m g ln ls st en) else (if 0 ≤ (wrap64 ((x : Int) - 1)) then (if (wrap64 ((x : Int) - 1)) < (t.length : Int) then (if (rd t (wrap64 ((x : Int) - 1))) = 10 then (step_walk_back.l0 k (x : Int) (wrap64 (((n + 1 : Nat) : Int) - 1)) (wrap64 ((x : Int) - 1)) t p want m g ln ls st en) else (step_walk_back.l0 k f ((n + 1 : Nat) : Int) (wrap64 ((x : Int) - 1)) t p want m g ln ls st en)) else (none)) else (none))) else (step_walk_back.l0 k (x : Int) (wrap64 (((n + 1 : Nat) : Int) - 1)) (wrap64 ((x : Int) - 1)) t p want m g ln ls st en)) else (none)) else (none)) (fun _ => rfl) ?_
      rw [w1, w2, rd_at]
      clear w1 w2
      have yes : stopL t x → Ev (fun k => step_walk_back.l0 k (x : Int) (n : Int) ((x : Int) - 1) t p want m g ln ls st en) (fin6 t p (bckN t (n + 1) (x + 1) f)) := by
        intro h
        have e : bckN t (n + 1) (x + 1) f = bckN t n x x := by
          conv => lhs; unfold bckN prv
          rw [if_pos h]
        rw [e]
        exact ih n x (by omega) (by omega)
      refine Ev.pos (by omega) (Ev.pos (by omega) ?_)
      by_cases hx2 : t.getD x 0 = 10
      · refine Ev.pos hx2 ?_
        by_cases hx0 : x = 0
        · exact Ev.pos (by omega) (yes (.inr (.inl hx0)))
        · rw [show (x : Int) - 1 = ((x - 1 : Nat) : Int) from by omega, rd_at]
          refine Ev.neg (by omega) (Ev.pos (by omega) (Ev.pos (by omega) ?_))
          rw [show ((x - 1 : Nat) : Int) = (x : Int) - 1 from by omega]
          by_cases hx3 : t.getD (x - 1) 0 = 10
          · exact Ev.pos hx3 (yes (.inr (.inr hx3)))
          · have hn2 : ¬ stopL t x := fun h => by
              rcases h with h | h | h
              · exact h hx2
              · exact hx0 h
              · exact hx3 h
            have e : bckN t (n + 1) (x + 1) f = bckN t (n + 1) x f := by
              conv => lhs; unfold bckN prv
              conv => rhs; unfold bckN
              rw [if_neg hn2]
            rw [e]
            exact Ev.neg hx3 (ih (n + 1) f (by omega) (by omega))
      · exact Ev.neg hx2 (yes (.inl hx2))
end
section
variable {t : List Int} (hu : u8s t = true) (hl : t.length ≤ 140737488355328)
include hu hl
theorem bytes_ev {p n : Nat} (hp : p ≤ t.length) (h1 : 1 ≤ n) (hn : n ≤ 9999) (want : Int) (g : Bool) (last_ : Int) (key : ByteArray) : Ev (fun k => step_walk_bytes.f k t (p : Int) want (n : Int) g (cnt 10 (t.take p)) last_ (beg t p : Int) (fin t p : Int) key) (bytesV t p n (cnt 10 (t.take p)) key) := by
  have hb := beg_le t p
  have hf := fin_ge t p
  have hf2 := fin_le hp
  have c0 := cnt_nonneg 10 (t.take p)
  have c1 := cnt_le 10 (t.take p)
  have c2 := List.length_take_le p t
  have f6 : ∀ (ls : Int) (st en : Int), step_walk_fails.f t (p : Int) want (n : Int) g (cnt 10 (t.take p)) ls st en = some F6 := fun _ _ _ => rfl
  by_cases k1 : key.toList = ([104] : List UInt8)
  · have e : bytesV t p n (cnt 10 (t.take p)) key = if p = beg t p then F6 else T6 t p (max ((p : Int) - n) (beg t p)) 1 := by unfold bytesV; rw [if_pos k1]
    rw [e]
    refine Ev.pos k1 ?_
    by_cases h : p = beg t p
    · rw [if_pos h]
      exact Ev.pos (by omega) (Ev.cbind (f6 _ _ _) (Ev.now _))
    · have w : mx (wrap64 ((p : Int) - n)) (beg t p : Int) = max ((p : Int) - n) (beg t p) := by rw [mx_eq, wrap64_id (by omega) (by omega)]
      rw [if_neg h, w]
      exact Ev.neg (by omega) (Ev.done (to_ev hl _ _ _ _ _ _ _ _ _ _) rfl)
  by_cases k2 : key.toList = ([108] : List UInt8)
  · have e : bytesV t p n (cnt 10 (t.take p)) key = if p = fin t p then F6 else T6 t p (min ((p : Int) + n) (fin t p)) 1 := by unfold bytesV; rw [if_neg k1, if_pos k2]
    rw [e]
    refine Ev.neg k1 (Ev.pos k2 ?_)
    by_cases h : p = fin t p
    · rw [if_pos h]
      exact Ev.pos (by omega) (Ev.cbind (f6 _ _ _) (Ev.now _))
    · have w : mn (wrap64 ((p : Int) + n)) (fin t p : Int) = min ((p : Int) + n) (fin t p) := by rw [mn_eq, wrap64_id (by omega) (by omega)]
      rw [if_neg h, w]
      exact Ev.neg (by omega) (Ev.done (to_ev hl _ _ _ _ _ _ _ _ _ _) rfl)
  by_cases k3 : key.toList = ([32] : List UInt8)
  · have e : bytesV t p n (cnt 10 (t.take p)) key = fin6 t p (onwN t n (p + 1) (-1)) := by unfold bytesV; rw [if_neg k1, if_neg k2, if_pos k3]
    rw [e]
    refine Ev.neg k1 (Ev.neg k2 (Ev.pos k3 (Ev.done (a := fin6 t p (onwN t n (p + 1) (-1))) ?_ rfl)))
    unfold step_walk_onward.f
    rw [show wrap64 ((p : Int) + 1) = ((p + 1 : Nat) : Int) from by rw [wrap64_id (by omega) (by omega)]; omega]
    exact onw_l0 hl _ _ _ _ _ _ _ _ (t.length - p) (p + 1) n (-1) (by omega) (by omega) hn
  by_cases k4 : key.toList = ([8] : List UInt8)
  · have e : bytesV t p n (cnt 10 (t.take p)) key = fin6 t p (bckN t n p (-1)) := by unfold bytesV; rw [if_neg k1, if_neg k2, if_neg k3, if_pos k4]
    rw [e]
    refine Ev.neg k1 (Ev.neg k2 (Ev.neg k3 (Ev.pos k4 (Ev.done (a := fin6 t p (bckN t n p (-1))) ?_ rfl))))
    unfold step_walk_back.f
    rw [wrap64_id (n := (p : Int) - 1) (by omega) (by omega)]
    exact bck_l0 hl _ _ _ _ _ _ _ _ p n (-1) hp hn
  by_cases k5 : key.toList = ([48] : List UInt8)
  · have e : bytesV t p n (cnt 10 (t.take p)) key = T6 t p (beg t p) 1 := by unfold bytesV; rw [if_neg k1, if_neg k2, if_neg k3, if_neg k4, if_pos k5]
    rw [e]
    exact Ev.neg k1 (Ev.neg k2 (Ev.neg k3 (Ev.neg k4 (Ev.pos k5 (Ev.done (to_ev hl _ _ _ _ _ _ _ _ _ _) rfl)))))
  by_cases k6 : key.toList = ([94] : List UInt8)
  · have e : bytesV t p n (cnt 10 (t.take p)) key = T6 t p (firstR t (cnt 10 (t.take p))).1 1 := by unfold bytesV; rw [if_neg k1, if_neg k2, if_neg k3, if_neg k4, if_neg k5, if_pos k6]
    rw [e]
    exact Ev.neg k1 (Ev.neg k2 (Ev.neg k3 (Ev.neg k4 (Ev.neg k5 (Ev.pos k6 (Ev.bind (First_ev hu hl _ (by omega)) (Ev.done (to_ev hl _ _ _ _ _ _ _ _ _ _) rfl)))))))
  by_cases k7 : key.toList = ([124] : List UInt8)
  · have e : bytesV t p n (cnt 10 (t.take p)) key = ((p : Int), (atR t (cnt 10 (t.take p)) ((n : Int) - 1)).1, 1, (n : Int) - 1, 0, true) := by unfold bytesV; rw [if_neg k1, if_neg k2, if_neg k3, if_neg k4, if_neg k5, if_neg k6, if_pos k7]
    have w : wrap64 ((n : Int) - 1) = (n : Int) - 1 := wrap64_id (by omega) (by omega)
    rw [e]
    refine Ev.neg k1 (Ev.neg k2 (Ev.neg k3 (Ev.neg k4 (Ev.neg k5 (Ev.neg k6 (Ev.pos k7 ?_))))))
    rw [w]
    exact Ev.done (At_ev hu hl _ _ (by omega)) rfl
  by_cases k8 : key.toList = ([36] : List UInt8)
  · have e : bytesV t p n (cnt 10 (t.take p)) key = if (endR t (cnt 10 (t.take p) + n - 1)).2 = 0 then ((p : Int), (endR t (cnt 10 (t.take p) + n - 1)).1, 1, -1, 0, true) else F6 := by unfold bytesV; rw [if_neg k1, if_neg k2, if_neg k3, if_neg k4, if_neg k5, if_neg k6, if_neg k7, if_pos k8]
    have w : wrap64 ((wrap64 (cnt 10 (t.take p) + (n : Int))) - 1) = cnt 10 (t.take p) + (n : Int) - 1 := by rw [wrap64_id (n := cnt 10 (t.take p) + (n : Int)) (by omega) (by omega), wrap64_id (by omega) (by omega)]
    rw [e]
    refine Ev.neg k1 (Ev.neg k2 (Ev.neg k3 (Ev.neg k4 (Ev.neg k5 (Ev.neg k6 (Ev.neg k7 (Ev.pos k8 ?_)))))))
    rw [w]
    refine Ev.bind (End_ev hu hl _ (by omega)) ?_
    by_cases h : (endR t (cnt 10 (t.take p) + n - 1)).2 = 0
    · rw [if_pos h, if_pos h]
      exact Ev.now _
    · rw [if_neg h, if_neg h]
      exact Ev.cbind (f6 _ _ _) (Ev.now _)
  have e : bytesV t p n (cnt 10 (t.take p)) key = (0, 0, 0, 0, 0, false) := by unfold bytesV; rw [if_neg k1, if_neg k2, if_neg k3, if_neg k4, if_neg k5, if_neg k6, if_neg k7, if_neg k8]
  rw [e]
  exact Ev.neg k1 (Ev.neg k2 (Ev.neg k3 (Ev.neg k4 (Ev.neg k5 (Ev.neg k6 (Ev.neg k7 (Ev.neg k8 (Ev.now _))))))))
theorem lines_j5 (p want n to_ : Int) (g : Bool) (ln ls st en : Int) (jk : Bool) (hto : to_ ≤ 9223372036854775807) : Ev (fun k => step_walk_lines.j5 k to_ jk t p want n g ln ls st en) (if jk = true then (p, (atR t to_ want).1, 3, want, 0, true) else T6 t p (firstR t to_).1 3) := by
  refine Ev.step (f := fun k => if jk = true then ((lines_At.f k t to_ want).bind fun bt240 => (some (p, bt240.1, 3, want, 0, true))) else ((lines_First.f k t to_).bind fun bt242 => ((step_walk_to.f k t p want n g ln ls st en bt242.1 3).bind fun bt244 => (some (bt244.1, bt244.2.1, bt244.2.2.1, bt244.2.2.2.1, bt244.2.2.2.2.1, bt244.2.2.2.2.2))))) (fun _ => rfl) ?_
  cases jk with
  | true => exact Ev.pos rfl (Ev.done (At_ev hu hl to_ want hto) rfl)
  | false => exact Ev.neg (by decide) (Ev.bind (First_ev hu hl to_ hto) (Ev.done (to_ev hl _ _ _ _ _ _ _ _ _ _) rfl))
theorem lines_j3 (p want n to_ : Int) (g : Bool) (ln st en : Int) (key : ByteArray) (jk : Bool) (hto : to_ ≤ 9223372036854775807) (hk : jk = true ↔ (key.toList = ([106] : List UInt8) ∨ key.toList = ([107] : List UInt8))) : Ev (fun k => step_walk_lines.j3 k key to_ t p want n g ln (cnt 10 t) st en) (lineV t p want to_ jk) := by
  have j5 := lines_j5 hu hl p want n to_ g ln (cnt 10 t) st en jk hto
  have j4f : ¬ (to_ < 0 ∨ to_ > cnt 10 t) → Ev (fun k => step_walk_lines.j4 k key to_ false t p want n g ln (cnt 10 t) st en) (lineV t p want to_ jk) := by
    intro h
    have e : lineV t p want to_ jk = (if jk = true then (p, (atR t to_ want).1, 3, want, 0, true) else T6 t p (firstR t to_).1 3) := by unfold lineV; rw [if_neg h]
    rw [e]
    refine Ev.step (f := fun k => if key.toList = ([106] : List UInt8) then (step_walk_lines.j5 k to_ true t p want n g ln (cnt 10 t) st en) else (step_walk_lines.j5 k to_ (key.toList == ([107] : List UInt8)) t p want n g ln (cnt 10 t) st en)) (fun _ => rfl) ?_
    by_cases h1 : key.toList = ([106] : List UInt8)
    · have : jk = true := hk.2 (.inl h1)
      subst this
      exact Ev.pos h1 j5
    · refine Ev.neg h1 ?_
      have : (key.toList == ([107] : List UInt8)) = jk := by
        cases jk with
        | true =>
          rcases hk.1 rfl with h2 | h2
          · exact absurd h2 h1
          · exact beq_iff_eq.2 h2
        | false => exact beq_eq_false_iff_ne.2 (fun h2 => by have := hk.2 (.inr h2); cases this)
      rw [this]
      exact j5
  have j4t : (to_ < 0 ∨ to_ > cnt 10 t) → Ev (fun k => step_walk_lines.j4 k key to_ true t p want n g ln (cnt 10 t) st en) (lineV t p want to_ jk) := by
    intro h
    have e : lineV t p want to_ jk = F6 := by unfold lineV; rw [if_pos h]
    rw [e]
    exact Ev.step (f := fun _ => (step_walk_fails.f t p want n g ln (cnt 10 t) st en).bind fun bt234 => (some (bt234.1, bt234.2.1, bt234.2.2.1, bt234.2.2.2.1, bt234.2.2.2.2.1, bt234.2.2.2.2.2))) (fun _ => rfl) (Ev.cbind rfl (Ev.now _))
  refine Ev.step (f := fun k => if to_ < 0 then (step_walk_lines.j4 k key to_ true t p want n g ln (cnt 10 t) st en) else (step_walk_lines.j4 k key to_ (decide (to_ > cnt 10 t)) t p want n g ln (cnt 10 t) st en)) (fun _ => rfl) ?_
  by_cases h0 : to_ < 0
  · exact Ev.pos h0 (j4t (.inl h0))
  · refine Ev.neg h0 ?_
    by_cases h1 : to_ > cnt 10 t
    · rw [decide_eq_true h1]
      exact j4t (.inr h1)
    · rw [decide_eq_false h1]
      exact j4f (fun h => h.elim h0 h1)
theorem lines_ev {p n : Nat} (hp : p ≤ t.length) (h1 : 1 ≤ n) (hn : n ≤ 9999) (want : Int) (g : Bool) (st en : Int) (key : ByteArray) : Ev (fun k => step_walk_lines.f k t (p : Int) want (n : Int) g (cnt 10 (t.take p)) (cnt 10 t) st en key) (linesV t p want n g (cnt 10 (t.take p)) key) := by
  have c0 := cnt_nonneg 10 (t.take p)
  have c1 := cnt_le 10 (t.take p)
  have c2 := List.length_take_le p t
  have c3 := cnt_nonneg 10 t
  have c4 := cnt_le 10 t
  have w1 : wrap64 (cnt 10 (t.take p) + (n : Int)) = cnt 10 (t.take p) + (n : Int) := wrap64_id (by omega) (by omega)
  have w2 : wrap64 (cnt 10 (t.take p) - (n : Int)) = cnt 10 (t.take p) - (n : Int) := wrap64_id (by omega) (by omega)
  have w3 : wrap64 ((n : Int) - 1) = (n : Int) - 1 := wrap64_id (by omega) (by omega)
  have w4 : wrap64 (cnt 10 (t.take p) + ((n : Int) - 1)) = cnt 10 (t.take p) + ((n : Int) - 1) := wrap64_id (by omega) (by omega)
  have J := fun (to_ : Int) (jk : Bool) (h : to_ ≤ 9223372036854775807) hk => lines_j3 hu hl (p : Int) want (n : Int) to_ g (cnt 10 (t.take p)) st en key jk h hk
  have j0t : ∀ jk : Bool, (jk = true ↔ (key.toList = ([106] : List UInt8) ∨ key.toList = ([107] : List UInt8))) → Ev (fun k => step_walk_lines.j0 k key (cnt 10 (t.take p)) key true t (p : Int) want (n : Int) g (cnt 10 (t.take p)) (cnt 10 t) st en) (lineV t p want (cnt 10 (t.take p) + n) jk) := by
    intro jk hk
    refine Ev.step (f := fun k => step_walk_lines.j3 k key (wrap64 (cnt 10 (t.take p) + (n : Int))) t (p : Int) want (n : Int) g (cnt 10 (t.take p)) (cnt 10 t) st en) (fun _ => rfl) ?_
    rw [w1]
    exact J _ jk (by omega) hk
  have j1t : ∀ jk : Bool, (jk = true ↔ (key.toList = ([106] : List UInt8) ∨ key.toList = ([107] : List UInt8))) → Ev (fun k => step_walk_lines.j1 k key (cnt 10 (t.take p)) key true t (p : Int) want (n : Int) g (cnt 10 (t.take p)) (cnt 10 t) st en) (lineV t p want (cnt 10 (t.take p) - n) jk) := by
    intro jk hk
    refine Ev.step (f := fun k => step_walk_lines.j3 k key (wrap64 (cnt 10 (t.take p) - (n : Int))) t (p : Int) want (n : Int) g (cnt 10 (t.take p)) (cnt 10 t) st en) (fun _ => rfl) ?_
    rw [w2]
    exact J _ jk (by omega) hk
  by_cases k1 : key.toList = ([106] : List UInt8)
  · have e : linesV t p want n g (cnt 10 (t.take p)) key = lineV t p want (cnt 10 (t.take p) + n) true := by unfold linesV; rw [if_pos k1]
    rw [e]
    refine Ev.pos k1 ?_
    rw [beq_iff_eq.2 k1]
    exact j0t true ⟨fun _ => .inl k1, fun _ => rfl⟩
  by_cases k2 : key.toList = ([43] : List UInt8)
  · have e : linesV t p want n g (cnt 10 (t.take p)) key = lineV t p want (cnt 10 (t.take p) + n) false := by unfold linesV; rw [if_neg k1, if_pos k2]
    rw [e]
    refine Ev.neg k1 (Ev.pos k2 ?_)
    rw [beq_iff_eq.2 k2]
    exact j0t false ⟨(fun h => by cases h), (fun h => by rw [k2] at h; simp at h)⟩
  by_cases k3 : key.toList = ([13] : List UInt8)
  · have e : linesV t p want n g (cnt 10 (t.take p)) key = lineV t p want (cnt 10 (t.take p) + n) false := by unfold linesV; rw [if_neg k1, if_neg k2, if_pos k3]
    rw [e]
    refine Ev.neg k1 (Ev.neg k2 ?_)
    rw [beq_iff_eq.2 k3]
    exact j0t false ⟨(fun h => by cases h), (fun h => by rw [k3] at h; simp at h)⟩
  have j0f : ∀ {r : R6}, Ev (fun k => if key.toList = ([107] : List UInt8) then (step_walk_lines.j1 k key (cnt 10 (t.take p)) key (key.toList == ([107] : List UInt8)) t (p : Int) want (n : Int) g (cnt 10 (t.take p)) (cnt 10 t) st en) else (step_walk_lines.j1 k key (cnt 10 (t.take p)) key (key.toList == ([45] : List UInt8)) t (p : Int) want (n : Int) g (cnt 10 (t.take p)) (cnt 10 t) st en)) r → Ev (fun k => step_walk_lines.f k t (p : Int) want (n : Int) g (cnt 10 (t.take p)) (cnt 10 t) st en key) r := by
    intro r h
    refine Ev.neg k1 (Ev.neg k2 ?_)
    rw [beq_eq_false_iff_ne.2 k3]
    exact Ev.step (fun _ => rfl) h
  by_cases k4 : key.toList = ([107] : List UInt8)
  · have e : linesV t p want n g (cnt 10 (t.take p)) key = lineV t p want (cnt 10 (t.take p) - n) true := by unfold linesV; rw [if_neg k1, if_neg k2, if_neg k3, if_pos k4]
    rw [e]
    refine j0f (Ev.pos k4 ?_)
    rw [beq_iff_eq.2 k4]
    exact j1t true ⟨fun _ => .inr k4, fun _ => rfl⟩
  have nk : ∀ b : Bool, b = false → (b = true ↔ (key.toList = ([106] : List UInt8) ∨ key.toList = ([107] : List UInt8))) := fun b hb => ⟨(fun h => by rw [hb] at h; cases h), fun h => h.elim (fun h => absurd h k1) (fun h => absurd h k4)⟩
  by_cases k5 : key.toList = ([45] : List UInt8)
  · have e : linesV t p want n g (cnt 10 (t.take p)) key = lineV t p want (cnt 10 (t.take p) - n) false := by unfold linesV; rw [if_neg k1, if_neg k2, if_neg k3, if_neg k4, if_pos k5]
    rw [e]
    refine j0f (Ev.neg k4 ?_)
    rw [beq_iff_eq.2 k5]
    exact j1t false (nk false rfl)
  have j1f : ∀ {r : R6}, Ev (fun k => if key.toList = ([95] : List UInt8) then (step_walk_lines.j3 k key (wrap64 (cnt 10 (t.take p) + (wrap64 ((n : Int) - 1)))) t (p : Int) want (n : Int) g (cnt 10 (t.take p)) (cnt 10 t) st en) else (if key.toList = ([71] : List UInt8) then (step_walk_lines.j2 k key (key.toList == ([71] : List UInt8)) t (p : Int) want (n : Int) g (cnt 10 (t.take p)) (cnt 10 t) st en) else (step_walk_lines.j2 k key (key.toList == ([103, 103] : List UInt8)) t (p : Int) want (n : Int) g (cnt 10 (t.take p)) (cnt 10 t) st en))) r → Ev (fun k => step_walk_lines.f k t (p : Int) want (n : Int) g (cnt 10 (t.take p)) (cnt 10 t) st en key) r := by
    intro r h
    refine j0f (Ev.neg k4 ?_)
    rw [beq_eq_false_iff_ne.2 k5]
    exact Ev.step (fun _ => rfl) h
  by_cases k6 : key.toList = ([95] : List UInt8)
  · have e : linesV t p want n g (cnt 10 (t.take p)) key = lineV t p want (cnt 10 (t.take p) + ((n : Int) - 1)) false := by unfold linesV; rw [if_neg k1, if_neg k2, if_neg k3, if_neg k4, if_neg k5, if_pos k6]
    rw [e]
    refine j1f (Ev.pos k6 ?_)
    rw [w3, w4]
    exact J _ false (by omega) (nk false rfl)
  have j2t : ∀ {r : R6}, Ev (fun k => if key.toList = ([71] : List UInt8) then (if g = true then (step_walk_lines.j3 k key (wrap64 ((n : Int) - 1)) t (p : Int) want (n : Int) g (cnt 10 (t.take p)) (cnt 10 t) st en) else (step_walk_lines.j3 k key (cnt 10 t) t (p : Int) want (n : Int) g (cnt 10 (t.take p)) (cnt 10 t) st en)) else (step_walk_lines.j3 k key (wrap64 ((n : Int) - 1)) t (p : Int) want (n : Int) g (cnt 10 (t.take p)) (cnt 10 t) st en)) r → Ev (fun k => step_walk_lines.j2 k key true t (p : Int) want (n : Int) g (cnt 10 (t.take p)) (cnt 10 t) st en) r := fun h => Ev.step (fun _ => rfl) h
  by_cases k7 : key.toList = ([71] : List UInt8)
  · have e : linesV t p want n g (cnt 10 (t.take p)) key = lineV t p want (if g = true then (n : Int) - 1 else cnt 10 t) false := by unfold linesV; rw [if_neg k1, if_neg k2, if_neg k3, if_neg k4, if_neg k5, if_neg k6, if_pos k7]
    rw [e]
    refine j1f (Ev.neg k6 (Ev.pos k7 ?_))
    rw [beq_iff_eq.2 k7]
    refine j2t (Ev.pos k7 ?_)
    cases g with
    | true =>
      rw [w3]
      exact Ev.pos rfl (J _ false (by omega) (nk false rfl))
    | false => exact Ev.neg (by decide) (J _ false (by omega) (nk false rfl))
  by_cases k8 : key.toList = ([103, 103] : List UInt8)
  · have e : linesV t p want n g (cnt 10 (t.take p)) key = lineV t p want ((n : Int) - 1) false := by unfold linesV; rw [if_neg k1, if_neg k2, if_neg k3, if_neg k4, if_neg k5, if_neg k6, if_neg k7, if_pos k8]
    rw [e]
    refine j1f (Ev.neg k6 (Ev.neg k7 ?_))
    rw [beq_iff_eq.2 k8]
    refine j2t (Ev.neg k7 ?_)
    rw [w3]
    exact J _ false (by omega) (nk false rfl)
  have e : linesV t p want n g (cnt 10 (t.take p)) key = (0, 0, 0, 0, 0, false) := by unfold linesV; rw [if_neg k1, if_neg k2, if_neg k3, if_neg k4, if_neg k5, if_neg k6, if_neg k7, if_neg k8]
  rw [e]
  refine j1f (Ev.neg k6 (Ev.neg k7 ?_))
  rw [beq_eq_false_iff_ne.2 k8]
  exact Ev.step (f := fun _ => some (0, 0, 0, 0, 0, false)) (fun _ => rfl) (Ev.now _)
theorem move_ev (a want count : Int) (key : ByteArray) : Ev (fun k => step_Move.f k t a want count key) (moveV t a want count key) := by
  have bad : ∀ x : Int, Ev (fun k => step_Move.j0 k t a want count key x true) (0, 0, 0, 0, 2) := fun x => Ev.step (f := fun _ => some (0, 0, 0, 0, 2)) (fun _ => rfl) (Ev.now _)
  have o1 := Of_eq hu a
  refine Ev.cbind o1 ?_
  by_cases h0 : 0 ≤ a ∧ a ≤ t.length
  · rw [if_pos h0]
    refine Ev.pos rfl ?_
    by_cases h1 : want < -1
    · have e : moveV t a want count key = (0, 0, 0, 0, 2) := by unfold moveV; rw [if_neg (fun h => h.2.1 h1)]
      rw [e]
      exact Ev.pos h1 (bad _)
    by_cases h2 : count < 0
    · have e : moveV t a want count key = (0, 0, 0, 0, 2) := by unfold moveV; rw [if_neg (fun h => h.2.2.1 h2)]
      rw [e]
      exact Ev.neg h1 (Ev.pos h2 (bad _))
    by_cases h3 : count > 9999
    · have e : moveV t a want count key = (0, 0, 0, 0, 2) := by unfold moveV; rw [if_neg (fun h => h.2.2.2 h3)]
      rw [e]
      refine Ev.neg h1 (Ev.neg h2 ?_)
      rw [decide_eq_true h3]
      exact bad _
    have e : moveV t a want count key = moveN t a.toNat want (max count 1).toNat (decide (count > 0)) key := by unfold moveV; rw [if_pos ⟨h0, h1, h2, h3⟩]
    rw [e]
    refine Ev.neg h1 (Ev.neg h2 ?_)
    rw [decide_eq_false h3]
    obtain ⟨p, rfl⟩ := Int.eq_ofNat_of_zero_le h0.1
    have hp : p ≤ t.length := by omega
    simp only [Int.toNat_natCast]
    obtain ⟨n, hn⟩ : ∃ n : Nat, max count 1 = (n : Int) := ⟨(max count 1).toNat, by omega⟩
    have hm : mx count 1 = (n : Int) := by rw [mx_eq, hn]
    have c3 := cnt_nonneg 10 t
    have c4 := cnt_le 10 t
    have hw : wrap64 (cnt 10 t + 1 - 1) = cnt 10 t := by rw [wrap64_id (by omega) (by omega)]; omega
    have b1 := bytes_ev hu hl hp (n := n) (by omega) (by omega) want (decide (count > 0)) (cnt 10 t) key
    have l1 := lines_ev hu hl hp (n := n) (by omega) (by omega) want (decide (count > 0)) (beg t p) (fin t p) key
    rw [hn, Int.toNat_natCast]
    refine Ev.step (f := fun k => (lines_Count.f t).bind fun t253 => ((lines_Start.f k t (cnt 10 (t.take p))).bind fun bt255 => ((lines_End.f k t (cnt 10 (t.take p))).bind fun bt257 => ((step_walk_bytes.f k t (p : Int) want (mx count 1) (decide (count > 0)) (cnt 10 (t.take p)) (wrap64 (t253 - 1)) bt255.1 bt257.1 key).bind fun bt259 => (if bt259.2.2.2.2.2 = true then (some (bt259.1, bt259.2.1, bt259.2.2.1, bt259.2.2.2.1, bt259.2.2.2.2.1)) else ((step_walk_lines.f k t (p : Int) want (mx count 1) (decide (count > 0)) (cnt 10 (t.take p)) (wrap64 (t253 - 1)) bt255.1 bt257.1 key).bind fun bt266 => (if bt266.2.2.2.2.2 = true then (some (bt266.1, bt266.2.1, bt266.2.2.1, bt266.2.2.2.1, bt266.2.2.2.2.1)) else (some (0, 0, 0, 0, 2))))))))) (fun _ => rfl) (Ev.cbind (Count_eq hu hl) (Ev.bind (Start_of hu hl hp) (Ev.bind (End_of hu hl hp) ?_)))
    rw [hm, hw]
    refine Ev.bind b1 ?_
    by_cases h4 : (bytesV t p n (cnt 10 (t.take p)) key).2.2.2.2.2 = true
    · have e2 : moveN t p want n (decide (count > 0)) key = five (bytesV t p n (cnt 10 (t.take p)) key) := by unfold moveN; rw [if_pos h4]
      rw [e2]
      exact Ev.pos h4 (Ev.now _)
    · refine Ev.neg h4 (Ev.bind l1 ?_)
      by_cases h5 : (linesV t p want n (decide (count > 0)) (cnt 10 (t.take p)) key).2.2.2.2.2 = true
      · have e2 : moveN t p want n (decide (count > 0)) key = five (linesV t p want n (decide (count > 0)) (cnt 10 (t.take p)) key) := by unfold moveN; rw [if_neg h4, if_pos h5]
        rw [e2]
        exact Ev.pos h5 (Ev.now _)
      · have e2 : moveN t p want n (decide (count > 0)) key = (0, 0, 0, 0, 2) := by unfold moveN; rw [if_neg h4, if_neg h5]
        rw [e2]
        exact Ev.neg h5 (Ev.now _)
  · have e : moveV t a want count key = (0, 0, 0, 0, 2) := by unfold moveV; rw [if_neg (fun h => h0 h.1)]
    rw [if_neg h0, e]
    exact Ev.neg (by decide) (bad _)
end
end Go.Proofs.Ytofkcdnkbjpmmaa.MV
