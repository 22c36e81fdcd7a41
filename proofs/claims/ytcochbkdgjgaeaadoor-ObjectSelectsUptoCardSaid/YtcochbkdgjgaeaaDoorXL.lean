/-
  Plain tools for the pure statements of the seat YtcochbkdgjgaeaaDoor: rounds, wrap64, lists. Printed by wip/xprint.py out of xl.tpl.lean.
-/
import Derived.Test.YtcochbkdgjgaeaaDoorWALL
import Derived.RowKit
namespace Go.Proofs.YtcochbkdgjgaeaaDoor.XL
open Go.RowKit Go.Proofs.YtcochbkdgjgaeaaDoorW.PrintWords Go.Proofs.YtcochbkdgjgaeaaDoorW.PrintMore

section
variable {α β : Type}
theorem Ev.pos {c : Prop} [Decidable c] {g f : Nat → Option α} {r : α} (h : c) (k : Ev g r) : Ev (fun n => if c then g n else f n) r := by
  simpa only [if_pos h] using k
theorem Ev.neg {c : Prop} [Decidable c] {g f : Nat → Option α} {r : α} (h : ¬ c) (k : Ev f r) : Ev (fun n => if c then g n else f n) r := by
  simpa only [if_neg h] using k
theorem Ev.ite {c : Prop} [Decidable c] {g f : Nat → Option α} {r : α} (h1 : c → Ev g r) (h2 : ¬ c → Ev f r) : Ev (fun n => if c then g n else f n) r := by
  by_cases h : c
  · exact Ev.pos h (h1 h)
  · exact Ev.neg h (h2 h)
theorem Ev.eq {g : Nat → Option α} {r r' : α} (h : Ev g r) (e : r = r') : Ev g r' := e ▸ h
theorem Ev.cbind {x : Option α} {f : Nat → α → Option β} {a : α} {r : β} (h : x = some a) (k : Ev (fun n => f n a) r) : Ev (fun n => x.bind (f n)) r := by
  subst h
  exact k
theorem Ev.done {g : Nat → Option α} {a : α} {f : α → β} {r : β} (h : Ev g a) (e : f a = r) : Ev (fun n => (g n).bind fun x => some (f x)) r := by
  subst e
  exact Ev.bind h (Ev.now _)
theorem Ev.pass {g : Nat → Option α} {a : α} (h : Ev g a) : Ev (fun n => (g n).bind fun x => some x) a := Ev.done h rfl
theorem Ev.unique {g : Nat → Option α} {a b : α} (h : Ev g a) (h' : Ev g b) : a = b := by
  obtain ⟨K, h⟩ := h
  obtain ⟨K', h'⟩ := h'
  have h1 := h (max K K') (Nat.le_max_left _ _)
  rw [h' _ (Nat.le_max_right _ _)] at h1
  exact (Option.some.inj h1).symm
end
theorem wrap64_id {n : Int} (h1 : -9223372036854775808 ≤ n) (h2 : n ≤ 9223372036854775807) : wrap64 n = n := by
  unfold wrap64
  omega
theorem getD_mid {α : Type} (pre suf : List α) (s d : α) : (pre ++ s :: suf).getD pre.length d = s := by
  rw [List.getD_eq_getElem?_getD, List.getElem?_append_right (Nat.le_refl _), Nat.sub_self]
  rfl
end Go.Proofs.YtcochbkdgjgaeaaDoor.XL
