/-
  Plain tools for the pure statements of the seat YtdhdngoeaneanaaDoor: rounds, wrap64, lists. Printed by wip/xprint.py out of xl.tpl.lean.
-/
import Derived.Test.YtdhdngoeaneanaaDoorWALL
import Derived.RowKit
namespace Go.Proofs.YtdhdngoeaneanaaDoor.XL
open Go.RowKit Go.Proofs.YtdhdngoeaneanaaDoorW.PrintWords Go.Proofs.YtdhdngoeaneanaaDoorW.PrintMore

section
variable {α β : Type}
theorem Ev.pos {c : Prop} [Decidable c] {g f : Nat → Option α} {r : α} (h : c) (k : Ev g r) : Ev (fun n => if c then g n else f n) r := by
  simpa only [if_pos h] using k
theorem Ev.neg {c : Prop} [Decidable c] {g f : Nat → Option α} {r : α} (h : ¬ c) (k : Ev f r) : Ev (fun n => if c then g n else f n) r := by
  simpa only [if_neg h] using k
theorem Ev.ite {c : Prop} [Decidable c] {g f : Nat → Option α} {r : α} (h1 : c → Ev g r) (h2 : ¬ c → Ev f r) : Ev (fun n => if c then g n else f n) r := by
  by_cases h : c
  · exact Ev.pos h (h1 h)
  · exact Ev.neg h (h2 h)
theorem Ev.const {x : Option α} {r : α} (h : x = some r) : Ev (fun _ => x) r := ⟨0, fun _ _ => h⟩
theorem Ev.done {g : Nat → Option α} {a : α} {f : α → β} {r : β} (h : Ev g a) (e : f a = r) : Ev (fun n => (g n).bind fun x => some (f x)) r := by
  subst e
  exact Ev.bind h (Ev.now _)
theorem Ev.pass {g : Nat → Option α} {a : α} (h : Ev g a) : Ev (fun n => (g n).bind fun x => some x) a := Ev.done h rfl
end
end Go.Proofs.YtdhdngoeaneanaaDoor.XL
