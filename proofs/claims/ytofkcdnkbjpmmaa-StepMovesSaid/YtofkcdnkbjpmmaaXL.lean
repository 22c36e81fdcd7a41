/-
  Plain tools for the pure statements of the seat Ytofkcdnkbjpmmaa: rounds, wrap64, lists. Printed by wip/xprint.py out of xl.tpl.lean.
-/
import Derived.Test.YtofkcdnkbjpmmaaWALL
import Derived.RowKit
namespace Go.Proofs.Ytofkcdnkbjpmmaa.XL
open Go.RowKit Go.Proofs.YtofkcdnkbjpmmaaW.PrintWords Go.Proofs.YtofkcdnkbjpmmaaW.PrintMore

section
variable {α β : Type}
theorem Ev.pos {c : Prop} [Decidable c] {g f : Nat → Option α} {r : α} (h : c) (k : Ev g r) : Ev (fun n => if c then g n else f n) r := by
  simpa only [if_pos h] using k
theorem Ev.neg {c : Prop} [Decidable c] {g f : Nat → Option α} {r : α} (h : ¬ c) (k : Ev f r) : Ev (fun n => if c then g n else f n) r := by
  simpa only [if_neg h] using k
theorem Ev.ite {c : Prop} [Decidable c] {g f : Nat → Option α} {r : α} (h1 : c → Ev g r) (h2 : ¬ c → Ev f r) : Ev (fun n => if c then g n else f n) r := by
  by_cases h : c
  · exact Ev.pos h (h1 h)
  · exact Ev.neg h (h2 h)
theorem Ev.const {x : Option α} {r : α} (h : x = some r) : Ev (fun _ => x) r := ⟨0, fun _ _ => h⟩
theorem Ev.eq {g : Nat → Option α} {r r' : α} (h : Ev g r) (e : r = r') : Ev g r' := e ▸ h
theorem Ev.cbind {x : Option α} {f : Nat → α → Option β} {a : α} {r : β} (h : x = some a) (k : Ev (fun n => f n a) r) : Ev (fun n => x.bind (f n)) r := by
  subst h
  exact k
theorem Ev.done {g : Nat → Option α} {a : α} {f : α → β} {r : β} (h : Ev g a) (e : f a = r) : Ev (fun n => (g n).bind fun x => some (f x)) r := by
  subst e
  exact Ev.bind h (Ev.now _)
theorem Ev.pass {g : Nat → Option α} {a : α} (h : Ev g a) : Ev (fun n => (g n).bind fun x => some x) a := Ev.done h rfl
end
theorem wrap64_id {n : Int} (h1 : -9223372036854775808 ≤ n) (h2 : n ≤ 9223372036854775807) : wrap64 n = n := by
  unfold wrap64
  omega
theorem mx_eq (a b : Int) : mx a b = max a b := by unfold mx; omega
theorem mn_eq (a b : Int) : mn a b = min a b := by unfold mn; omega
end Go.Proofs.Ytofkcdnkbjpmmaa.XL
