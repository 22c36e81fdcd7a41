/-
  Patterns, by hand: alive.
-/
import Derived.Test.YtffpkldphkmjmaaDoorPT10
import Derived.Lib.SlBytesConst
namespace Go.Proofs.YtffpkldphkmjmaaDoor.PT
open Go.RowKit Go.Proofs.YtffpkldphkmjmaaDoorW.PrintWords Go.Proofs.YtffpkldphkmjmaaDoorW.PrintMore
set_option linter.unusedVariables false
set_option maxHeartbeats 4000000 in
set_option maxRecDepth 100000 in
theorem all_none {w : World} {A : Option Addr} {c n : Nat} :
    Calls Tryd.prog 19 #[.pointer none, .slice A n c] w fun e w' => e = .returned (.slice none 0 0) ∧ w' = w := by
  go_enter Tryd.func19, Tryd.ntmps19
  go_wp2
  exact bodyPost_ret (v := .slice none 0 0) (by simp [results, Tryd.results19, go_sem]) rfl ⟨rfl, rfl⟩
theorem u8_C {w : World} {b : Nat} {xs : List Int} {fr : Nat × Nat} (h : w.heap[b]? = some (.cells (xs.map (Value.int .u8)).toArray 5 fr)) (hl : xs.length ≤ 281474976710656) : Kd.C (Kd.int .u8) w (some ⟨b, 0, none⟩) xs.length xs := by
  refine Kd.C_of_reads (enc := Value.int .u8) (d := (0 : Int)) (h1 := fun _ => rfl) ⟨rfl, by omega, fun _ => ⟨_, rfl, fun j hj => ?_⟩⟩
  have h1 : w.cell? ⟨b, j, none⟩ = some (.int .u8 (xs.getD j 0)) := (cell_of_row w b j _ _ _ h).trans (by rw [List.getD_eq_getElem?_getD]; simp [hj])
  cases j with
  | zero => simpa [Addr.add] using h1
  | succ j => simpa [Addr.add] using h1
def lb : List Int := [98, 46, 42, 100]
def la : List Int := [97, 91, 98]
def l1 : List Int := [97]
def lx : List Int := [97, 98, 99, 100, 98, 100]
theorem val_lb : (compileV lb).2 = (0, 0) ∧ ((compileV lb).1.map fun pl => findV lx pl 0) = some (1, 6, true) := by decide +kernel
theorem val_la : (compileV la).2 = (1, 110) ∧ (compileV la).1.isNone = true := by decide +kernel
theorem u8_of (xs : List Int) (h : xs.all (fun x => decide (0 ≤ x ∧ x ≤ 255)) = true) : ∀ i, 0 ≤ rd xs i ∧ rd xs i ≤ 255 := by
  intro i
  unfold rd
  rw [List.getD_eq_getElem?_getD]
  rw [List.all_eq_true] at h
  cases e : xs[i.toNat]? with
  | none => simp
  | some x => simpa using h x (List.mem_of_getElem? e)
theorem compile_lb {w : World} {b : Nat} (h : w.heap[b]? = some (.cells #[.int .u8 98, .int .u8 46, .int .u8 42, .int .u8 100] 5 (4, 5))) :
    Calls Tryd.prog 16 #[.slice (some ⟨b, 0, none⟩) 4 4] w fun e w' => ∃ v, e = .returned (.tuple #[v, .int .i64 0, .int .i64 0]) ∧ Below w.heap.size w w' ∧ ∃ pl, PatO w' w.heap.size v (some pl) ∧ findV lx pl 0 = (1, 6, true) := by
  have h2 := compile_calls (c := 4) (u8_C (xs := lb) (fr := (4, 5)) h (by decide)) (u8_of lb (by decide))
  have hv := val_lb
  generalize compileV lb = r at h2 hv
  obtain ⟨r1, r2, r3⟩ := r
  obtain ⟨hv1, hv2⟩ := hv
  simp only [Prod.mk.injEq] at hv1
  obtain ⟨rfl, rfl⟩ := hv1
  cases r1 with
  | none => cases hv2
  | some pl =>
    simp only [Option.map_some, Option.some.injEq] at hv2
    exact h2.mono fun e w' ⟨v, h3, h4, h5⟩ => ⟨v, h3, h4, pl, h5, hv2⟩
theorem compile_la {w : World} {b : Nat} (h : w.heap[b]? = some (.cells #[.int .u8 97, .int .u8 91, .int .u8 98] 5 (3, 4))) :
    Calls Tryd.prog 16 #[.slice (some ⟨b, 0, none⟩) 3 3] w fun e w' => ∃ v, e = .returned (.tuple #[v, .int .i64 1, .int .i64 110]) ∧ Below w.heap.size w w' := by
  have h2 := compile_calls (c := 3) (u8_C (xs := la) (fr := (3, 4)) h (by decide)) (u8_of la (by decide))
  have hv := val_la
  generalize compileV la = r at h2 hv
  obtain ⟨r1, r2, r3⟩ := r
  obtain ⟨hv1, hv2⟩ := hv
  simp only [Prod.mk.injEq] at hv1
  obtain ⟨rfl, rfl⟩ := hv1
  exact h2.mono fun e w' ⟨v, h3, h4, h5⟩ => ⟨v, h3, h4⟩
theorem PatO_below {w w' : World} {base : Nat} {v : Value} {o : Option (List PTh)} (h : PatO w base v o) (hb : Below w.heap.size w w') : PatO w' base v o := by
  cases o with
  | none => exact h
  | some pl =>
    obtain ⟨b, A1, c1, l, e1, e2, e3, e4, e5, e6, e7⟩ := h
    exact ⟨b, A1, c1, l, e1, e2, blk_below e3 hb, Kd.R_below e4 hb, fun x hx => SetAt_below (e5 x hx) hb, e6, e7⟩
end Go.Proofs.YtffpkldphkmjmaaDoor.PT
