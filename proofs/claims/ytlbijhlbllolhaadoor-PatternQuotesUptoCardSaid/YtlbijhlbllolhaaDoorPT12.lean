/-
  Patterns, by hand: alive.
-/
import Derived.Test.YtlbijhlbllolhaaDoorPT11
namespace Go.Proofs.YtlbijhlbllolhaaDoor.PT
open Go.RowKit Go.Proofs.YtlbijhlbllolhaaDoorW.PrintWords Go.Proofs.YtlbijhlbllolhaaDoorW.PrintMore
set_option linter.unusedVariables false
theorem alive_lb (w : World) : Calls Tryd.prog 6 #[.slice (some ⟨w.heap.size, 0, none⟩) 4 4] (w.alloc (.cells #[.int .u8 98, .int .u8 46, .int .u8 42, .int .u8 100] 5 (4, 5))) fun e w' => ∃ v, e = .returned (.tuple #[v, .int .i64 0, .int .i64 0]) ∧ Below w.heap.size w w' ∧ ∃ pl base, PatO w' base v (some pl) ∧ findV lx pl 0 = (1, 6, true) :=
  (compile_lb (heap_alloc_new w _)).mono fun e w' ⟨v, h1, h2, pl, h3, h4⟩ => ⟨v, h1, below_step (below_alloc (Below.refl _ _) _) h2, pl, _, h3, h4⟩
theorem alive_lx (w : World) {v : Value} {pl : List PTh} {base : Nat} (h : PatO w base v (some pl)) (hv : findV lx pl 0 = (1, 6, true)) : Calls Tryd.prog 7 #[v, .slice (some ⟨w.heap.size, 0, none⟩) 6 6, .int .i64 0] (w.alloc (.cells #[.int .u8 97, .int .u8 98, .int .u8 99, .int .u8 100, .int .u8 98, .int .u8 100] 5 (6, 7))) fun e w' => e = .returned (.tuple #[.int .i64 1, .int .i64 6, .bool true]) ∧ Below w.heap.size w w' := by
  have h2 := find_calls (c := 6) (from_ := 0) (u8_C (xs := lx) (fr := (6, 7)) (heap_alloc_new w _) (by decide)) (u8_of lx (by decide)) (by decide) (by decide) (PatO_below h (below_alloc (Below.refl _ _) _))
  rw [hv] at h2
  exact h2.mono fun e w' ⟨h3, h4⟩ => ⟨h3, below_step (below_alloc (Below.refl _ _) _) h4⟩
theorem alive_la (w : World) : Calls Tryd.prog 6 #[.slice (some ⟨w.heap.size, 0, none⟩) 3 3] (w.alloc (.cells #[.int .u8 97, .int .u8 91, .int .u8 98] 5 (3, 4))) fun e w' => ∃ v, e = .returned (.tuple #[v, .int .i64 1, .int .i64 110]) ∧ Below w.heap.size w w' :=
  (compile_la (heap_alloc_new w _)).mono fun e w' ⟨v, h1, h2⟩ => ⟨v, h1, below_step (below_alloc (Below.refl _ _) _) h2⟩
set_option maxHeartbeats 1000000 in
set_option maxRecDepth 100000 in
theorem alive_calls {w : World} :
    Calls Tryd.prog 4 #[] w fun e w' => e = .returned (.bool true) ∧ Below w.heap.size w w' := by
  have kc := fun (w_ : World) (C_ : Array Value) (n_ c_ : Nat) => Lib.run_convert_bytes_const (P := Tryd.prog) w_ 22 5 C_ n_ c_ Tryd.underlying22 Tryd.underlying5
  have HC1 := Aside0.mk (alive_lb w)
  have HC2 : ∀ w1, Aside0 _ := fun w1 => ⟨alive_la w1⟩
  go_enter Tryd.func4, Tryd.ntmps4
  have HC0 := True.intro
  have HC3 : ∀ (W : World) (A : Option Addr), Aside0 (Calls Tryd.prog 7 #[.pointer none, .slice A 1 1, .int .i64 0] W fun e w' => e = .returned (.tuple #[.int .i64 0, .int .i64 0, .bool false]) ∧ Below W.heap.size W w') := fun W A => ⟨find_none⟩
  have HC4 : ∀ (W : World) (A : Option Addr), Aside0 (Calls Tryd.prog 8 #[.pointer none, .slice A 1 1] W fun e w' => e = .returned (.slice none 0 0) ∧ Below W.heap.size W w') := fun W A => ⟨all_none.mono fun e w' ⟨h1, h2⟩ => ⟨h1, by rw [h2]; exact Below.refl _ _⟩⟩
  go_wp2_with (first
    | (go_at_call 6; first
      | (with_reducible refine HC1.out.mono ?_; rintro e w1 ⟨v1, rfl, hx, pl, base, hp, hv⟩; have H1 := Aside0.mk (And.intro hx (And.intro hp hv)); clear hx hp hv)
      | (with_reducible refine (HC2 _).out.mono ?_; rintro e w2 ⟨v2, rfl, hx⟩; have H2 := Aside0.mk hx; clear hx))
    | (go_at_call 7; first
      | (with_reducible refine (HC3 _ _).out.mono ?_; rintro e w3 ⟨rfl, hx⟩; have H3 := Aside0.mk hx; clear hx)
      | (with_reducible refine (alive_lx _ (PatO_below (PatO_below (PatO_below H1.out.2.1 H2.out) (below_step (below_alloc (Below.refl _ _) _) H3.out)) (below_step (below_alloc (Below.refl _ _) _) H4.out)) H1.out.2.2).mono ?_; rintro e w5 ⟨rfl, hx⟩; have H5 := Aside0.mk hx; clear hx))
    | (go_at_call 8; (with_reducible refine (HC4 _ _).out.mono ?_); rintro e w4 ⟨rfl, hx⟩; have H4 := Aside0.mk hx; clear hx))
  exact bodyPost_ret (v := .bool true) (by simp [results, Tryd.results4, go_sem]) rfl ⟨rfl, below_step (below_step (below_step (below_step H1.out.1 H2.out) (below_step (below_alloc (Below.refl _ _) _) H3.out)) (below_step (below_alloc (Below.refl _ _) _) H4.out)) H5.out⟩
end Go.Proofs.YtlbijhlbllolhaaDoor.PT
