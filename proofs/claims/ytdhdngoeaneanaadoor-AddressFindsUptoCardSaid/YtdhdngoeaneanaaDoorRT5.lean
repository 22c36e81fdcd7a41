/-
  The reference of patterns, by hand: Compile; strings.
-/
import Derived.Test.YtdhdngoeaneanaaDoorRT4
import Derived.Test.YtdhdngoeaneanaaDoorXO
namespace Go.Proofs.YtdhdngoeaneanaaDoor.PT
open Go.RowKit Go.Proofs.YtdhdngoeaneanaaDoorW.PrintWords Go.Proofs.YtdhdngoeaneanaaDoorW.PrintMore Go.Proofs.YtdhdngoeaneanaaDoor.XO
set_option linter.unusedVariables false
theorem compileV_or (p : List Int) : (∃ pl, compileV p = (some pl, 0, 0)) ∨ ∃ a e, compileV p = (none, a, e) ∧ (e = 1 ∨ e = 110) := by
  unfold compileV
  split
  · exact .inr ⟨_, _, rfl, .inl rfl⟩
  · split
    · exact .inr ⟨_, _, rfl, .inr rfl⟩
    · exact .inl ⟨_, rfl⟩
set_option maxHeartbeats 2000000 in
set_option maxRecDepth 100000 in
theorem rcompile_calls {w : World} {A : Option Addr} {c : Nat} {p : List Int} (hr : Kd.C (Kd.int .u8) w A p.length p) (hu : ∀ i, 0 ≤ rd p i ∧ rd p i ≤ 255) :
    Calls Tryd.prog 33 #[.slice A p.length c] w fun e w' => e = .returned (.tuple #[.int .i64 (compileV p).2.1, .int .i64 (compileV p).2.2]) ∧ Below w.heap.size w w' := by
  have HT := Aside0.mk (rthings_calls (c := c) hr hu)
  clear hr hu
  generalize compileV p = r at HT ⊢
  obtain ⟨r1, r2, r3⟩ := r
  simp only at HT ⊢
  go_enter Tryd.func33, Tryd.ntmps33
  go_wp2_with (go_at_call 53; refine HT.out.mono ?_; rintro e w' ⟨v, l, rfl, hx, _, _⟩; have H1 := Aside0.mk hx.1; clear hx)
  exact bodyPost_ret (v := .tuple #[.int .i64 r2, .int .i64 r3]) (by simp [results, Tryd.results33, go_sem]) rfl ⟨rfl, H1.out⟩
end Go.Proofs.YtdhdngoeaneanaaDoor.PT
