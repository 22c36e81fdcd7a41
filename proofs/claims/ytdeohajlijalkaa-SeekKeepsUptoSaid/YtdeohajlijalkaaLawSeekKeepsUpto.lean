/-
  SeekKeeps (where what comes in is of bulk at most 1048576): the row of the law, out of its pure statement and the printed walk.
  Conditions: bulk at most 1048576.
-/
import Derived.Test.YtdeohajlijalkaaRows
import Derived.Test.YtdeohajlijalkaaXS
import Derived.Test.YtdeohajlijalkaaWalkSeekKeeps
import Derived.WalkKit
import Derived.ProofKit
import Derived.OpenShut
import Derived.ShutString
import Derived.ChangeOld
import Derived.Below
import Derived.SizedLaws
import Derived.Carry
import Derived.JoinedCond
import Derived.Deep.CondSized
namespace Go.Proofs.Ytdeohajlijalkaa.seekKeepsUpto
open Go.ChangeShapes Go.WideShapes Go.ChangeAt Go.RowKit Go.Proofs.YtdeohajlijalkaaW.PrintWords Go.Proofs.Ytdeohajlijalkaa.X Go.Proofs.Ytdeohajlijalkaa.XO
open Go.ChangeMaps (open_string shut_string)
set_option linter.unusedVariables false
theorem own : ownKnob Try.prog.godebug = none := by kernel_rfl
theorem laidOut : laidOutB Try.prog = true := by kernel_rfl
set_option maxRecDepth 100000 in
theorem contract (H : Type) (enc : TypeId × Value → H) (W : World) (base : Nat) (args : Array Value) (ds gs : List (DataW H)) (before : List MemPlace)
    (hval0 : ∀ (j : Nat) t v, Try.f8.params[j]? = some t → args[j]? = some v → Value.okWide Try.prog W .any base t v)
    (hW : DataW.Whole enc Try.prog Try.f8.params.toList Rows.seekKeepsSpec.vars false W args.toList ds gs before) (hk0 : Rows.uptoSmall H (ds ++ gs) = true)
    (hsz0 : (DataW.weightsEach Try.prog (Try.f8.params.toList ++ (Rows.OpenSpec.upto Rows.seekKeepsSpec).bare.plain.varTypes Try.prog) (ds ++ gs)).all (· ≤ reachBytes) = true) :
    Calls Try.prog 8 args W fun e W' => ∃ v, e = .returned v ∧ Rows.seekKeepsSpec.post enc Try.prog Try.f8 false true false false W args v W' := by
  have hsz : (DataW.weightsEach Try.prog (Try.f8.params.toList ++ (Rows.OpenSpec.upto Rows.seekKeepsSpec).bare.plain.varTypes Try.prog) (ds ++ gs)).all (· ≤ reachBytes) = true := hsz0
  have hval : ∀ (j : Nat) t v, Try.f8.params[j]? = some t → args[j]? = some v → Value.okWide Try.prog W .any base t v := hval0
  have hW' := hW
  obtain ⟨p, q, hA0, hV, rfl, hfz, hnd⟩ := hW
  have hA : DataW.TrodAll enc Try.prog W 0 (fun _ => true) true Try.f8.params.toList args.toList ds p := hA0
  rw [Try.params8] at hA hval hsz
  obtain ⟨v0, vs0, d0, ds0, p0, q0, hargs, rfl, rfl, h0, r0⟩ := trodAll_cons hA
  obtain ⟨rfl, rfl, rfl⟩ := trodAll_nil r0
  obtain rfl : args = #[v0] := by cases args; simp_all
  obtain ⟨rfl, rfl⟩ := trodVars_none hV
  have hk : Rows.uptoBulkAll ([d0] ++ []) ≤ 1048576 := of_decide_eq_true hk0
  have k0 := h0
  have lt0 : ∀ x ∈ p0, x.block < W.heap.size := by obtain ⟨m, hm⟩ := k0; exact DataW.trod_lt m _ _ _ hm
  have wt0 := weightsEach_at (j := 0) (t := 26) (d := d0) rfl rfl hsz
  obtain ⟨fuel0, hf0⟩ := h0
  obtain ⟨x0, K0, o0, s0⟩ := (Opens.get opens26 hf0 wt0)
  obtain ⟨cs0, rfl, _⟩ := okWide_struct Try.underlying26 (hval 0 26 v0 rfl rfl)
  obtain ⟨A0_0, c0_0, e0, hc0_0, hr0_0⟩ := k26_open K0
  obtain ⟨cs0⟩ := cs0
  obtain rfl := (show cs0 = _ from e0)
  replace s0 : szS26 x0 ≤ Rows.uptoBulk d0 := s0
  simp only [List.cons_append, List.nil_append, Rows.uptoBulkAll] at hk
  refine (Go.Proofs.Ytdeohajlijalkaa.WalkSeekKeeps.walk x0 A0_0 c0_0 W hr0_0 hc0_0 o0 (by omega)).mono fun e W' ⟨he, bel⟩ => ?_
  subst he
  exact ⟨_, rfl, _, _, _, [], _, [], hW', trodAll_mk1 (shut_bool Try.underlying4 _), (trodAll_cons_mk (Below.trod laidOut (by kernel_rfl) (of_decide_eq_true (by kernel_rfl)) k0 bel lt0) trodAll_mk0), rfl, bel.frame _, fun h => by cases h⟩
set_option maxRecDepth 100000 in
theorem lifted (os : Os) (started : os.Started) (H : Type) (enc : TypeId × Value → H) (F : Stop.Interp) :
    ReturnsInHanded {} Try.checked os 8 .any ((Rows.OpenSpec.upto Rows.seekKeepsSpec).pre6 enc Try.prog Try.f8 Rows.seekKeepsUptoRow.domain false) (((Rows.OpenSpec.upto Rows.seekKeepsSpec).at F).post enc Try.prog Try.f8 false true false false) := by
  refine returnsInHanded_of_cond_sized (C := Try.checked) (s := Rows.OpenSpec.upto Rows.seekKeepsSpec) (k := Rows.uptoSmall) rfl own started (by kernel_rfl) Try.func8
    (OpenSpec.witness (enc := enc) (C := Try.checked) (s := Rows.OpenSpec.upto Rows.seekKeepsSpec) (k := Rows.uptoSmall) rfl false ⟨#[], #[.agg #[.slice none 0 0, .int .i64 0, .int .i64 0, .int .u8 0, .int .u8 0, .bool false]], []⟩ 8 (by kernel_rfl) (by kernel_rfl) (by kernel_rfl)
      (x := ([.agg [.nil, .lit (.int .i64 0), .lit (.int .i64 0), .agg [.lit (.int .u8 0), .lit (.int .u8 0)], .lit (.bool false)]], [], [])) (by kernel_rfl) rfl (by kernel_rfl)) ?_
  intro W base args ds gs before hval0 hW _ hk0 hsz0 _
  exact contract H enc W base args ds gs before hval0 hW hk0 hsz0
theorem proved : Rows.SeekKeepsUptoSaid :=
  OpenClaim.holds_of_cond 8 Try.f8 rfl rfl rfl rfl rfl rfl rfl ⟨rfl, rfl, rfl, rfl, rfl⟩ rfl rfl rfl rfl rfl (by kernel_rfl) Try.func8 (by kernel_rfl)
    (of_decide_eq_true (by kernel_rfl)) (by unfold Func.isWrapper; first | (rw [if_pos (by decide +kernel)]; kernel_rfl) | (rw [if_neg (by decide +kernel)]; exact ⟨rfl, rfl⟩))
    (fun os started H enc _ F => lifted os started H enc F)
#print axioms proved
end Go.Proofs.Ytdeohajlijalkaa.seekKeepsUpto
namespace Go.Proofs.Ytdeohajlijalkaa
/-- The row, under a short name, for the claim. -/
theorem seekKeepsUpto_holds : Rows.SeekKeepsUptoSaid := seekKeepsUpto.proved
end Go.Proofs.Ytdeohajlijalkaa
