/-
  ObjectSelects (where what comes in is of bulk at most 1048576): the row of the law, out of the walk.
  Conditions: bulk at most 1048576.
-/
import Derived.Test.YtcochbkdgjgaeaaDoorRows
import Derived.Test.YtcochbkdgjgaeaaDoorCards
import Derived.Test.YtcochbkdgjgaeaaDoorTie
import Derived.Test.YtcochbkdgjgaeaaDoorSAC
import Derived.Test.YtcochbkdgjgaeaaDoorXT
import Derived.WalkKit
import Derived.ProofKit
import Derived.OpenShut
import Derived.ShutString
import Derived.ChangeOld
import Derived.Below
import Derived.SizedLaws
import Derived.Carry
import Derived.JoinedCond
import Derived.Deep.CondSized
import Derived.LaidMore
import Derived.Lay
import Derived.SevenTiedAt
import Derived.Stop.Joined
import Derived.Deep.DeepHandedRow
namespace Go.Proofs.YtcochbkdgjgaeaaDoor.objectSelectsUpto
open Go.ChangeShapes Go.WideShapes Go.ChangeAt Go.RowKit Go.Proofs.YtcochbkdgjgaeaaDoorW.PrintWords Go.Proofs.YtcochbkdgjgaeaaDoor.X Go.Proofs.YtcochbkdgjgaeaaDoor.XO
open Go.ChangeMaps (open_string shut_string)
set_option linter.unusedVariables false
theorem own : ownKnob Tryd.prog.godebug = none := by kernel_rfl
theorem laidOut : laidOutB Tryd.prog = true := by kernel_rfl
theorem walk (A0 : Option Addr) (c0 : Nat) (l0 : List Int) (A1 : Option Addr) (c1 : Nat) (l1 : List (S27)) (w : World) (hr0 : Kd.C (Kd.int .u8) w A0 l0.length l0) (hc0 : l0.length ≤ c0) (hr1 : Kd.C k27 w A1 l1.length l1) (hc1 : l1.length ≤ c1) (o0 : (okSl 1 okU8) l0) (o1 : (okSl 32 okS27) l1) (hb : ((szSl szOne) l0 + (szSl szS27) l1 ≤ 1048576)) :
    Calls Tryd.prog 3 #[.slice A0 l0.length c0, .slice A1 l1.length c1] w fun e w' => e = .returned (.bool true) ∧ Below w.heap.size w w' := Go.Proofs.YtcochbkdgjgaeaaDoor.WalkObjectSelects.walk A0 c0 l0 A1 c1 l1 w hr0 hc0 hr1 hc1 o0 o1 hb
set_option maxRecDepth 100000 in
theorem contract (H : Type) (enc : TypeId × Value → H) (W : World) (base : Nat) (args : Array Value) (ds gs : List (DataW H)) (before : List MemPlace)
    (hval0 : ∀ (j : Nat) t v, Tryd.f3.params[j]? = some t → args[j]? = some v → Value.okWide Tryd.prog W .any base t v)
    (hW : DataW.Whole enc Tryd.prog Tryd.f3.params.toList Rows.objectSelectsSpec.vars false W args.toList ds gs before) (hk0 : Rows.uptoSmall H (ds ++ gs) = true)
    (hsz0 : (DataW.weightsEach Tryd.prog (Tryd.f3.params.toList ++ (Rows.OpenSpec.upto Rows.objectSelectsSpec).bare.plain.varTypes Tryd.prog) (ds ++ gs)).all (· ≤ reachBytes) = true) :
    Calls Tryd.prog 3 args W fun e W' => ∃ v, e = .returned v ∧ Rows.objectSelectsSpec.post enc Tryd.prog Tryd.f3 false true false false W args v W' := by
  have hsz : (DataW.weightsEach Tryd.prog (Tryd.f3.params.toList ++ (Rows.OpenSpec.upto Rows.objectSelectsSpec).bare.plain.varTypes Tryd.prog) (ds ++ gs)).all (· ≤ reachBytes) = true := hsz0
  have hval : ∀ (j : Nat) t v, Tryd.f3.params[j]? = some t → args[j]? = some v → Value.okWide Tryd.prog W .any base t v := hval0
  have hW' := hW
  obtain ⟨p, q, hA0, hV, rfl, hfz, hnd⟩ := hW
  have hA : DataW.TrodAll enc Tryd.prog W 0 (fun _ => true) true Tryd.f3.params.toList args.toList ds p := hA0
  rw [Tryd.params3] at hA hval hsz
  obtain ⟨v0, vs0, d0, ds0, p0, q0, hargs, rfl, rfl, h0, r0⟩ := trodAll_cons hA
  obtain ⟨v1, vs1, d1, ds1, p1, q1, rfl, rfl, rfl, h1, r1⟩ := trodAll_cons r0
  obtain ⟨rfl, rfl, rfl⟩ := trodAll_nil r1
  obtain rfl : args = #[v0, v1] := by cases args; simp_all
  obtain ⟨rfl, rfl⟩ := trodVars_none hV
  have hk : Rows.uptoBulkAll ([d0, d1] ++ []) ≤ 1048576 := of_decide_eq_true hk0
  have k0 := h0
  have lt0 : ∀ x ∈ p0, x.block < W.heap.size := by obtain ⟨m, hm⟩ := k0; exact DataW.trod_lt m _ _ _ hm
  have wt0 := weightsEach_at (j := 0) (t := 22) (d := d0) rfl rfl hsz
  obtain ⟨fuel0, hf0⟩ := h0
  obtain ⟨l0, K0, o0, s0⟩ := (Opens.get (opens_sl (B := 1) Tryd.underlying22 (opens_u8 Tryd.underlying5) (by kernel_rfl) (by kernel_rfl)) hf0 wt0)
  obtain ⟨A0, n0, c0, rfl⟩ := okWide_slice Tryd.underlying22 (hval 0 22 v0 rfl rfl)
  obtain ⟨A'0, c'0, e0, hc0, hr0⟩ := K0
  obtain ⟨rfl, rfl, rfl⟩ : A0 = A'0 ∧ n0 = l0.length ∧ c0 = c'0 := by simpa [Value.cells] using e0
  replace s0 : (szSl szOne) l0 ≤ Rows.uptoBulk d0 := s0
  have k1 := h1
  have lt1 : ∀ x ∈ p1, x.block < W.heap.size := by obtain ⟨m, hm⟩ := k1; exact DataW.trod_lt m _ _ _ hm
  have wt1 := weightsEach_at (j := 1) (t := 23) (d := d1) rfl rfl hsz
  obtain ⟨fuel1, hf1⟩ := h1
  obtain ⟨l1, K1, o1, s1⟩ := (Opens.get (opens_sl (B := 32) Tryd.underlying23 opens27 (by kernel_rfl) (by kernel_rfl)) hf1 wt1)
  obtain ⟨A1, n1, c1, rfl⟩ := okWide_slice Tryd.underlying23 (hval 1 23 v1 rfl rfl)
  obtain ⟨A'1, c'1, e1, hc1, hr1⟩ := K1
  obtain ⟨rfl, rfl, rfl⟩ : A1 = A'1 ∧ n1 = l1.length ∧ c1 = c'1 := by simpa [Value.cells] using e1
  replace s1 : (szSl szS27) l1 ≤ Rows.uptoBulk d1 := s1
  simp only [List.cons_append, List.nil_append, Rows.uptoBulkAll] at hk
  refine (walk A0 c0 l0 A1 c1 l1 W hr0 hc0 hr1 hc1 o0 o1 (by omega)).mono fun e W' ⟨he, bel⟩ => ?_
  subst he
  exact ⟨_, rfl, _, _, _, [], _, [], hW', trodAll_mk1 (shut_bool Tryd.underlying4 _), (trodAll_cons_mk (Below.trod laidOut (by kernel_rfl) (of_decide_eq_true (by kernel_rfl)) k0 bel lt0) (trodAll_cons_mk (Below.trod laidOut (by kernel_rfl) (of_decide_eq_true (by kernel_rfl)) k1 bel lt1) trodAll_mk0)), rfl, bel.frame _, fun h => by cases h⟩
theorem laid_met (os : Os) (args : Array Value) : laidMetH Tryd.prog Rows.objectSelectsUptoRow.laid ((World.laidAll Tryd.prog os Rows.objectSelectsUptoRow.laid).forCall (fun _ _ => 0) ⟨#[], args, []⟩).memory := by
  rw [MakeChecks.laidMetH_plain _ _ _ (by kernel_rfl)]
  exact laidMet_laidAll _ (by kernel_rfl) (by kernel_rfl)
set_option maxRecDepth 100000 in
theorem lifted (os : Os) (started : os.Started) (H : Type) (enc : TypeId × Value → H) (F : Stop.Interp) :
    ReturnsInHanded {} Tryd.checked os 3 .any ((Rows.OpenSpec.upto Rows.objectSelectsSpec).preRow enc Tryd.prog Tryd.f3 Rows.objectSelectsUptoRow.domain false Rows.objectSelectsUptoRow.laid) (((Rows.OpenSpec.upto Rows.objectSelectsSpec).at F).post enc Tryd.prog Tryd.f3 false true false false) := by
  have hok : Input.okWideB Tryd.prog ((World.laidAll Tryd.prog os Rows.objectSelectsUptoRow.laid).forCall (fun _ _ => 0) ⟨#[], #[.slice none 0 0, .slice none 0 0], []⟩) 3 ⟨#[], #[.slice none 0 0, .slice none 0 0], []⟩ = true := by kernel_rfl
  have hx : DataW.whole enc Tryd.prog ((World.laidAll Tryd.prog os Rows.objectSelectsUptoRow.laid).forCall (fun _ _ => 0) ⟨#[], #[.slice none 0 0, .slice none 0 0], []⟩).memory Tryd.f3.params.toList (Rows.OpenSpec.upto Rows.objectSelectsSpec).vars false (#[.slice none 0 0, .slice none 0 0] : Array Value).toList 8 = some ([.nil, .nil], [], []) := by kernel_rfl
  refine returnsInHanded_of_row (C := Tryd.checked) (s := Rows.OpenSpec.upto Rows.objectSelectsSpec) own started (by kernel_rfl) Tryd.func3
    ⟨World.laidAll Tryd.prog os Rows.objectSelectsUptoRow.laid, fun _ _ => 0, ⟨#[], #[.slice none 0 0, .slice none 0 0], []⟩, World.laidAll_os _ _ _, World.shaped_of_ZipB (by kernel_rfl) (by kernel_rfl), (Input.okWide_of_okWideB (base := 0) hok).1, (Input.okWide_of_okWideB hok).2,
      OpenSpec.preRow_of_cond 8 hx (by kernel_rfl) (fun k hk => by cases hk; kernel_rfl) (by kernel_rfl) (laid_met os _), by
        simp only [Assume.holds]
        exact ⟨by simp, by simp, fun _ => Modest.zero, by simp, by simp⟩⟩ ?_
  intro W base args ds gs before hval0 hW _ hk0 hsz0 _ _ _
  exact contract H enc W base args ds gs before hval0 hW (hk0 _ rfl) hsz0
theorem proved : Rows.ObjectSelectsUptoSaid :=
  OpenClaim.holds_of_cond 3 Tryd.f3 rfl rfl rfl rfl rfl rfl rfl ⟨rfl, rfl, rfl, rfl, rfl⟩ rfl rfl rfl rfl rfl (by kernel_rfl) Tryd.func3 (by kernel_rfl)
    (of_decide_eq_true (by kernel_rfl)) (by unfold Func.isWrapper; first | (rw [if_pos (by decide +kernel)]; kernel_rfl) | (rw [if_neg (by decide +kernel)]; exact ⟨rfl, rfl⟩))
    (fun os started H enc _ F => by rw [OpenClaim.pre_eq_preRow]; exact lifted os started H enc F)
theorem plain (f : FuncId) (fn : Func) (hf : Tryd.pinned.checked.prog.funcNamed Rows.objectSelectsUptoRow.func = some f) (hfn : Tryd.pinned.checked.prog.funcs[f]? = some fn) :
    false = Tryd.pinned.checked.prog.looks [] ∧ ∀ (j : Nat) t, fn.params[j]? = some t → Tryd.pinned.checked.prog.wantsStandIn t = false := by
  obtain rfl : f = 3 := Option.some.inj ((show Tryd.prog.funcNamed Rows.objectSelectsUptoRow.func = some 3 by kernel_rfl).symm.trans hf) |>.symm
  obtain rfl : fn = Tryd.f3 := (Option.some.inj (Tryd.func3.symm.trans hfn)).symm
  refine ⟨by kernel_rfl, fun j t ht => ?_⟩
  rw [Tryd.params3] at ht
  have hm : t ∈ [22, 23] := by simpa using Array.mem_of_getElem? ht
  have hall : ([22, 23].all fun u => !Tryd.prog.wantsStandIn u) = true := by kernel_rfl
  exact (show Tryd.prog.wantsStandIn t = false by simpa using List.all_eq_true.1 hall t hm)
theorem card : Rows.ObjectSelectsUptoCardSaid :=
  Claim7.holds_tied_plain_at .later [] _ _ _ _ proved (fun _ h => by cases h) (by kernel_rfl) (fun _ h => by cases h) objectSelectsUpto_row_tie rfl ⟨rfl, rfl⟩ (by kernel_rfl) rfl plain (by kernel_rfl)
#print axioms card
end Go.Proofs.YtcochbkdgjgaeaaDoor.objectSelectsUpto
namespace Go.Proofs.YtcochbkdgjgaeaaDoor
/-- The card, under a short name, for the claim. -/
theorem objectSelectsUpto_holds : Rows.ObjectSelectsUptoCardSaid := objectSelectsUpto.card
end Go.Proofs.YtcochbkdgjgaeaaDoor
