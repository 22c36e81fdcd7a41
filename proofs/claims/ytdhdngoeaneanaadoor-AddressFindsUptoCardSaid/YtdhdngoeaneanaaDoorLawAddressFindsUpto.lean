/-
  AddressFinds (where what comes in is of bulk at most 1048576): the row of the law, out of its pure statement and the printed walk.
  Conditions: bulk at most 1048576.
-/
import Derived.Test.YtdhdngoeaneanaaDoorRows
import Derived.Test.YtdhdngoeaneanaaDoorAJA
import Derived.Test.YtdhdngoeaneanaaDoorCards
import Derived.Test.YtdhdngoeaneanaaDoorTie
import Derived.Test.YtdhdngoeaneanaaDoorAJB
import Derived.WalkKit
import Derived.Lib.LaidTab
import Derived.ProofKit
import Derived.OpenShut
import Derived.ShutString
import Derived.ChangeOld
import Derived.Below
import Derived.SizedLaws
import Derived.Carry
import Derived.JoinedCond
import Derived.Deep.CondSized
import Derived.LaidMore
import Derived.Lay
import Derived.SevenTiedAt
import Derived.Stop.Joined
import Derived.Deep.DeepHandedRow
namespace Go.Proofs.YtdhdngoeaneanaaDoor.addressFindsUpto
open Go.ChangeShapes Go.WideShapes Go.ChangeAt Go.RowKit Go.Proofs.YtdhdngoeaneanaaDoorW.PrintWords Go.Proofs.YtdhdngoeaneanaaDoor.X Go.Proofs.YtdhdngoeaneanaaDoor.XO
open Go.ChangeMaps (open_string shut_string)
set_option linter.unusedVariables false
theorem own : ownKnob Tryd.prog.godebug = none := by kernel_rfl
theorem laidOut : laidOutB Tryd.prog = true := by kernel_rfl
theorem laid_tail {x : String × DataW Unit} {r : List (String × DataW Unit)} {W : World} (h : laidMet Tryd.prog (x :: r) W) : laidMet Tryd.prog r W := by
  obtain ⟨ps, ⟨g, t, cs, fuel, p, q, _, _, _, _, hr, rfl⟩, hn, hb⟩ := h
  exact ⟨q, hr, (List.nodup_append.1 hn).2.1, fun b off hm => hb b off (List.mem_append_right _ hm)⟩
theorem tab_of {W : World} (h : laidMetH Tryd.prog Rows.addressFindsUptoRow.laid W) : Go.Proofs.YtdhdngoeaneanaaDoor.PT.Tab W := by
  rw [MakeChecks.laidMetH_plain _ _ _ (by kernel_rfl)] at h
  exact Lib.tabIs_of_head (P := Tryd.prog) (W := W) (name := "internal/strconv.uint64pow10") (k := .u64) (zs := Lib.pow10Tab) (g := 1) (by kernel_rfl) (by kernel_rfl) Tryd.underlying141 Tryd.underlying107 (by kernel_rfl) (by kernel_rfl) (laid_tail (laid_tail h))
set_option maxRecDepth 100000 in
theorem contract (H : Type) (enc : TypeId × Value → H) (W : World) (base : Nat) (args : Array Value) (ds gs : List (DataW H)) (before : List MemPlace)
    (hval0 : ∀ (j : Nat) t v, Tryd.f5.params[j]? = some t → args[j]? = some v → Value.okWide Tryd.prog W .any base t v)
    (hW : DataW.Whole enc Tryd.prog Tryd.f5.params.toList Rows.addressFindsSpec.vars false W args.toList ds gs before) (hk0 : Rows.uptoSmall H (ds ++ gs) = true) (HTAB : Go.Proofs.YtdhdngoeaneanaaDoor.PT.Tab W)
    (hsz0 : (DataW.weightsEach Tryd.prog (Tryd.f5.params.toList ++ (Rows.OpenSpec.upto Rows.addressFindsSpec).bare.plain.varTypes Tryd.prog) (ds ++ gs)).all (· ≤ reachBytes) = true) :
    Calls Tryd.prog 5 args W fun e W' => ∃ v, e = .returned v ∧ Rows.addressFindsSpec.post enc Tryd.prog Tryd.f5 false true false false W args v W' := by
  have hsz : (DataW.weightsEach Tryd.prog (Tryd.f5.params.toList ++ (Rows.OpenSpec.upto Rows.addressFindsSpec).bare.plain.varTypes Tryd.prog) (ds ++ gs)).all (· ≤ reachBytes) = true := hsz0
  have hval : ∀ (j : Nat) t v, Tryd.f5.params[j]? = some t → args[j]? = some v → Value.okWide Tryd.prog W .any base t v := hval0
  have hW' := hW
  obtain ⟨p, q, hA0, hV, rfl, hfz, hnd⟩ := hW
  have hA : DataW.TrodAll enc Tryd.prog W 0 (fun _ => true) true Tryd.f5.params.toList args.toList ds p := hA0
  rw [Tryd.params5] at hA hval hsz
  obtain ⟨v0, vs0, d0, ds0, p0, q0, hargs, rfl, rfl, h0, r0⟩ := trodAll_cons hA
  obtain ⟨rfl, rfl, rfl⟩ := trodAll_nil r0
  obtain rfl : args = #[v0] := by cases args; simp_all
  obtain ⟨rfl, rfl⟩ := trodVars_none hV
  have hk : Rows.uptoBulkAll ([d0] ++ []) ≤ 1048576 := of_decide_eq_true hk0
  have k0 := h0
  have lt0 : ∀ x ∈ p0, x.block < W.heap.size := by obtain ⟨m, hm⟩ := k0; exact DataW.trod_lt m _ _ _ hm
  have wt0 := weightsEach_at (j := 0) (t := 39) (d := d0) rfl rfl hsz
  obtain ⟨fuel0, hf0⟩ := h0
  obtain ⟨x0, K0, o0, s0⟩ := (Opens.get opensJ hf0 wt0)
  obtain ⟨cs0, rfl, _⟩ := okWide_struct Tryd.underlying39 (hval 0 39 v0 rfl rfl)
  obtain ⟨A0, c0, A3, c3, A4, c4, e0, hl7, hc0, hr0, hc3, hr3, hc4, hr4⟩ := kJ_open K0
  obtain ⟨cs0⟩ := cs0
  obtain rfl := (show cs0 = _ from e0)
  replace s0 : szJ x0 ≤ Rows.uptoBulk d0 := s0
  simp only [List.cons_append, List.nil_append, Rows.uptoBulkAll] at hk
  refine (Go.Proofs.YtdhdngoeaneanaaDoor.WalkAddressFinds.walk x0 A0 c0 A3 c3 A4 c4 W hl7 hr0 hc0 hr3 hc3 hr4 hc4 o0 (by omega) HTAB).mono fun e W' ⟨he, bel⟩ => ?_
  subst he
  exact ⟨_, rfl, _, _, _, [], _, [], hW', trodAll_mk1 (shut_bool Tryd.underlying4 _), (trodAll_cons_mk (Below.trod laidOut (by kernel_rfl) (of_decide_eq_true (by kernel_rfl)) k0 bel lt0) trodAll_mk0), rfl, bel.frame _, fun h => by cases h⟩
def zJ : Value := .agg (([.slice none 0 0, .int .i64 0] ++ (List.replicate 27 (.int .i64 0) ++ [.slice none 0 0, .int .u8 0, .int .i64 0, .int .u8 0, .slice none 0 0, .int .i64 0, .bool false]) : List Value).toArray)
def dJ {H : Type} : DataW H := .agg [.nil, .lit (.int .i64 0), .agg [.agg (List.replicate 26 (.lit (.int .i64 0))), .lit (.int .i64 0)], .nil, .agg [.lit (.int .u8 0), .lit (.int .i64 0), .lit (.int .u8 0), .nil, .lit (.int .i64 0), .lit (.bool false)]]
theorem laid_met (os : Os) (args : Array Value) : laidMetH Tryd.prog Rows.addressFindsUptoRow.laid ((World.laidAll Tryd.prog os Rows.addressFindsUptoRow.laid).forCall (fun _ _ => 0) ⟨#[], args, []⟩).memory := by
  rw [MakeChecks.laidMetH_plain _ _ _ (by kernel_rfl)]
  exact laidMet_laidAll _ (by kernel_rfl) (by kernel_rfl)
set_option maxRecDepth 100000 in
theorem lifted (os : Os) (started : os.Started) (H : Type) (enc : TypeId × Value → H) (F : Stop.Interp) :
    ReturnsInHanded {} Tryd.checked os 5 .any ((Rows.OpenSpec.upto Rows.addressFindsSpec).preRow enc Tryd.prog Tryd.f5 Rows.addressFindsUptoRow.domain false Rows.addressFindsUptoRow.laid) (((Rows.OpenSpec.upto Rows.addressFindsSpec).at F).post enc Tryd.prog Tryd.f5 false true false false) := by
  have hok : Input.okWideB Tryd.prog ((World.laidAll Tryd.prog os Rows.addressFindsUptoRow.laid).forCall (fun _ _ => 0) ⟨#[], #[zJ], []⟩) 5 ⟨#[], #[zJ], []⟩ = true := by kernel_rfl
  have hx : DataW.whole enc Tryd.prog ((World.laidAll Tryd.prog os Rows.addressFindsUptoRow.laid).forCall (fun _ _ => 0) ⟨#[], #[zJ], []⟩).memory Tryd.f5.params.toList (Rows.OpenSpec.upto Rows.addressFindsSpec).vars false (#[zJ] : Array Value).toList 8 = some ([dJ], [], []) := by kernel_rfl
  refine returnsInHanded_of_row (C := Tryd.checked) (s := Rows.OpenSpec.upto Rows.addressFindsSpec) own started (by kernel_rfl) Tryd.func5
    ⟨World.laidAll Tryd.prog os Rows.addressFindsUptoRow.laid, fun _ _ => 0, ⟨#[], #[zJ], []⟩, World.laidAll_os _ _ _, World.shaped_of_ZipB (by kernel_rfl) (by kernel_rfl), (Input.okWide_of_okWideB (base := 0) hok).1, (Input.okWide_of_okWideB hok).2,
      OpenSpec.preRow_of_cond 8 hx (by kernel_rfl) (fun k hk => by cases hk; kernel_rfl) (by kernel_rfl) (laid_met os _), by
        simp only [Assume.holds]
        exact ⟨by simp, by simp, fun _ => Modest.zero, by simp, by simp⟩⟩ ?_
  intro W base args ds gs before hval0 hW _ hk0 hsz0 hlaid _ _
  exact contract H enc W base args ds gs before hval0 hW (hk0 _ rfl) (tab_of hlaid) hsz0
theorem proved : Rows.AddressFindsUptoSaid :=
  OpenClaim.holds_of_cond 5 Tryd.f5 rfl rfl rfl rfl rfl rfl rfl ⟨rfl, rfl, rfl, rfl, rfl⟩ rfl rfl rfl rfl rfl (by kernel_rfl) Tryd.func5 (by kernel_rfl)
    (of_decide_eq_true (by kernel_rfl)) (by unfold Func.isWrapper; first | (rw [if_pos (by decide +kernel)]; kernel_rfl) | (rw [if_neg (by decide +kernel)]; exact ⟨rfl, rfl⟩))
    (fun os started H enc _ F => by rw [OpenClaim.pre_eq_preRow]; exact lifted os started H enc F)
theorem plain (f : FuncId) (fn : Func) (hf : Tryd.pinned.checked.prog.funcNamed Rows.addressFindsUptoRow.func = some f) (hfn : Tryd.pinned.checked.prog.funcs[f]? = some fn) :
    true = Tryd.pinned.checked.prog.looks [] ∧ ∀ (j : Nat) t, fn.params[j]? = some t → Tryd.pinned.checked.prog.wantsStandIn t = false := by
  obtain rfl : f = 5 := Option.some.inj ((show Tryd.prog.funcNamed Rows.addressFindsUptoRow.func = some 5 by kernel_rfl).symm.trans hf) |>.symm
  obtain rfl : fn = Tryd.f5 := (Option.some.inj (Tryd.func5.symm.trans hfn)).symm
  refine ⟨by kernel_rfl, fun j t ht => ?_⟩
  rw [Tryd.params5] at ht
  have hm : t ∈ [39] := by simpa using Array.mem_of_getElem? ht
  have hall : ([39].all fun u => !Tryd.prog.wantsStandIn u) = true := by kernel_rfl
  exact (show Tryd.prog.wantsStandIn t = false by simpa using List.all_eq_true.1 hall t hm)
theorem card : Rows.AddressFindsUptoCardSaid :=
  Claim7.holds_tied_plain_at .later [] _ _ _ _ proved (fun _ h => by cases h) (by kernel_rfl) (fun _ h => by cases h) addressFindsUpto_row_tie rfl ⟨rfl, rfl⟩ (by kernel_rfl) rfl plain (by kernel_rfl)
#print axioms card
end Go.Proofs.YtdhdngoeaneanaaDoor.addressFindsUpto
namespace Go.Proofs.YtdhdngoeaneanaaDoor
/-- The card, under a short name, for the claim. -/
theorem addressFindsUpto_holds : Rows.AddressFindsUptoCardSaid := addressFindsUpto.card
end Go.Proofs.YtdhdngoeaneanaaDoor
