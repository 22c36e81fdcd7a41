/-
  StepRows: the row of the law, out of its pure statement and the printed walk.
  Conditions: none.
-/
import Derived.Test.YtofkcdnkbjpmmaaBRows1
import Derived.Test.YtofkcdnkbjpmmaaBRows8
import Derived.Test.YtofkcdnkbjpmmaaBRows7
import Derived.Test.YtofkcdnkbjpmmaaRows
import Derived.WalkKit
import Derived.ProofKit
import Derived.OpenShut
import Derived.ShutString
import Derived.ChangeOld
import Derived.Below
import Derived.SizedLaws
import Derived.Carry
import Derived.JoinedCond
import Derived.Deep.CondSized
section
namespace Go.Proofs.Ytofkcdnkbjpmmaa.Say
open Go.RowKit Go.Proofs.YtofkcdnkbjpmmaaW.PrintWords Go.Proofs.Ytofkcdnkbjpmmaa.X Go.Proofs.Ytofkcdnkbjpmmaa.XO
def StepRows : Prop := ∀ (l0 : List Int) (x1 : S27), (okSl 1 okU8) l0 → okS27 x1 → ∃ k, quoinlaw07_StepRows.f k l0 x1.f0 x1.f1 x1.f2 x1.f3 = some true
end Go.Proofs.Ytofkcdnkbjpmmaa.Say
end
section
namespace Go.Proofs.Ytofkcdnkbjpmmaa.Pure
open Go.RowKit Go.Proofs.YtofkcdnkbjpmmaaW.PrintWords Go.Proofs.YtofkcdnkbjpmmaaW.PrintMore Go.Proofs.Ytofkcdnkbjpmmaa.X Go.Proofs.Ytofkcdnkbjpmmaa.XL Go.Proofs.Ytofkcdnkbjpmmaa.XO Go.Proofs.Ytofkcdnkbjpmmaa.LN Go.Proofs.Ytofkcdnkbjpmmaa.MV
section
variable {t : List Int}
theorem moveV_of {p n : Nat} {w : Int} {key : ByteArray} (hp : p ≤ t.length) (hw : ¬ w < -1) (h1 : 1 ≤ n) (hn : n ≤ 9999) : moveV t (p : Int) w (n : Int) key = moveN t p w n true key := by
  unfold moveV
  rw [if_pos ⟨⟨by omega, by omega⟩, hw, by omega, by omega⟩, decide_eq_true (by omega), Int.toNat_natCast, show (max (n : Int) 1).toNat = n from by omega]
def line5 (t : List Int) (p want to_ : Int) : R5 := if to_ < 0 ∨ to_ > cnt 10 t then (0, 0, 0, 0, 70) else (p, (atR t to_ want).1, 3, want, 0)
def first5 (t : List Int) (p to_ : Int) : R5 := if to_ < 0 ∨ to_ > cnt 10 t then (0, 0, 0, 0, 70) else (p, (firstR t to_).1, 3, (colR t (firstR t to_).1).1, 0)
theorem five_line (p want to_ : Int) (jk : Bool) : (lineV t p want to_ jk).2.2.2.2.2 = true ∧ five (lineV t p want to_ jk) = if jk = true then line5 t p want to_ else first5 t p to_ := by
  unfold lineV line5 first5
  by_cases h : to_ < 0 ∨ to_ > cnt 10 t
  · rw [if_pos h, if_pos h, if_pos h]; cases jk <;> exact ⟨rfl, rfl⟩
  · rw [if_neg h, if_neg h, if_neg h]; cases jk <;> exact ⟨rfl, rfl⟩
theorem moveN_line {p n : Nat} {want to_ : Int} {g0 jk : Bool} {key : ByteArray} (hb : bytesV t p n (cnt 10 (t.take p)) key = (0, 0, 0, 0, 0, false)) (hlv : linesV t p want n g0 (cnt 10 (t.take p)) key = lineV t p want to_ jk) : moveN t p want n g0 key = if jk = true then line5 t p want to_ else first5 t p to_ := by
  unfold moveN
  rw [hb, if_neg (by decide), hlv, if_pos (five_line _ _ _ _).1, (five_line _ _ _ _).2]
theorem moveN_j (p n : Nat) (w : Int) : moveN t p w n true ⟨#[106]⟩ = line5 t p w (cnt 10 (t.take p) + n) :=
  (moveN_line (jk := true) (by simp [bytesV]) (by simp [linesV])).trans (if_pos rfl)
theorem moveN_k (p n : Nat) (w : Int) : moveN t p w n true ⟨#[107]⟩ = line5 t p w (cnt 10 (t.take p) - n) :=
  (moveN_line (jk := true) (by simp [bytesV]) (by simp [linesV])).trans (if_pos rfl)
theorem moveN_G (p n : Nat) (w : Int) : moveN t p w n true ⟨#[71]⟩ = first5 t p ((n : Int) - 1) :=
  (moveN_line (jk := false) (by simp [bytesV]) (by simp [linesV])).trans (if_neg (by decide))
theorem moveN_gg (p n : Nat) (w : Int) : moveN t p w n true ⟨#[103, 103]⟩ = first5 t p ((n : Int) - 1) :=
  (moveN_line (jk := false) (by simp [bytesV]) (by simp [linesV])).trans (if_neg (by decide))
theorem place_ok (a : Int) (ha : okI64 a) (b : Int) (hb : 0 < b) : ∃ m, quoinlaw07_place.f a b = some m ∧ 0 ≤ m ∧ m < b := by
  unfold quoinlaw07_place.f
  by_cases h : a < 0
  · rw [if_pos h, if_neg (by omega)]
    have e1 : wrap64 (a + 1) = a + 1 := wrap64_id (by have := ha.1; omega) (by omega)
    have e2 : wrap64 (-(a + 1)) = -(a + 1) := wrap64_id (by omega) (by have := ha.1; omega)
    rw [e1, e2]
    refine ⟨_, rfl, ?_, ?_⟩
    · exact Int.tmod_nonneg _ (by omega)
    · exact Int.tmod_lt_of_pos _ hb
  · rw [if_neg h, if_neg (by omega)]
    exact ⟨_, rfl, Int.tmod_nonneg _ (by omega), Int.tmod_lt_of_pos _ hb⟩
end
section
variable {t : List Int} (hu : u8s t = true) (hl : t.length ≤ 140737488355328)
include hu hl
theorem Rows_j1 {p n : Nat} {want : Int} (hp : p ≤ t.length) (hw : -1 ≤ want) (hwi : want ≤ 9223372036854775807) (h1 : 1 ≤ n) (hn : n ≤ 9999) : Ev (fun k => quoinlaw07_StepRows.j1 k t want (n : Int) (p : Int) (cnt 10 t)) true := by
  have hcl := cnt_le 10 t
  have hcn := cnt_nonneg 10 t
  have wl : wrap64 ((t.length : Int) + 1) = (t.length : Int) + 1 := wrap64_id (by omega) (by omega)
  have wc : wrap64 (cnt 10 t + 1) = cnt 10 t + 1 := wrap64_id (by omega) (by omega)
  have wn : wrap64 ((n : Int) - 1) = (n : Int) - 1 := wrap64_id (by omega) (by omega)
  obtain ⟨q, q1, q2, q3⟩ := place_ok want ⟨by omega, hwi⟩ ((t.length : Int) + 1) (by omega)
  obtain ⟨q, rfl⟩ := Int.eq_ofNat_of_zero_le q2
  have m1 := move_ev hu hl (p : Int) want (n : Int) ⟨#[71]⟩
  have m2 := move_ev hu hl (q : Int) 0 (n : Int) ⟨#[103, 103]⟩
  rw [moveV_of hp (by omega) h1 hn, moveN_G] at m1
  rw [moveV_of (by omega) (by omega) h1 hn, moveN_gg] at m2
  have m3 := First_ev hu hl ((n : Int) - 1) (by omega)
  refine Ev.step (fun _ => quoinlaw07_StepRows.j1.eq_2 ..) (Ev.bind m1 ?_)
  rw [wl, wc, wn]
  clear wl wc wn
  refine Ev.cbind q1 (Ev.bind m2 ?_)
  by_cases hb : (n : Int) - 1 > cnt 10 t
  · rw [show first5 t (p : Int) ((n : Int) - 1) = (0, 0, 0, 0, 70) from if_pos (.inr hb), show first5 t (q : Int) ((n : Int) - 1) = (0, 0, 0, 0, 70) from if_pos (.inr hb), decide_eq_false (show ¬ (n : Int) ≤ cnt 10 t + 1 by omega)]
    exact Ev.neg (by decide) (Ev.pos rfl (Ev.bind m3 (Ev.neg (by decide) (Ev.const rfl))))
  · have hb2 : ¬ ((n : Int) - 1 < 0 ∨ (n : Int) - 1 > cnt 10 t) := by omega
    rw [show first5 t (p : Int) ((n : Int) - 1) = _ from if_neg hb2, show first5 t (q : Int) ((n : Int) - 1) = _ from if_neg hb2, decide_eq_true (show (n : Int) ≤ cnt 10 t + 1 by omega)]
    exact Ev.neg (by simp) (Ev.pos rfl (Ev.bind m3 (Ev.pos rfl (Ev.pos rfl (Ev.const (by simp))))))
theorem Rows_j0 {p n : Nat} {want : Int} (hp : p ≤ t.length) (hw : -1 ≤ want) (hwi : want ≤ 9223372036854775807) (h1 : 1 ≤ n) (hn : n ≤ 9999) : Ev (fun k => quoinlaw07_StepRows.j0 k t want (n : Int) (p : Int) (cnt 10 (t.take p)) 0 (cnt 10 t) (atR t (cnt 10 (t.take p)) want).1 0 false) true := by
  have hcl := cnt_le 10 t
  have hc2 := cnt_mono (t := t) hp (Nat.le_refl _)
  rw [List.take_length] at hc2
  have hcn := cnt_nonneg 10 (t.take p)
  have wl : wrap64 (cnt 10 (t.take p) + (n : Int)) = cnt 10 (t.take p) + (n : Int) := wrap64_id (by omega) (by omega)
  have m1 := move_ev hu hl (p : Int) want (n : Int) ⟨#[106]⟩
  rw [moveV_of hp (by omega) h1 hn, moveN_j] at m1
  have go := Rows_j1 hu hl hp hw hwi h1 hn
  refine Ev.step (fun _ => quoinlaw07_StepRows.j0.eq_2 ..) (Ev.neg Bool.false_ne_true (Ev.bind m1 ?_))
  rw [wl]
  clear wl
  by_cases hb : cnt 10 (t.take p) + (n : Int) > cnt 10 t
  · rw [show line5 t (p : Int) want (cnt 10 (t.take p) + (n : Int)) = (0, 0, 0, 0, 70) from if_pos (.inr hb), decide_eq_false (show ¬ cnt 10 (t.take p) + (n : Int) ≤ cnt 10 t by omega)]
    exact Ev.neg (by decide) (Ev.neg (by decide) go)
  · have hb2 : ¬ (cnt 10 (t.take p) + (n : Int) < 0 ∨ cnt 10 (t.take p) + (n : Int) > cnt 10 t) := by omega
    rw [show line5 t (p : Int) want (cnt 10 (t.take p) + (n : Int)) = _ from if_neg hb2, decide_eq_true (show cnt 10 (t.take p) + (n : Int) ≤ cnt 10 t by omega)]
    obtain ⟨q, hq, hq1, hq2, _⟩ := at_there (t := t) (l := cnt 10 (t.take p) + (n : Int)) (c := want) (by omega) (by omega) hw
    have m2 := move_ev hu hl (q : Int) want (n : Int) ⟨#[107]⟩
    rw [moveV_of hq1 (by omega) h1 hn, moveN_k, hq2, show cnt 10 (t.take p) + (n : Int) - (n : Int) = cnt 10 (t.take p) from by omega, show line5 t (q : Int) want (cnt 10 (t.take p)) = _ from if_neg (by omega)] at m2
    rw [hq]
    exact Ev.neg (by simp) (Ev.pos rfl (Ev.bind m2 (Ev.pos rfl (Ev.pos rfl go))))
end
theorem StepRows : Say.StepRows := by
  rintro t ⟨a, w, c, key⟩ ht ⟨ha, hw, hc, _⟩
  have hu : u8s t = true := u8s_ok ht
  have hl : t.length ≤ 140737488355328 := by have h1 : t.length * 1 ≤ 140737488351232 := ht.1; omega
  refine Ev.rounds (g := fun k => quoinlaw07_StepRows.f k t a w c key) ?_
  have hcl := cnt_le 10 t
  have hcn := cnt_nonneg 10 t
  have wl : wrap64 ((t.length : Int) + 1) = (t.length : Int) + 1 := wrap64_id (by omega) (by omega)
  have wc : wrap64 (cnt 10 t + 1 - 1) = cnt 10 t := by rw [Int.add_sub_cancel]; exact wrap64_id (by omega) (by omega)
  have wc2 : wrap64 (cnt 10 t + 2) = cnt 10 t + 2 := wrap64_id (by omega) (by omega)
  obtain ⟨v, v1, v2, v3⟩ := place_ok a ha ((t.length : Int) + 1) (by omega)
  obtain ⟨p, rfl⟩ := Int.eq_ofNat_of_zero_le v2
  have hp : p ≤ t.length := by omega
  obtain ⟨m, m1, m2, m3⟩ := place_ok c hc (cnt 10 t + 2) (by omega)
  obtain ⟨n, hn⟩ : ∃ n : Nat, m + 1 = (n : Int) := ⟨(m + 1).toNat, by omega⟩
  have wn : wrap64 (m + 1) = (n : Int) := by rw [wrap64_id (by omega) (by omega)]; exact hn
  have hc2 := cnt_mono (t := t) hp (Nat.le_refl _)
  rw [List.take_length] at hc2
  have hcp := cnt_nonneg 10 (t.take p)
  have hw0 : okI64 w := hw
  have hw2 : -1 ≤ mx w (-1) ∧ mx w (-1) ≤ 9223372036854775807 := by rw [mx_eq]; have := hw0.2; omega
  have hat : (atR t (cnt 10 (t.take p)) (mx w (-1))).2 = 0 := by
    obtain ⟨s, h2, h3, e, h4⟩ := startR_ex (t := t) hcp hc2
    unfold atR
    rw [e, if_pos rfl, if_neg (by omega)]
  refine Ev.bind awake_ev (Ev.pos rfl ?_)
  rw [wl]
  refine Ev.cbind v1 (Ev.cbind (Of_eq hu (p : Int)) (Ev.cbind (Count_eq hu hl) ?_))
  rw [wc, wc2]
  refine Ev.cbind m1 ?_
  rw [if_pos (show 0 ≤ (p : Int) ∧ (p : Int) ≤ t.length from ⟨by omega, by omega⟩), Int.toNat_natCast, wn]
  refine Ev.bind (At_ev hu hl _ _ (by omega)) (Ev.pos rfl (Ev.pos hat ?_))
  rw [hat]
  clear wl wc wc2 wn
  by_cases h9 : (n : Int) > 9999
  · rw [decide_eq_true h9]
    exact Ev.step (fun _ => quoinlaw07_StepRows.j0.eq_2 ..) (Ev.pos rfl (Ev.pos rfl (Ev.const rfl)))
  · rw [decide_eq_false h9]
    exact Rows_j0 hu hl hp hw2.1 hw2.2 (by omega) (by omega)
end Go.Proofs.Ytofkcdnkbjpmmaa.Pure
end
section
namespace Go.Proofs.Ytofkcdnkbjpmmaa.stepRows
open Go.ChangeShapes Go.WideShapes Go.ChangeAt Go.RowKit Go.Proofs.YtofkcdnkbjpmmaaW.PrintWords Go.Proofs.Ytofkcdnkbjpmmaa.X Go.Proofs.Ytofkcdnkbjpmmaa.XO
open Go.ChangeMaps (open_string shut_string)
set_option linter.unusedVariables false
theorem own : ownKnob Try.prog.godebug = none := by kernel_rfl
theorem laidOut : laidOutB Try.prog = true := by kernel_rfl
theorem walk (A0 : Option Addr) (c0 : Nat) (l0 : List Int) (x1 : S27) (w : World) (hr0 : Kd.C (Kd.int .u8) w A0 l0.length l0) (hc0 : l0.length ≤ c0) (o0 : (okSl 1 okU8) l0) (o1 : okS27 x1) :
    Calls Try.prog 4 #[.slice A0 l0.length c0, .agg #[.int .i64 x1.f0, .int .i64 x1.f1, .int .i64 x1.f2, .string x1.f3]] w fun e w' => e = .returned (.bool true) ∧ Below w.heap.size w w' := by
  obtain ⟨k, h⟩ := Go.Proofs.Ytofkcdnkbjpmmaa.Pure.StepRows l0 x1 o0 o1
  refine (quoinlaw07_StepRows.calls k A0 c0 l0 x1.f0 x1.f1 x1.f2 x1.f3 true w hr0 hc0 h).mono ?_
  rintro e w' ⟨rfl, hd⟩
  exact ⟨rfl, hd⟩
theorem contract (H : Type) (enc : TypeId × Value → H) (W : World) (base : Nat) (args : Array Value) (ds gs : List (DataW H)) (before : List MemPlace)
    (hval0 : ∀ (j : Nat) t v, Try.f4.params[j]? = some t → args[j]? = some v → Value.okWide Try.prog W .any base t v)
    (hW : DataW.Whole enc Try.prog Try.f4.params.toList Rows.stepRowsSpec.vars false W args.toList ds gs before)
    (hsz0 : (DataW.weightsEach Try.prog (Try.f4.params.toList ++ Rows.stepRowsSpec.plain.varTypes Try.prog) (ds ++ gs)).all (· ≤ reachBytes) = true) :
    Calls Try.prog 4 args W fun e W' => ∃ v, e = .returned v ∧ Rows.stepRowsSpec.post enc Try.prog Try.f4 false true false false W args v W' := by
  have hsz : (DataW.weightsEach Try.prog (Try.f4.params.toList ++ Rows.stepRowsSpec.plain.varTypes Try.prog) (ds ++ gs)).all (· ≤ reachBytes) = true := hsz0
  have hval : ∀ (j : Nat) t v, Try.f4.params[j]? = some t → args[j]? = some v → Value.okWide Try.prog W .any base t v := hval0
  have hW' := hW
  obtain ⟨p, q, hA0, hV, rfl, hfz, hnd⟩ := hW
  have hA : DataW.TrodAll enc Try.prog W 0 (fun _ => true) true Try.f4.params.toList args.toList ds p := hA0
  rw [Try.params4] at hA hval hsz
  obtain ⟨v0, vs0, d0, ds0, p0, q0, hargs, rfl, rfl, h0, r0⟩ := trodAll_cons hA
  obtain ⟨v1, vs1, d1, ds1, p1, q1, rfl, rfl, rfl, h1, r1⟩ := trodAll_cons r0
  obtain ⟨rfl, rfl, rfl⟩ := trodAll_nil r1
  obtain rfl : args = #[v0, v1] := by cases args; simp_all
  obtain ⟨rfl, rfl⟩ := trodVars_none hV
  have k0 := h0
  have lt0 : ∀ x ∈ p0, x.block < W.heap.size := by obtain ⟨m, hm⟩ := k0; exact DataW.trod_lt m _ _ _ hm
  have wt0 := weightsEach_at (j := 0) (t := 22) (d := d0) rfl rfl hsz
  obtain ⟨fuel0, hf0⟩ := h0
  obtain ⟨l0, K0, o0, s0⟩ := (Opens.get (opens_sl (B := 1) Try.underlying22 (opens_u8 Try.underlying5) (by kernel_rfl) (by kernel_rfl)) hf0 wt0)
  obtain ⟨A0, n0, c0, rfl⟩ := okWide_slice Try.underlying22 (hval 0 22 v0 rfl rfl)
  obtain ⟨A'0, c'0, e0, hc0, hr0⟩ := K0
  obtain ⟨rfl, rfl, rfl⟩ : A0 = A'0 ∧ n0 = l0.length ∧ c0 = c'0 := by simpa [Value.cells] using e0
  have k1 := h1
  have lt1 : ∀ x ∈ p1, x.block < W.heap.size := by obtain ⟨m, hm⟩ := k1; exact DataW.trod_lt m _ _ _ hm
  have wt1 := weightsEach_at (j := 1) (t := 27) (d := d1) rfl rfl hsz
  obtain ⟨fuel1, hf1⟩ := h1
  obtain ⟨x1, K1, o1, s1⟩ := (Opens.get opens27 hf1 wt1)
  obtain ⟨cs1, rfl, _⟩ := okWide_struct Try.underlying27 (hval 1 27 v1 rfl rfl)
  have e1 := k27_open K1
  obtain ⟨cs1⟩ := cs1
  obtain rfl := (show cs1 = _ from e1)
  refine (walk A0 c0 l0 x1 W hr0 hc0 o0 o1).mono fun e W' ⟨he, bel⟩ => ?_
  subst he
  exact ⟨_, rfl, _, _, _, [], _, [], hW', trodAll_mk1 (shut_bool Try.underlying4 _), (trodAll_cons_mk (Below.trod laidOut (by kernel_rfl) (of_decide_eq_true (by kernel_rfl)) k0 bel lt0) (trodAll_cons_mk (Below.trod laidOut (by kernel_rfl) (of_decide_eq_true (by kernel_rfl)) k1 bel lt1) trodAll_mk0)), rfl, bel.frame _, fun h => by cases h⟩
set_option maxRecDepth 100000 in
theorem lifted (os : Os) (started : os.Started) (H : Type) (enc : TypeId × Value → H) :
    ReturnsInHanded {} Try.checked os 4 .any (Rows.stepRowsSpec.pre6 enc Try.prog Try.f4 Rows.stepRowsRow.domain false) (Rows.stepRowsSpec.post enc Try.prog Try.f4 false true false false) := by
  refine returnsInHanded_of_change_sized (C := Try.checked) own started (by kernel_rfl) Try.func4
    (ChangeSpec.witness6 (enc := enc) (C := Try.checked) false ⟨#[], #[.slice none 0 0, .agg #[.int .i64 0, .int .i64 0, .int .i64 0, .string ByteArray.empty]], []⟩ 8 (by kernel_rfl) (by kernel_rfl) (by kernel_rfl) (by kernel_rfl)) ?_
  intro W base args ds gs before hval0 hW _ hsz0 _
  exact contract H enc W base args ds gs before hval0 hW hsz0
theorem proved : Rows.StepRowsSaid :=
  OpenClaim.holds_of_wide 4 Try.f4 rfl rfl rfl rfl rfl rfl rfl ⟨rfl, rfl, rfl, rfl, rfl⟩ rfl rfl rfl rfl rfl (by kernel_rfl) Try.func4 (by kernel_rfl)
    (of_decide_eq_true (by kernel_rfl)) (by unfold Func.isWrapper; first | (rw [if_pos (by decide +kernel)]; kernel_rfl) | (rw [if_neg (by decide +kernel)]; exact ⟨rfl, rfl⟩))
    (fun os started H enc _ => lifted os started H enc)
#print axioms proved
end Go.Proofs.Ytofkcdnkbjpmmaa.stepRows
namespace Go.Proofs.Ytofkcdnkbjpmmaa
/-- The row, under a short name, for the claim. -/
theorem stepRows_holds : Rows.StepRowsSaid := stepRows.proved
end Go.Proofs.Ytofkcdnkbjpmmaa
end
