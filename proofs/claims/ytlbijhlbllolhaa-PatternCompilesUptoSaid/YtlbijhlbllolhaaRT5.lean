/-
  The reference of patterns, by hand: Compile; strings.
-/
import Derived.Test.YtlbijhlbllolhaaRT4
import Derived.Test.YtlbijhlbllolhaaXO
namespace Go.Proofs.Ytlbijhlbllolhaa.PT
open Go.RowKit Go.Proofs.YtlbijhlbllolhaaW.PrintWords Go.Proofs.YtlbijhlbllolhaaW.PrintMore Go.Proofs.Ytlbijhlbllolhaa.XO
set_option linter.unusedVariables false
theorem compileV_or (p : List Int) : (∃ pl, compileV p = (some pl, 0, 0)) ∨ ∃ a e, compileV p = (none, a, e) ∧ (e = 1 ∨ e = 110) := by
  unfold compileV
  split
  · exact .inr ⟨_, _, rfl, .inl rfl⟩
  · split
    · exact .inr ⟨_, _, rfl, .inr rfl⟩
    · exact .inl ⟨_, rfl⟩
set_option maxHeartbeats 2000000 in
set_option maxRecDepth 100000 in
theorem rcompile_calls {w : World} {A : Option Addr} {c : Nat} {p : List Int} (hr : Kd.C (Kd.int .u8) w A p.length p) (hu : ∀ i, 0 ≤ rd p i ∧ rd p i ≤ 255) :
    Calls Try.prog 10 #[.slice A p.length c] w fun e w' => e = .returned (.tuple #[.int .i64 (compileV p).2.1, .int .i64 (compileV p).2.2]) ∧ Below w.heap.size w w' := by
  have HT := Aside0.mk (rthings_calls (c := c) hr hu)
  clear hr hu
  generalize compileV p = r at HT ⊢
  obtain ⟨r1, r2, r3⟩ := r
  simp only at HT ⊢
  go_enter Try.func10, Try.ntmps10
  go_wp2_with (go_at_call 17; refine HT.out.mono ?_; rintro e w' ⟨v, l, rfl, hx, _, _⟩; have H1 := Aside0.mk hx.1; clear hx)
  exact bodyPost_ret (v := .tuple #[.int .i64 r2, .int .i64 r3]) (by simp [results, Try.results10, go_sem]) rfl ⟨rfl, H1.out⟩
theorem ok_u8 {B : Nat} {l : List Int} (h : okSl B okU8 l) (i : Int) : 0 ≤ rd l i ∧ rd l i ≤ 255 := by
  unfold rd
  rw [List.getD_eq_getElem?_getD]
  cases e : l[i.toNat]? with
  | none => simp
  | some x =>
    have h1 := h.2 x (List.mem_of_getElem? e)
    unfold okU8 at h1
    simp only [Option.getD_some]
    omega
theorem sum_len (l : List Int) : l.length ≤ (l.map szOne).sum := by
  induction l with
  | nil => simp
  | cons x l ih => simp [szOne] at ih ⊢; omega
theorem str_app (xs ys : List Int) : strOfNums (xs ++ ys) = strOfNums xs ++ strOfNums ys := by
  unfold strOfNums
  apply ByteArray.ext
  simp
end Go.Proofs.Ytlbijhlbllolhaa.PT
