/-
  HuntUnders: the walk.
-/
import Derived.Test.YtffpkldphkmjmaaDoorHTB
import Derived.Test.YtffpkldphkmjmaaDoorXS
namespace Go.Proofs.YtffpkldphkmjmaaDoor.WalkHuntUnders
open Go.RowKit Go.Proofs.YtffpkldphkmjmaaDoorW.PrintWords Go.Proofs.YtffpkldphkmjmaaDoorW.PrintMore Go.Proofs.YtffpkldphkmjmaaDoor.X Go.Proofs.YtffpkldphkmjmaaDoor.XO Go.Proofs.YtffpkldphkmjmaaDoor.PT
set_option linter.unusedVariables false
theorem sum_len (l : List Int) : l.length ≤ (l.map szOne).sum := by
  induction l with
  | nil => simp
  | cons x l ih => have : szOne x = 1 := rfl; simp only [List.map_cons, List.sum_cons, List.length_cons]; omega
theorem u8_all (l : List Int) (h : okSl 1 okU8 l) : ∀ i, 0 ≤ rd l i ∧ rd l i ≤ 255 := rd_mem (P := fun x => 0 ≤ x ∧ x ≤ 255) l (fun x hx => h.2 x hx) (by decide)
set_option maxHeartbeats 2000000 in
set_option maxRecDepth 100000 in
theorem walk (A0 : Option Addr) (c0 : Nat) (l0 : List Int) (a1 : Int) (w : World) (hr0 : Kd.C (Kd.int .u8) w A0 l0.length l0) (hc0 : l0.length ≤ c0) (o0 : (okSl 1 okU8) l0) (o1 : okI64 a1) (hb : ((szSl szOne) l0 + szOne a1 ≤ 1048576)) :
    Calls Tryd.prog 4 #[.slice A0 l0.length c0, .int .i64 a1] w fun e w' => e = .returned (.bool true) ∧ Below w.heap.size w w' := by
  have hl0 : l0.length ≤ 1048576 := by have := sum_len l0; unfold szSl at hb; omega
  have hu := u8_all l0 o0
  have HA : ∀ W, Aside0 _ := fun W => ⟨awake_calls (w := W)⟩
  have HU : Aside0 (∀ W, Below w.heap.size w W → Calls Tryd.prog 15 #[.slice A0 l0.length c0, .int .i64 a1] W fun e w' => ∃ v, e = .returned (.tuple #[v, .int .i64 (underV l0 a1).2]) ∧ Below W.heap.size W w' ∧ (Kd.int .u8).R 5 w' W.heap.size (fun _ => True) v (underV l0 a1).1) := ⟨fun W h => under_calls (Kd.C_below hr0 h) hu (by omega) hc0⟩
  have HR : Aside0 (∀ W, Below w.heap.size w W → Calls Tryd.prog 14 #[.slice A0 l0.length c0, .int .i64 a1] W fun e w' => ∃ v, e = .returned (.tuple #[v, .int .i64 (underV l0 a1).2]) ∧ Below W.heap.size W w' ∧ (Kd.int .u8).R 5 w' W.heap.size (fun _ => True) v (underV l0 a1).1) := ⟨fun W h => runder_calls (Kd.C_below hr0 h) hu (by omega) hc0⟩
  generalize underV l0 a1 = r at HU HR
  obtain ⟨q, f⟩ := r
  simp only at HU HR
  clear hr0 hu o0 o1 hb
  go_enter Tryd.func4, Tryd.ntmps4
  go_wp2_with (first
    | (go_at_call 9; (with_reducible refine (HA _).out.mono ?_); rintro e w1 ⟨rfl, hx⟩; have H1 := Aside0.mk hx; clear hx)
    | (go_at_call 14; (with_reducible refine (HR.out _ H1.out).mono ?_); rintro e w2 ⟨v2, rfl, hx, hq⟩; have H2 := Aside0.mk (And.intro hx hq); clear hx hq; obtain ⟨A2, c2, e2⟩ := Kd.R_slice H2.out.2; subst e2)
    | (go_at_call 15; (with_reducible refine (HU.out _ (below_step H1.out H2.out.1)).mono ?_); rintro e w3 ⟨v3, rfl, hx, hq⟩; have H3 := Aside0.mk (And.intro hx hq); clear hx hq; obtain ⟨A3, c3, e3⟩ := Kd.R_slice H3.out.2; subst e3; have k3 := Kd.C_string (P := Tryd.prog) (c := c3) Tryd.underlying22 Tryd.underlying5 Tryd.underlying9 (Kd.R_reads' H3.out.2).2.2; have k2 := Kd.C_string (P := Tryd.prog) (c := c2) Tryd.underlying22 Tryd.underlying5 Tryd.underlying9 (Kd.C_below (Kd.R_reads' H2.out.2).2.2 H3.out.1)))
  exact bodyPost_ret (v := .bool true) (by simp [results, Tryd.results4, go_sem]) rfl ⟨rfl, below_step (below_step H1.out H2.out.1) H3.out.1⟩
end Go.Proofs.YtffpkldphkmjmaaDoor.WalkHuntUnders
