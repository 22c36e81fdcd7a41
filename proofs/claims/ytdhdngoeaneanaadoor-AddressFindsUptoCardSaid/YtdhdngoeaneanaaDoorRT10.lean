/-
  The reference of patterns, by hand: Find and All.
-/
import Derived.Test.YtdhdngoeaneanaaDoorRT9
import Derived.Test.YtdhdngoeaneanaaDoorRT5
namespace Go.Proofs.YtdhdngoeaneanaaDoor.PT
open Go.RowKit Go.Proofs.YtdhdngoeaneanaaDoorW.PrintWords Go.Proofs.YtdhdngoeaneanaaDoorW.PrintMore
set_option linter.unusedVariables false
set_option maxRecDepth 100000
set_option linter.unusedSimpArgs false
/-- What the reference's Find comes to. -/
def rfindV (p line : List Int) (f : Int) : Int × Int × Bool := match (compileV p).1 with
  | some pl => findV line pl f
  | none => (0, 0, false)
set_option maxHeartbeats 4000000 in
set_option maxRecDepth 100000 in
theorem rfind_calls {w : World} {A0 : Option Addr} {c0 : Nat} {p : List Int} {A : Option Addr} {c : Nat} {line : List Int} {f : Int} (hr0 : Kd.C (Kd.int .u8) w A0 p.length p) (hu0 : ∀ i, 0 ≤ rd p i ∧ rd p i ≤ 255)
    (hr : Kd.C (Kd.int .u8) w A line.length line) (hc : line.length ≤ c) (hn : line.length ≤ 1048576) (hu : ∀ i, 0 ≤ rd line i ∧ rd line i ≤ 255) :
    Calls Tryd.prog 74 #[.slice A0 p.length c0, .slice A line.length c, .int .i64 f] w fun e w' => e = .returned (.tuple #[.int .i64 (rfindV p line f).1, .int .i64 (rfindV p line f).2.1, .bool (rfindV p line f).2.2]) ∧ Below w.heap.size w w' := by
  have HT := Aside0.mk (rthings_calls (c := c0) hr0 hu0)
  have HS : ∀ (w' : World) (v : Value) (l : List RT) (pl : List PTh), TH w v l w' → l.length ≤ 257 → l.map RTd = pl → ∃ A1 c1, v = .slice A1 l.length c1 ∧ Aside0 (Calls Tryd.prog 91 #[.slice A1 l.length c1, .slice A line.length c, .int .i64 f] w' fun e w'' => e = .returned (.tuple #[.int .i64 (findV line pl f).1, .int .i64 (findV line pl f).2.1, .bool (findV line pl f).2.2]) ∧ Below w'.heap.size w' w'') := by
    intro w' v l pl h hl hpl
    obtain ⟨A1, c1, rfl⟩ := Kd.R_slice h.2.1
    have h1 := rsearch_calls (c1 := c1) (f := f) (Kd.R_reads' h.2.1).2.2 h.2.2 (by omega) (Kd.C_below hr h.1) hc hn hu
    rw [hpl, search_find] at h1
    exact ⟨A1, c1, rfl, ⟨h1⟩⟩
  clear hr0 hu0 hr hu
  rcases compileV_or p with ⟨pl, hcv⟩ | ⟨a, e, hcv, he⟩
  · have HV := Aside0.mk (show rfindV p line f = findV line pl f by unfold rfindV; rw [hcv])
    rw [hcv] at HT
    clear hcv
    go_enter Tryd.func74, Tryd.ntmps74
    go_wp2_with (first
      | (go_at_call 53; refine HT.out.mono ?_; rintro e w' ⟨v, l, rfl, hx, hl, hpl⟩; obtain ⟨A1, c1, rfl, HS2⟩ := HS w' v l pl hx hl (hpl pl rfl); have H1 := Aside0.mk hx.1; clear hx hl hpl)
      | (go_at_call 91; refine HS2.out.mono ?_; rintro e w2 ⟨rfl, hx⟩; have H2 := Aside0.mk (below_step H1.out hx); clear hx))
    refine bodyPost_ret (v := .tuple #[.int .i64 (findV line pl f).1, .int .i64 (findV line pl f).2.1, .bool (findV line pl f).2.2]) (by simp [results, Tryd.results74, go_sem]) rfl ?_
    rw [HV.out]
    exact ⟨rfl, H2.out⟩
  · have HV := Aside0.mk (show rfindV p line f = (0, 0, false) by unfold rfindV; rw [hcv])
    rw [hcv] at HT
    clear hcv HS
    rcases he with rfl | rfl
    all_goals
      go_enter Tryd.func74, Tryd.ntmps74
      go_wp2_with (go_at_call 53; refine HT.out.mono ?_; rintro e w' ⟨v, l, rfl, hx, _, _⟩; have H1 := Aside0.mk hx.1; clear hx)
      refine bodyPost_ret (v := .tuple #[.int .i64 0, .int .i64 0, .bool false]) (by simp [results, Tryd.results74, go_sem]) rfl ?_
      rw [HV.out]
      exact ⟨rfl, H1.out⟩
end Go.Proofs.YtdhdngoeaneanaaDoor.PT
