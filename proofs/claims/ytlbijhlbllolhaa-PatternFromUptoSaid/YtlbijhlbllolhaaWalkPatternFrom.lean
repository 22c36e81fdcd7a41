/-
  PatternFrom: the walk.
-/
import Derived.Test.YtlbijhlbllolhaaPT12
import Derived.Test.YtlbijhlbllolhaaXS
namespace Go.Proofs.Ytlbijhlbllolhaa.WalkPatternFrom
open Go.RowKit Go.Proofs.YtlbijhlbllolhaaW.PrintWords Go.Proofs.YtlbijhlbllolhaaW.PrintMore Go.Proofs.Ytlbijhlbllolhaa.X Go.Proofs.Ytlbijhlbllolhaa.XO Go.Proofs.Ytlbijhlbllolhaa.PT
set_option linter.unusedVariables false
theorem compileV_or (p : List Int) : (∃ pl, compileV p = (some pl, 0, 0)) ∨ ∃ a e, compileV p = (none, a, e) ∧ (e = 1 ∨ e = 110) := by
  unfold compileV
  split
  · exact .inr ⟨_, _, rfl, .inl rfl⟩
  · split
    · exact .inr ⟨_, _, rfl, .inr rfl⟩
    · exact .inl ⟨_, rfl⟩
theorem from_none {line : List Int} {pl : List PTh} {f g : Int} (h : (findV line pl f).2.2 = false) (h0 : 0 ≤ f) (hg : f ≤ g) : (findV line pl g).2.2 = false := by
  cases e : (findV line pl g).2.2 with
  | false => rfl
  | true =>
    have h1 := (find_spec line pl f).2 h
    obtain ⟨h2, h3, h4, h5, h6, h7⟩ := (find_spec line pl g).1 e
    have h8 := h1.2 h0 (findV line pl g).1 (by omega) (by omega)
    omega
theorem from_same {line : List Int} {pl : List PTh} {f g : Int} (h : (findV line pl f).2.2 = true) (hg : f ≤ g) (hg2 : g ≤ (findV line pl f).1) : findV line pl g = findV line pl f := by
  obtain ⟨h2, h3, h4, h5, h6, h7⟩ := (find_spec line pl f).1 h
  cases e : (findV line pl g).2.2 with
  | false =>
    have h8 := ((find_spec line pl g).2 e).2 (by omega) (findV line pl f).1 hg2 (by omega)
    omega
  | true =>
    obtain ⟨k2, k3, k4, k5, k6, k7⟩ := (find_spec line pl g).1 e
    have e1 : (findV line pl g).1 = (findV line pl f).1 := by
      by_cases lt : (findV line pl g).1 < (findV line pl f).1
      · have h8 := h7 _ (show f ≤ (findV line pl g).1 by omega) lt
        omega
      · by_cases gt : (findV line pl f).1 < (findV line pl g).1
        · have h8 := k7 _ hg2 gt
          omega
        · omega
    have e2 : (findV line pl g).2.1 = (findV line pl f).2.1 := by rw [k6, h6, e1]
    exact Prod.ext e1 (Prod.ext e2 (by rw [e, h]))
set_option maxHeartbeats 2000000 in
set_option maxRecDepth 100000 in
theorem walk (x0 : S44) (A0_0 : Option Addr) (c0_0 : Nat) (A0_1 : Option Addr) (c0_1 : Nat) (w : World) (hr0_0 : Kd.C (Kd.int .u8) w A0_0 x0.f0.length x0.f0) (hc0_0 : x0.f0.length ≤ c0_0) (hr0_1 : Kd.C (Kd.int .u8) w A0_1 x0.f1.length x0.f1) (hc0_1 : x0.f1.length ≤ c0_1) (o0 : okS44 x0) (hb : (szS44 x0 ≤ 1048576)) :
    Calls Try.prog 6 #[.agg #[.slice A0_0 x0.f0.length c0_0, .slice A0_1 x0.f1.length c0_1, .int .i64 x0.f2, .int .i64 x0.f3]] w fun e w' => e = .returned (.bool true) ∧ Below w.heap.size w w' := by
  obtain ⟨p, line, f, g⟩ := x0
  obtain ⟨o1, o2, o3, o4⟩ := o0
  simp only at *
  unfold szS44 szSl at hb
  have hl : line.length ≤ 1048576 := by
    have hs : ∀ l : List Int, l.length ≤ (l.map szOne).sum := by
      intro l
      induction l with
      | nil => simp
      | cons x l ih => simp [szOne] at ih ⊢; omega
    have h1 := hs line
    simp only at hb
    omega
  have hall : ∀ l : List Int, okSl 1 okU8 l → ∀ i, 0 ≤ rd l i ∧ rd l i ≤ 255 := by
    intro l h i
    unfold rd
    rw [List.getD_eq_getElem?_getD]
    cases e : l[i.toNat]? with
    | none => simp
    | some x =>
      have h1 := h.2 x (List.mem_of_getElem? e)
      unfold okU8 at h1
      simp only [Option.getD_some]
      omega
  have hup := hall p o1
  have hul := hall line o2
  clear hall
  have HA : ∀ W, Aside0 _ := fun W => ⟨alive_calls (w := W)⟩
  have HR := Aside0.mk (And.intro hr0_0 (And.intro hr0_1 (And.intro hup hul)))
  have HC : ∀ W, Below w.heap.size w W → Aside0 _ := fun W h => ⟨compile_calls (c := c0_0) (Kd.C_below hr0_0 h) hup⟩
  have HF : ∀ (W : World) (v : Value) (base : Nat) (pl : List PTh) (q : Int), Below w.heap.size w W → PatO W base v (some pl) → Aside0 _ := fun W v base pl q h hp => ⟨find_calls (c := c0_1) (from_ := q) (Kd.C_below hr0_1 h) hul (by omega) hc0_1 hp⟩
  clear hr0_0 hr0_1 hup hul o1 o2
  go_enter Try.func6, Try.ntmps6
  go_wp2_with (go_at_call 8; (with_reducible refine (HA _).out.mono ?_); rintro e w1 ⟨rfl, hx⟩; have B1 := blk_below (blk_new w (.cells #[.slice A0_0 p.length c0_0, .slice A0_1 line.length c0_1, .int .i64 f, .int .i64 g] 44)) hx; have k0 : w1.cell? ⟨w.heap.size, 0, none⟩ = some (.slice A0_0 p.length c0_0) := (blk_cell B1 0).trans rfl; have k1 : w1.cell? ⟨w.heap.size, 1, none⟩ = some (.slice A0_1 line.length c0_1) := (blk_cell B1 1).trans rfl; have k2 : w1.cell? ⟨w.heap.size, 2, none⟩ = some (.int .i64 f) := (blk_cell B1 2).trans rfl; have k3 : w1.cell? ⟨w.heap.size, 3, none⟩ = some (.int .i64 g) := (blk_cell B1 3).trans rfl; have H1 := Aside0.mk (below_step (below_alloc (Below.refl _ w) (.cells #[.slice A0_0 p.length c0_0, .slice A0_1 line.length c0_1, .int .i64 f, .int .i64 g] 44)) hx); clear hx B1)
  go_quiet (fail)
  have HB2 := Aside0.mk (pw_below_drewN H1.out nq)
  clear k0 k1 k2 k3 H1
  generalize w1.drewN nq = W2 at HB2 ⊢
  have HC2 := HC W2 HB2.out
  rcases compileV_or p with ⟨pl, hcv⟩ | ⟨a, e, hcv, he⟩
  · rw [hcv] at HC2
    have sp := find_spec line pl f
    have sg := find_spec line pl g
    have n1 := @from_none line pl f g
    have n2 := @from_same line pl f g
    have HFf := fun (W : World) (v : Value) (base : Nat) => HF W v base pl f
    have HFg := fun (W : World) (v : Value) (base : Nat) => HF W v base pl g
    clear HF HC hcv
    generalize findV line pl f = r1 at HFf sp n1 n2
    generalize findV line pl g = r2 at HFg sg n1 n2
    obtain ⟨a, b, ok⟩ := r1
    obtain ⟨x, y, is⟩ := r2
    simp only at *
    cases ok with
    | false =>
      have e0 := (sp.2 rfl).1
      simp only [Prod.mk.injEq, and_true] at e0
      obtain ⟨rfl, rfl⟩ := e0
      by_cases c1 : 0 ≤ f
      · have d1 : decide (0 ≤ f) = true := decide_eq_true c1
        by_cases c2 : f ≤ g
        · have d2 : decide (f ≤ g) = true := decide_eq_true c2
          obtain rfl : is = false := n1 rfl c1 c2
          clear sp sg n1 n2
          go_wp2_with (first
            | (go_at_call 9; (with_reducible refine HC2.out.mono ?_); rintro e w3 ⟨v, rfl, hx, hp⟩; have H3 := Aside0.mk (And.intro (below_step HB2.out hx) hp); clear hx hp)
            | (go_at_call 11; first
              | (with_reducible refine (HFf _ _ _ H3.out.1 H3.out.2).out.mono ?_; rintro e w4 ⟨rfl, hx⟩; have H4 := Aside0.mk (And.intro (below_step H3.out.1 hx) (PatO_below H3.out.2 hx)); clear hx H3)
              | (with_reducible refine (HFg _ _ _ H4.out.1 H4.out.2).out.mono ?_; rintro e w5 ⟨rfl, hx⟩; have H5 := Aside0.mk (below_step H4.out.1 hx); clear hx H4)))
          first
            | exact bodyPost_ret (v := .bool true) (by simp [results, Try.results6, go_sem]) rfl ⟨rfl, H4.out.1⟩
            | exact bodyPost_ret (v := .bool true) (by simp [results, Try.results6, go_sem]) rfl ⟨rfl, H5.out⟩
        · have d2 : decide (f ≤ g) = false := decide_eq_false c2
          clear sp sg n1 n2
          go_wp2_with (first
            | (go_at_call 9; (with_reducible refine HC2.out.mono ?_); rintro e w3 ⟨v, rfl, hx, hp⟩; have H3 := Aside0.mk (And.intro (below_step HB2.out hx) hp); clear hx hp)
            | (go_at_call 11; first
              | (with_reducible refine (HFf _ _ _ H3.out.1 H3.out.2).out.mono ?_; rintro e w4 ⟨rfl, hx⟩; have H4 := Aside0.mk (And.intro (below_step H3.out.1 hx) (PatO_below H3.out.2 hx)); clear hx H3)
              | (with_reducible refine (HFg _ _ _ H4.out.1 H4.out.2).out.mono ?_; rintro e w5 ⟨rfl, hx⟩; have H5 := Aside0.mk (below_step H4.out.1 hx); clear hx H4)))
          first
            | exact bodyPost_ret (v := .bool true) (by simp [results, Try.results6, go_sem]) rfl ⟨rfl, H4.out.1⟩
            | exact bodyPost_ret (v := .bool true) (by simp [results, Try.results6, go_sem]) rfl ⟨rfl, H5.out⟩
      · have d1 : decide (0 ≤ f) = false := decide_eq_false c1
        clear sp sg n1 n2
        go_wp2_with (first
          | (go_at_call 9; (with_reducible refine HC2.out.mono ?_); rintro e w3 ⟨v, rfl, hx, hp⟩; have H3 := Aside0.mk (And.intro (below_step HB2.out hx) hp); clear hx hp)
          | (go_at_call 11; first
            | (with_reducible refine (HFf _ _ _ H3.out.1 H3.out.2).out.mono ?_; rintro e w4 ⟨rfl, hx⟩; have H4 := Aside0.mk (And.intro (below_step H3.out.1 hx) (PatO_below H3.out.2 hx)); clear hx H3)
            | (with_reducible refine (HFg _ _ _ H4.out.1 H4.out.2).out.mono ?_; rintro e w5 ⟨rfl, hx⟩; have H5 := Aside0.mk (below_step H4.out.1 hx); clear hx H4)))
        first
          | exact bodyPost_ret (v := .bool true) (by simp [results, Try.results6, go_sem]) rfl ⟨rfl, H4.out.1⟩
          | exact bodyPost_ret (v := .bool true) (by simp [results, Try.results6, go_sem]) rfl ⟨rfl, H5.out⟩
    | true =>
      obtain ⟨h1, h2, h3, h4, _, _⟩ := sp.1 rfl
      have d1 : decide (a < f) = false := decide_eq_false (by omega)
      have d2 : decide (b < a) = false := decide_eq_false (by omega)
      have d3 : decide ((line.length : Int) < b) = false := decide_eq_false (by omega)
      have d4 : decide (f < 0) = false := decide_eq_false (by omega)
      by_cases c1 : f ≤ g
      · have d5 : decide (f ≤ g) = true := decide_eq_true c1
        by_cases c2 : g ≤ a
        · have d6 : decide (g ≤ a) = true := decide_eq_true c2
          have e0 := n2 rfl c1 c2
          simp only [Prod.mk.injEq] at e0
          obtain ⟨rfl, rfl, rfl⟩ := e0
          have b1 : (x == x) = true := beq_self_eq_true x
          have b2 : (y == y) = true := beq_self_eq_true y
          clear sp sg n1 n2
          go_wp2_with (first
            | (go_at_call 9; (with_reducible refine HC2.out.mono ?_); rintro e w3 ⟨v, rfl, hx, hp⟩; have H3 := Aside0.mk (And.intro (below_step HB2.out hx) hp); clear hx hp)
            | (go_at_call 11; first
              | (with_reducible refine (HFf _ _ _ H3.out.1 H3.out.2).out.mono ?_; rintro e w4 ⟨rfl, hx⟩; have H4 := Aside0.mk (And.intro (below_step H3.out.1 hx) (PatO_below H3.out.2 hx)); clear hx H3)
              | (with_reducible refine (HFg _ _ _ H4.out.1 H4.out.2).out.mono ?_; rintro e w5 ⟨rfl, hx⟩; have H5 := Aside0.mk (below_step H4.out.1 hx); clear hx H4)))
          first
            | exact bodyPost_ret (v := .bool true) (by simp [results, Try.results6, go_sem]) rfl ⟨rfl, H4.out.1⟩
            | exact bodyPost_ret (v := .bool true) (by simp [results, Try.results6, go_sem]) rfl ⟨rfl, H5.out⟩
        · have d6 : decide (g ≤ a) = false := decide_eq_false c2
          have d7 : decide (a < g) = true := decide_eq_true (by omega)
          cases is with
          | false =>
            clear sp sg n1 n2
            go_wp2_with (first
              | (go_at_call 9; (with_reducible refine HC2.out.mono ?_); rintro e w3 ⟨v, rfl, hx, hp⟩; have H3 := Aside0.mk (And.intro (below_step HB2.out hx) hp); clear hx hp)
              | (go_at_call 11; first
                | (with_reducible refine (HFf _ _ _ H3.out.1 H3.out.2).out.mono ?_; rintro e w4 ⟨rfl, hx⟩; have H4 := Aside0.mk (And.intro (below_step H3.out.1 hx) (PatO_below H3.out.2 hx)); clear hx H3)
                | (with_reducible refine (HFg _ _ _ H4.out.1 H4.out.2).out.mono ?_; rintro e w5 ⟨rfl, hx⟩; have H5 := Aside0.mk (below_step H4.out.1 hx); clear hx H4)))
            first
              | exact bodyPost_ret (v := .bool true) (by simp [results, Try.results6, go_sem]) rfl ⟨rfl, H4.out.1⟩
              | exact bodyPost_ret (v := .bool true) (by simp [results, Try.results6, go_sem]) rfl ⟨rfl, H5.out⟩
          | true =>
            have d8 : decide (g ≤ x) = true := decide_eq_true (sg.1 rfl).2.1
            clear sp sg n1 n2
            go_wp2_with (first
              | (go_at_call 9; (with_reducible refine HC2.out.mono ?_); rintro e w3 ⟨v, rfl, hx, hp⟩; have H3 := Aside0.mk (And.intro (below_step HB2.out hx) hp); clear hx hp)
              | (go_at_call 11; first
                | (with_reducible refine (HFf _ _ _ H3.out.1 H3.out.2).out.mono ?_; rintro e w4 ⟨rfl, hx⟩; have H4 := Aside0.mk (And.intro (below_step H3.out.1 hx) (PatO_below H3.out.2 hx)); clear hx H3)
                | (with_reducible refine (HFg _ _ _ H4.out.1 H4.out.2).out.mono ?_; rintro e w5 ⟨rfl, hx⟩; have H5 := Aside0.mk (below_step H4.out.1 hx); clear hx H4)))
            first
              | exact bodyPost_ret (v := .bool true) (by simp [results, Try.results6, go_sem]) rfl ⟨rfl, H4.out.1⟩
              | exact bodyPost_ret (v := .bool true) (by simp [results, Try.results6, go_sem]) rfl ⟨rfl, H5.out⟩
      · have d5 : decide (f ≤ g) = false := decide_eq_false c1
        have d7 : decide (a < g) = false := decide_eq_false (by omega)
        clear sp sg n1 n2
        go_wp2_with (first
          | (go_at_call 9; (with_reducible refine HC2.out.mono ?_); rintro e w3 ⟨v, rfl, hx, hp⟩; have H3 := Aside0.mk (And.intro (below_step HB2.out hx) hp); clear hx hp)
          | (go_at_call 11; first
            | (with_reducible refine (HFf _ _ _ H3.out.1 H3.out.2).out.mono ?_; rintro e w4 ⟨rfl, hx⟩; have H4 := Aside0.mk (And.intro (below_step H3.out.1 hx) (PatO_below H3.out.2 hx)); clear hx H3)
            | (with_reducible refine (HFg _ _ _ H4.out.1 H4.out.2).out.mono ?_; rintro e w5 ⟨rfl, hx⟩; have H5 := Aside0.mk (below_step H4.out.1 hx); clear hx H4)))
        first
          | exact bodyPost_ret (v := .bool true) (by simp [results, Try.results6, go_sem]) rfl ⟨rfl, H4.out.1⟩
          | exact bodyPost_ret (v := .bool true) (by simp [results, Try.results6, go_sem]) rfl ⟨rfl, H5.out⟩
  · rw [hcv] at HC2
    clear HF HC hcv
    rcases he with rfl | rfl
    all_goals
      go_wp2_with (go_at_call 9; (with_reducible refine HC2.out.mono ?_); rintro e w3 ⟨v, rfl, hx, rfl⟩; have H3 := Aside0.mk (below_step HB2.out hx); clear hx)
      exact bodyPost_ret (v := .bool true) (by simp [results, Try.results6, go_sem]) rfl ⟨rfl, H3.out⟩
end Go.Proofs.Ytlbijhlbllolhaa.WalkPatternFrom
