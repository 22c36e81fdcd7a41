/-
  PatternRises: the walk.
-/
import Derived.Test.YtlbijhlbllolhaaPT14
import Derived.Test.YtlbijhlbllolhaaXS
namespace Go.Proofs.Ytlbijhlbllolhaa.WalkPatternRises
open Go.RowKit Go.Proofs.YtlbijhlbllolhaaW.PrintWords Go.Proofs.YtlbijhlbllolhaaW.PrintMore Go.Proofs.Ytlbijhlbllolhaa.X Go.Proofs.Ytlbijhlbllolhaa.XO Go.Proofs.Ytlbijhlbllolhaa.PT
set_option linter.unusedVariables false
theorem compileV_or (p : List Int) : (∃ pl, compileV p = (some pl, 0, 0)) ∨ ∃ a e, compileV p = (none, a, e) ∧ (e = 1 ∨ e = 110) := by
  unfold compileV
  split
  · exact .inr ⟨_, _, rfl, .inl rfl⟩
  · split
    · exact .inr ⟨_, _, rfl, .inr rfl⟩
    · exact .inl ⟨_, rfl⟩
set_option maxHeartbeats 2000000 in
set_option maxRecDepth 100000 in
theorem walk (A0 : Option Addr) (c0 : Nat) (p : List Int) (A1 : Option Addr) (c1 : Nat) (line : List Int) (w : World) (hr0 : Kd.C (Kd.int .u8) w A0 p.length p) (hc0 : p.length ≤ c0) (hr1 : Kd.C (Kd.int .u8) w A1 line.length line) (hc1 : line.length ≤ c1) (o0 : (okSl 1 okU8) p) (o1 : (okSl 1 okU8) line) :
    Calls Try.prog 7 #[.slice A0 p.length c0, .slice A1 line.length c1] w fun e w' => e = .returned (.bool true) ∧ Below w.heap.size w w' := by
  have hall : ∀ l : List Int, okSl 1 okU8 l → ∀ i, 0 ≤ rd l i ∧ rd l i ≤ 255 := by
    intro l h i
    unfold rd
    rw [List.getD_eq_getElem?_getD]
    cases e : l[i.toNat]? with
    | none => simp
    | some x =>
      have h1 := h.2 x (List.mem_of_getElem? e)
      unfold okU8 at h1
      simp only [Option.getD_some]
      omega
  have hup := hall p o0
  have hul := hall line o1
  clear hall
  have hlm : line.length ≤ maxLen := (Kd.C_max hr1)
  have HA : ∀ W, Aside0 _ := fun W => ⟨alive_calls (w := W)⟩
  have HR := Aside0.mk (And.intro hr0 (And.intro hr1 (And.intro hup hul)))
  have HC : ∀ W, Below w.heap.size w W → Aside0 _ := fun W h => ⟨compile_calls (c := c0) (Kd.C_below hr0 h) hup⟩
  have HF : ∀ (W : World) (v : Value) (base : Nat) (pl : List PTh) (q : Int), line.length ≤ 65536 → Below w.heap.size w W → PatO W base v (some pl) → Aside0 _ := fun W v base pl q hn h hp => ⟨find_calls (c := c1) (from_ := q) (Kd.C_below hr1 h) hul (by omega) hc1 hp⟩
  have HL : ∀ (W : World) (v : Value) (base : Nat) (pl : List PTh), line.length ≤ 65536 → Below w.heap.size w W → PatO W base v (some pl) → Aside0 _ := fun W v base pl hn h hp => ⟨all_calls (c := c1) (Kd.C_below hr1 h) hul (by omega) hc1 hp⟩
  clear hr0 hr1 hup hul o0 o1
  go_enter Try.func7, Try.ntmps7
  have HB0 := Aside0.mk (Below.refl w.heap.size w)
  rcases compileV_or p with ⟨pl, hcv⟩ | ⟨a, e, hcv, he⟩
  · simp only [hcv] at HC
    by_cases hn : line.length ≤ 65536
    · have hd : decide ((65536 : Int) < (line.length : Int)) = false := decide_eq_false (by omega)
      go_wp2_with (first
        | (go_at_call 8; (with_reducible refine (HA _).out.mono ?_); rintro e w1 ⟨rfl, hx⟩; have H1 := Aside0.mk hx; clear hx)
        | (go_at_call 9; (with_reducible refine (HC _ H1.out).out.mono ?_); rintro e w3 ⟨v, rfl, hx, hp⟩; have H3 := Aside0.mk (And.intro (below_step H1.out hx) hp); clear hx hp H1)
        | (go_at_call 13; (with_reducible refine (HL _ _ _ _ hn H3.out.1 H3.out.2).out.mono ?_); rintro e w4 ⟨v4, rfl, hx, hp⟩; have H4 := Aside0.mk (And.intro (below_step H3.out.1 hx) (And.intro (PatO_below H3.out.2 hx) hp)); clear hx hp H3))
      obtain ⟨A8, c8, e8⟩ := Kd.R_slice H4.out.2.2
      subst e8
      have HK := Aside0.mk (show (allV line pl).drop 0 = allE (endsV line pl) (line.length + 2) ((0 : Nat) : Int) from rfl)
      have hll : (allV line pl).length ≤ line.length + 1 := all_len (line.length + 2) 0 (by omega)
      generalize allV line pl = l at H4 HK hll
      clear HC HL hd hcv HB0
      go_loopw [9, 10] (fun v9 v10 wl => ∃ (i k d : Nat), i ≤ l.length ∧ k ≤ line.length + 1 ∧ line.length + 1 < k + d ∧ v9 = .int .i64 k ∧ v10 = .int .i64 i ∧ Aside0 (Below w.heap.size w wl ∧ PatO wl w1.heap.size v (some pl) ∧ kP.R 41 wl w3.heap.size (fun _ => True) (.slice A8 l.length c8) l ∧ l.drop i = allE (endsV line pl) d (k : Int))) (fun _ v10 _ => l.length - (intOf v10).toNat)
      case atStart => exact ⟨0, 0, line.length + 2, by omega, by omega, by omega, rfl, rfl, ⟨H4.out.1, H4.out.2.1, H4.out.2.2, HK.out⟩⟩
      case round =>
        obtain ⟨i, k, d, hi, hk, hd, rfl, rfl, HI⟩ := hrel
        clear H4 HK
        have HQ := HF wr v _ pl k hn HI.out.1 HI.out.2.1
        clear HF
        by_cases hlt : i < l.length
        · have hd1 : decide ((i : Int) < (l.length : Int)) = true := decide_eq_true (by omega)
          obtain ⟨a, b, e1, e2, h1, h2, h3, h4⟩ := all_at HI.out.2.2.2 hk hd hlt
          have HK := Aside0.mk h4
          clear h4
          obtain ⟨ad, rfl, ca, cb⟩ := kP_at (Kd.R_reads' HI.out.2.2.1).2.2 hlt
          rw [e1] at ca cb
          rw [e2] at HQ
          clear e1 e2
          simp only at ca cb HQ
          have d2 : decide ((a : Int) < (k : Int)) = false := decide_eq_false (by omega)
          have d3 : decide ((b : Int) < (a : Int)) = false := decide_eq_false (by omega)
          have d4 : decide ((line.length : Int) < (b : Int)) = false := decide_eq_false (by omega)
          have q1 : (0 ≤ (i : Int)) = True := eq_true (by omega)
          have q2 : ((i : Int) < (l.length : Int)) = True := eq_true (by omega)
          have qe := eq2
          by_cases hab : a = b
          · have d5 : ((a : Int) == (b : Int)) = true := by simp [hab]
            clear hab
            go_wp2_with (go_at_call 11; (with_reducible refine HQ.out.mono ?_); rintro e w5 ⟨rfl, hx⟩; have ca5 := pw_cell_below hx ca; have cb5 := pw_cell_below hx cb; have H5 := Aside0.mk hx; clear hx)
            go_roundw
            case rel => exact ⟨i + 1, b + 1, d - 1, by omega, by omega, by omega, by congr 1, by congr 1, ⟨below_step HI.out.1 H5.out, PatO_below HI.out.2.1 H5.out, Kd.R_below HI.out.2.2.1 H5.out, by have h := HK.out; have e : a = b := (by have q := eq_of_beq d5; omega); rwa [show max b (a + 1) = b + 1 from by omega] at h⟩⟩
            case measure => simp [intOf]; omega
          · have d5 : ((a : Int) == (b : Int)) = false := beq_eq_false_iff_ne.mpr (by omega)
            go_wp2_with (go_at_call 11; (with_reducible refine HQ.out.mono ?_); rintro e w5 ⟨rfl, hx⟩; have ca5 := pw_cell_below hx ca; have cb5 := pw_cell_below hx cb; have H5 := Aside0.mk hx; clear hx)
            go_roundw
            case rel => exact ⟨i + 1, b, d - 1, by omega, by omega, by omega, rfl, by congr 1, ⟨below_step HI.out.1 H5.out, PatO_below HI.out.2.1 H5.out, Kd.R_below HI.out.2.2.1 H5.out, by have h := HK.out; rwa [show max b (a + 1) = b from by omega] at h⟩⟩
            case measure => simp [intOf]; omega
        · have hd1 : decide ((i : Int) < (l.length : Int)) = false := decide_eq_false (by omega)
          have e2 := all_end HI.out.2.2.2 hk hd (by omega)
          rw [e2] at HQ
          simp only at HQ
          go_wp2_with (go_at_call 11; (with_reducible refine HQ.out.mono ?_); rintro e w5 ⟨rfl, hx⟩; have H5 := Aside0.mk hx; clear hx)
          refine bodyPost_ret (v := .bool (decide ((l.length : Int) ≤ (line.length : Int) + 1))) (by simp [results, Try.results7, go_sem]) rfl ⟨?_, below_step HI.out.1 H5.out⟩
          rw [decide_eq_true (show (l.length : Int) ≤ (line.length : Int) + 1 by omega)]
    · have hd : decide ((65536 : Int) < (line.length : Int)) = true := decide_eq_true (by omega)
      go_wp2_with (first
        | (go_at_call 8; (with_reducible refine (HA _).out.mono ?_); rintro e w1 ⟨rfl, hx⟩; have H1 := Aside0.mk hx; clear hx)
        | (go_at_call 9; (with_reducible refine (HC _ H1.out).out.mono ?_); rintro e w3 ⟨v, rfl, hx, hp⟩; have H3 := Aside0.mk (And.intro (below_step H1.out hx) hp); clear hx hp H1))
      exact bodyPost_ret (v := .bool true) (by simp [results, Try.results7, go_sem]) rfl ⟨rfl, H3.out.1⟩
  · simp only [hcv] at HC
    clear HF HL hcv
    rcases he with rfl | rfl
    all_goals
      go_wp2_with (first
        | (go_at_call 8; (with_reducible refine (HA _).out.mono ?_); rintro e w1 ⟨rfl, hx⟩; have H1 := Aside0.mk hx; clear hx)
        | (go_at_call 9; (with_reducible refine (HC _ H1.out).out.mono ?_); rintro e w3 ⟨v, rfl, hx, rfl⟩; have H3 := Aside0.mk (below_step H1.out hx); clear hx))
      exact bodyPost_ret (v := .bool true) (by simp [results, Try.results7, go_sem]) rfl ⟨rfl, H3.out⟩
end Go.Proofs.Ytlbijhlbllolhaa.WalkPatternRises
