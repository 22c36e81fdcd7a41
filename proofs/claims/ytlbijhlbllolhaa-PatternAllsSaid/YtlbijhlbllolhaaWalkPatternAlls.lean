/-
  PatternAlls: the walk.
-/
import Derived.Test.YtlbijhlbllolhaaRTC
import Derived.Test.YtlbijhlbllolhaaXS
namespace Go.Proofs.Ytlbijhlbllolhaa.WalkPatternAlls
open Go.RowKit Go.Proofs.YtlbijhlbllolhaaW.PrintWords Go.Proofs.YtlbijhlbllolhaaW.PrintMore Go.Proofs.Ytlbijhlbllolhaa.X Go.Proofs.Ytlbijhlbllolhaa.XO Go.Proofs.Ytlbijhlbllolhaa.PT
set_option linter.unusedVariables false
theorem compileV_or2 (p : List Int) : (∃ pl, compileV p = (some pl, 0, 0)) ∨ ∃ a e, compileV p = (none, a, e) ∧ (e = 1 ∨ e = 110) := by
  unfold compileV
  split
  · exact .inr ⟨_, _, rfl, .inl rfl⟩
  · split
    · exact .inr ⟨_, _, rfl, .inr rfl⟩
    · exact .inl ⟨_, rfl⟩
theorem add0 (g n : Nat) : (⟨g, 0, none⟩ : Addr).add n = ⟨g, n, none⟩ := by
  simp only [Addr.add]
  split <;> simp_all
theorem infoS : (Try.prog.info? 41).map (·.size) = some 2 := by kernel_rfl
theorem all_none {w : World} {A : Option Addr} {n c : Nat} : Calls Try.prog 13 #[.pointer none, .slice A n c] w fun e w' => e = .returned (.slice none 0 0) ∧ Below w.heap.size w w' := by
  go_enter Try.func13, Try.ntmps13
  go_wp2
  exact bodyPost_ret (v := .slice none 0 0) (by simp [results, Try.results13, go_sem]) rfl ⟨rfl, Below.refl _ _⟩
set_option maxHeartbeats 4000000 in
set_option maxRecDepth 100000 in
theorem walk (A0 : Option Addr) (c0 : Nat) (p : List Int) (A1 : Option Addr) (c1 : Nat) (line : List Int) (w : World) (hr0 : Kd.C (Kd.int .u8) w A0 p.length p) (hc0 : p.length ≤ c0) (hr1 : Kd.C (Kd.int .u8) w A1 line.length line) (hc1 : line.length ≤ c1) (o0 : (okSl 1 okU8) p) (o1 : (okSl 1 okU8) line) :
    Calls Try.prog 5 #[.slice A0 p.length c0, .slice A1 line.length c1] w fun e w' => e = .returned (.bool true) ∧ Below w.heap.size w w' := by
  have hall : ∀ l : List Int, okSl 1 okU8 l → ∀ i, 0 ≤ rd l i ∧ rd l i ≤ 255 := by
    intro l h i
    unfold rd
    rw [List.getD_eq_getElem?_getD]
    cases e : l[i.toNat]? with
    | none => simp
    | some x =>
      have h1 := h.2 x (List.mem_of_getElem? e)
      unfold okU8 at h1
      simp only [Option.getD_some]
      omega
  have hup := hall p o0
  have hul := hall line o1
  clear hall
  have hlm : line.length ≤ maxLen := (Kd.C_max hr1)
  have HA : ∀ W, Aside0 _ := fun W => ⟨alive_calls (w := W)⟩
  have HC : ∀ W, Below w.heap.size w W → Aside0 _ := fun W h => ⟨compile_calls (c := c0) (Kd.C_below hr0 h) hup⟩
  have HW : ∀ (W : World), line.length ≤ 65536 → Below w.heap.size w W → Aside0 _ := fun W hn h => ⟨rAll_calls (c0 := c0) (c := c1) (Kd.C_below hr0 h) hup (Kd.C_below hr1 h) hc1 (by omega) hul⟩
  have HL : ∀ (W : World) (v : Value) (base : Nat) (pl : List PTh), line.length ≤ 65536 → Below w.heap.size w W → PatO W base v (some pl) → Aside0 _ := fun W v base pl hn h hp => ⟨all_calls (c := c1) (Kd.C_below hr1 h) hul (by omega) hc1 hp⟩
  clear hr0 hr1 hup hul o0 o1
  go_enter Try.func5, Try.ntmps5
  rcases compileV_or2 p with ⟨pl, hcv⟩ | ⟨a, e, hcv, he⟩
  · have HRV := Aside0.mk (show rallV p line = allV line pl by unfold rallV; rw [hcv])
    simp only [hcv] at HC
    by_cases hn : line.length ≤ 65536
    · have hd : decide ((65536 : Int) < (line.length : Int)) = false := decide_eq_false (by omega)
      have hll : (allV line pl).length ≤ line.length + 1 := all_len (line.length + 2) 0 (by omega)
      rw [HRV.out] at HW
      have HL : ∀ (W : World) (v : Value) (base : Nat), line.length ≤ 65536 → Below w.heap.size w W → PatO W base v (some pl) → Aside0 _ := fun W v base => HL W v base pl
      clear HRV
      generalize allV line pl = l at HW HL hll
      have HS : ∀ (W : World) (A B : Option Addr) (c c' : Nat), kP.C W A l.length l → kP.C W B l.length l → Aside0 (Calls Try.prog 15 #[.slice A l.length c, .slice B l.length c'] W fun e w' => e = .returned (.bool true) ∧ Below W.heap.size W w') := fun W A B c c' h1 h2 => by
        have h := same_calls (c := c) (c' := c') h1 h2 (by omega) (by omega)
        rw [decide_eq_true (rfl : l = l)] at h
        exact ⟨h⟩
      go_upto_region 12 with (first
        | (go_at_call 8; (with_reducible refine (HA _).out.mono ?_); rintro e w1 ⟨rfl, hx⟩; have H1 := Aside0.mk hx; clear hx)
        | (go_at_call 9; (with_reducible refine (HC _ H1.out).out.mono ?_); rintro e w3 ⟨v, rfl, hx, hp⟩; have H3 := Aside0.mk (And.intro (below_step H1.out hx) hp); clear hx hp)
        | (go_at_call 14; (with_reducible refine (HW _ hn H3.out.1).out.mono ?_); rintro e w4 ⟨v4, rfl, hx, hp⟩; obtain ⟨A4, c4, rfl⟩ := Kd.R_slice hp; have H4 := Aside0.mk (And.intro (below_step H3.out.1 hx) (And.intro (PatO_below H3.out.2 hx) (Kd.R_reads' hp).2.2)); clear hx hp H3)
        | (go_at_call 13; (with_reducible refine (HL _ _ _ hn (H4.out.1) H4.out.2.1).out.mono ?_); rintro e w5 ⟨v5, rfl, hx, hp⟩; obtain ⟨A5, c5, rfl⟩ := Kd.R_slice hp; have H5 := Aside0.mk (And.intro hx hp); clear hx hp)
        | (go_at_call 13; (with_reducible refine (HL _ _ _ hn (below_step H4.out.1 H5.out.1) (PatO_below H4.out.2.1 H5.out.1)).out.mono ?_); rintro e w6 ⟨v6, rfl, hx, hp⟩; obtain ⟨A6, c6, rfl⟩ := Kd.R_slice hp; have H6 := Aside0.mk (And.intro hx hp); clear hx hp)
        | (go_at_call 15; (with_reducible refine (HS _ _ _ _ _ (Kd.R_reads' (Kd.R_below H5.out.2 H6.out.1)).2.2 (Kd.C_below (Kd.C_below H4.out.2.2 H5.out.1) H6.out.1)).out.mono ?_); rintro e w7 ⟨rfl, hx⟩; have H7 := Aside0.mk hx; clear hx)
        | (go_at_call 15; (with_reducible refine (HS _ _ _ _ _ (Kd.C_below (Kd.R_reads' H6.out.2).2.2 H7.out) (Kd.C_below (Kd.C_below (Kd.C_below H4.out.2.2 H5.out.1) H6.out.1) H7.out)).out.mono ?_); rintro e w8 ⟨rfl, hx⟩; have H8 := Aside0.mk hx; clear hx))
      have HI := Aside0.mk (show Below w4.heap.size w4 w8 ∧ kP.R 41 w8 w5.heap.size (fun k => w5.heap.size ≤ k ∧ k < w6.heap.size) (.slice A6 l.length c6) l ∧ kP.R 41 w8 w4.heap.size (fun k => k < w5.heap.size ∨ w6.heap.size ≤ k) (.slice A5 l.length c5) l ∧ w6.heap.size ≤ w8.heap.size from
        ⟨below_step (below_step (below_step H5.out.1 H6.out.1) H7.out) H8.out, Kd.R_below (Kd.R_below (Kd.R_mono (Kd.R_bound H6.out.2) (fun k hk => ⟨hk.2.1, hk.2.2.1⟩)) H7.out) H8.out, Kd.R_below (Kd.R_below (Kd.R_below (Kd.R_mono (Kd.R_bound H5.out.2) (fun k hk => .inl hk.2.2.1)) H6.out.1) H7.out) H8.out, by have h1 := H7.out.size; have h2 := H8.out.size; omega⟩)
      clear H5 H6 H7 H8 HA HC HW
      generalize w5.heap.size = b5 at HI
      generalize w6.heap.size = b6 at HI
      go_wp2
      go_loopw [11] (fun v11 wl => ∃ (i : Nat) (xs : List (Int × Int)), i ≤ l.length ∧ v11 = .int .i64 i ∧ xs.length = l.length ∧ Aside0 (Below w4.heap.size w4 wl ∧ kP.R 41 wl b5 (fun k => b5 ≤ k ∧ k < b6) (.slice A6 l.length c6) l ∧ kP.R 41 wl w4.heap.size (fun k => k < b5 ∨ b6 ≤ k) (.slice A5 l.length c5) xs ∧ b6 ≤ wl.heap.size)) (fun v11 _ => l.length - (intOf v11).toNat)
      case atStart => exact ⟨0, l, by omega, rfl, rfl, HI⟩
      case round =>
        obtain ⟨i, xs, hi, rfl, hxs, HQ⟩ := hrel
        clear HI
        by_cases lt : i < l.length
        · have q0 : decide (i < l.length) = true := decide_eq_true lt
          have q1 : (0 ≤ (i : Int)) = True := eq_true (by omega)
          have q2 : ((i : Int) < (l.length : Int)) = True := eq_true (by omega)
          have HR := HQ.out.2.2.1
          rw [← hxs] at HR
          obtain ⟨g, cap, hv, hg, hgl, cells, hgc⟩ := Kd.R_form HR (by omega)
          injection hv with hv1 _ hv3
          subst hv1 hv3
          obtain ⟨ad, ead, ca, cb⟩ := kP_at (Kd.R_reads' HR).2.2 (show i < xs.length by omega)
          injection ead with ead
          subst ead
          have HRg := Aside0.mk HR
          have HN := Aside0.mk hxs
          rw [hxs] at HRg
          rw [add0] at ca cb
          have HOf := Aside0.mk (show i * 2 = (i : Int).toNat * kP.sz + 0 from by show i * 2 = (i : Int).toNat * 2 + 0; omega)
          have HCC := Aside0.mk (show ∀ (j : Nat) (u : Value), [Value.int .i64 (xs.getD i (0, 0)).1, Value.int .i64 (xs.getD i (0, 0)).2][j]? = some u → wr.cell? ⟨g, (i : Int).toNat * kP.sz + j, none⟩ = some u from by
            intro j u hu
            have e0 : (i : Int).toNat * kP.sz = i * 2 := by show (i : Int).toNat * 2 = i * 2; omega
            rw [e0]
            rcases j with _ | _ | j
            · injection hu with hu
              subst hu
              exact ca
            · injection hu with hu
              subst hu
              exact cb
            · simp at hu)
          have HW9 := Aside0.mk (HRg.out.1 g rfl)
          clear HR hgc hgl hg hxs ca cb
          go_wp2_with ((with_reducible refine gate_ (.store 41 (.tmp 63) (.tmp 62)) rfl ?_); refine Kd.R_store kP (w0 := w4) w4.heap.size rfl rfl 41 (.tmp 63) (.tmp 62) rfl 41 (i : Int) 0 xs (-1, -1) (.agg #[.int .i64 (-1), .int .i64 (-1)]) [.int .i64 (-1), .int .i64 (-1)] [.int .i64 (xs.getD i (0, 0)).1, .int .i64 (xs.getD i (0, 0)).2] (fun k => k < b5 ∨ b6 ≤ k) (fun _ => False) rfl HOf.out rfl rfl infoS (by intro q hq; simp at hq; subst hq; rfl) HRg.out (by omega) (by omega) rfl HCC.out (by decide) (kP_M _ _ _ _ _) (fun _ hk => hk.elim) HQ.out.1 ?_; intro w9 hR hB hG; have HZ := Aside0.mk (And.intro hB (And.intro (Kd.R_grown HQ.out.2.1 hG (fun k hk e => by injection e with e; subst e; have h9 := HW9.out; omega)) (And.intro hR (Nat.le_trans HQ.out.2.2.2 hG.size)))); clear hR hB hG)
          go_roundw
          case rel => exact ⟨i + 1, _, by omega, by congr 1, by have := HN.out; simpa using this, HZ⟩
          case measure => simp [intOf]; omega
        · have q0 : decide (i < l.length) = false := decide_eq_false lt
          clear lt hi
          go_wp2
          go_loopw [9, 12] (fun v9 v12 wl => ∃ (j : Nat) (ys : List (Int × Int)), j ≤ 10 ∧ v12 = .int .i64 j ∧ ys.length = l.length + j ∧ Aside0 (Below w4.heap.size w4 wl ∧ kP.R 41 wl b5 (fun k => b5 ≤ k ∧ k < b6) (.slice A6 l.length c6) l ∧ kP.R 41 wl w4.heap.size (fun k => k < b5 ∨ b6 ≤ k) v9 ys ∧ b6 ≤ wl.heap.size)) (fun _ v12 _ => 10 - (intOf v12).toNat)
          case atStart => exact ⟨0, xs, by omega, rfl, by omega, HQ⟩
          case round =>
            obtain ⟨j, ys, hj, rfl, hys, HY⟩ := hrel
            clear HQ hxs
            obtain ⟨A9, c9, e9⟩ := Kd.R_slice HY.out.2.2.1
            subst e9
            by_cases lt2 : j < 10
            · have q2 : decide ((j : Int) < 10) = true := decide_eq_true (by omega)
              have HN := Aside0.mk hys
              go_wp2_with (at_builtin; refine Kd.R_append kP (w0 := w4) w4.heap.size rfl (.tmp 68) (.tmp 70) 37 41 (.agg #[.int .i64 0, .int .i64 0]) 16 rfl Try.underlying37 infoP rfl (by decide) (by omega) (.slice A9 ys.length c9) ys (-2, -2) [.int .i64 (-2), .int .i64 (-2)] (fun k => k < b5 ∨ b6 ≤ k) (fun _ => False) rfl rfl (kP_M _ _ _ _ _) (fun _ hk => hk.elim) (fun k hk => .inr (Nat.le_trans HY.out.2.2.2 hk)) HY.out.2.2.1 HY.out.1 HY.out.1.size (by omega) ?_; intro v9 w9 hR hB hG hat; have HZ := Aside0.mk (And.intro hB (And.intro (Kd.R_grown HY.out.2.1 hG (fun k hk e => by have h9 := HY.out.2.2.1.1 k e.symm; omega)) (And.intro hR (Nat.le_trans HY.out.2.2.2 hG.size)))); clear hR hB hG hat)
              go_roundw
              case rel => exact ⟨j + 1, _, by omega, by congr 1, by have := HN.out; simp only [List.length_append, List.length_singleton]; omega, HZ⟩
              case measure => simp [intOf]; omega
            · have q2 : decide ((j : Int) < 10) = false := decide_eq_false (by omega)
              have q4 : ((ys.length : Int) == (l.length : Int) + 10) = true := by
                rw [beq_iff_eq]
                omega
              clear hys lt2
              go_wp2_with (first
                | (go_at_call 15; (with_reducible refine (HS _ _ _ _ _ (Kd.R_reads' HY.out.2.1).2.2 (Kd.C_below H4.out.2.2 HY.out.1)).out.mono ?_); rintro e w10 ⟨rfl, hx⟩; have H10 := Aside0.mk (below_step HY.out.1 hx); clear hx)
                | (go_at_call 13; (with_reducible refine (HL _ _ _ hn (below_step H4.out.1 H10.out) (PatO_below H4.out.2.1 H10.out)).out.mono ?_); rintro e w11 ⟨v11, rfl, hx, hp⟩; obtain ⟨A11, c11, rfl⟩ := Kd.R_slice hp; have H11 := Aside0.mk (And.intro (below_step H10.out hx) hp); clear hx hp)
                | (go_at_call 15; (with_reducible refine (HS _ _ _ _ _ (Kd.R_reads' H11.out.2).2.2 (Kd.C_below H4.out.2.2 H11.out.1)).out.mono ?_); rintro e w12 ⟨rfl, hx⟩; have H12 := Aside0.mk (below_step H11.out.1 hx); clear hx))
              exact bodyPost_ret (v := .bool true) (by simp [results, Try.results5, go_sem]) rfl ⟨rfl, below_step H4.out.1 H12.out⟩
    · have hd : decide ((65536 : Int) < (line.length : Int)) = true := decide_eq_true (by omega)
      go_wp2_with (first
        | (go_at_call 8; (with_reducible refine (HA _).out.mono ?_); rintro e w1 ⟨rfl, hx⟩; have H1 := Aside0.mk hx; clear hx)
        | (go_at_call 9; (with_reducible refine (HC _ H1.out).out.mono ?_); rintro e w3 ⟨v, rfl, hx, hp⟩; have H3 := Aside0.mk (And.intro (below_step H1.out hx) hp); clear hx hp H1))
      exact bodyPost_ret (v := .bool true) (by simp [results, Try.results5, go_sem]) rfl ⟨rfl, H3.out.1⟩
  · simp only [hcv] at HC
    clear HL hcv HW
    have HAN : ∀ W, Aside0 _ := fun W => ⟨all_none (w := W) (A := A1) (n := line.length) (c := c1)⟩
    rcases he with rfl | rfl
    all_goals
      go_wp2_with (first
        | (go_at_call 8; (with_reducible refine (HA _).out.mono ?_); rintro e w1 ⟨rfl, hx⟩; have H1 := Aside0.mk hx; clear hx)
        | (go_at_call 9; (with_reducible refine (HC _ H1.out).out.mono ?_); rintro e w3 ⟨v, rfl, hx, rfl⟩; have H3 := Aside0.mk (below_step H1.out hx); clear hx)
        | (go_at_call 13; (with_reducible refine (HAN _).out.mono ?_); rintro e w4 ⟨rfl, hx⟩; have H4 := Aside0.mk (below_step H3.out hx); clear hx))
      exact bodyPost_ret (v := .bool true) (by simp [results, Try.results5, go_sem]) rfl ⟨rfl, H4.out⟩
end Go.Proofs.Ytlbijhlbllolhaa.WalkPatternAlls
