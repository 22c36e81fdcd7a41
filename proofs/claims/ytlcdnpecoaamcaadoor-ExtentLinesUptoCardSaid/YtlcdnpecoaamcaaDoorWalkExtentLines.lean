/-
  ExtentLines: the walk.
  Conditions: what comes in is of bulk at most 1048576.
-/
import Derived.Test.YtlcdnpecoaamcaaDoorEL
import Derived.Test.YtlcdnpecoaamcaaDoorXS
import Derived.Lib.Hide
namespace Go.Proofs.YtlcdnpecoaamcaaDoor.WalkExtentLines
open Go.RowKit Go.Proofs.YtlcdnpecoaamcaaDoorW.PrintWords Go.Proofs.YtlcdnpecoaamcaaDoorW.PrintLast Go.Proofs.YtlcdnpecoaamcaaDoorW.PrintMore Go.Proofs.YtlcdnpecoaamcaaDoor.X Go.Proofs.YtlcdnpecoaamcaaDoor.XL Go.Proofs.YtlcdnpecoaamcaaDoor.XO Go.Proofs.YtlcdnpecoaamcaaDoor.TK Go.Proofs.YtlcdnpecoaamcaaDoor.LN Go.Proofs.YtlcdnpecoaamcaaDoor.EL
set_option linter.unusedVariables false
set_option linter.unusedSimpArgs false
theorem infoB : (Tryd.prog.info? 5).map (fun i => (i.zero, i.size, i.bytes)) = some (some (.int .u8 0), 1, 1) := by kernel_rfl
theorem empty_R (w : World) : (Kd.int .u8).R 5 (w.alloc (.cells #[] 5)) w.heap.size (fun _ => True) (.slice (some ⟨w.heap.size, 0, none⟩) 0 0) [] := Kd.R_of_own (enc := Value.int .u8) (h1 := fun _ => rfl) ⟨rfl, .inr ⟨w.heap.size, 0, #[], rfl, Nat.le_refl _, heap_alloc_new w _, Nat.le_refl _, by simp [maxLen], rfl, rfl⟩⟩ (fun _ _ => trivial)
theorem u8_C {w : World} {b : Nat} {xs : List Int} {fr : Nat × Nat} (h : w.heap[b]? = some (.cells (xs.map (Value.int .u8)).toArray 5 fr)) (hl : xs.length ≤ 281474976710656) : Kd.C (Kd.int .u8) w (some ⟨b, 0, none⟩) xs.length xs := by
  refine Kd.C_of_reads (enc := Value.int .u8) (d := (0 : Int)) (h1 := fun _ => rfl) ⟨rfl, by omega, fun _ => ⟨_, rfl, fun j hj => ?_⟩⟩
  have h1 : w.cell? ⟨b, j, none⟩ = some (.int .u8 (xs.getD j 0)) := (cell_of_row w b j _ _ _ h).trans (by rw [List.getD_eq_getElem?_getD]; simp [hj])
  cases j with
  | zero => simpa [Addr.add] using h1
  | succ j => simpa [Addr.add] using h1
/-- A line of the split, in memory. -/
theorem line_of {w : World} {A : Option Addr} {n : Nat} {ls : List (List Int)} (h : (Kd.slice 5 (Kd.int .u8)).C w A n ls) {i : Nat} (hi : i < n) : ∃ ad A' c', A = some ad ∧ w.cell? (ad.add i) = some (.slice A' (ls.getD i []).length c') ∧ (ls.getD i []).length ≤ c' ∧ Kd.C (Kd.int .u8) w A' (ls.getD i []).length (ls.getD i []) := by
  obtain ⟨ad, c, rfl, hc, hk, hcc⟩ := Kd.C_get h [] (i : Int) (by omega) (by omega)
  rw [Int.toNat_natCast] at hk hcc
  obtain ⟨A', c', rfl, e0, e1⟩ := hk
  refine ⟨ad, A', c', rfl, ?_, e0, e1⟩
  have h2 := hcc 0 _ rfl
  simpa [Kd.slice] using h2
theorem lnN_sub (rows : List (List Int)) (a k : Nat) : (lnN ((rows.drop a).take k)).length ≤ (lnN rows).length := by
  have h1 : rows = rows.take a ++ ((rows.drop a).take k ++ (rows.drop a).drop k) := by rw [List.take_append_drop, List.take_append_drop]
  conv => rhs; rw [h1]
  rw [lnN_app, lnN_app, List.length_append, List.length_append]
  omega
theorem lnN_all (t : List Int) : (lnN (splitR t)).length = t.length + 1 := by rw [lnN_jn (splitR_ne t), jn_split, List.length_append]; rfl
theorem row_le (rows : List (List Int)) (i : Nat) : (rows.getD i []).length ≤ (lnN rows).length := by
  by_cases h : i < rows.length
  · have h1 := lnN_sub rows i 1
    have h2 : (rows.drop i).take 1 = [rows.getD i []] := by rw [List.drop_eq_getElem_cons h, List.getD_eq_getElem?_getD, List.getElem?_eq_getElem h]; rfl
    rw [h2, lnN_len] at h1
    omega
  · rw [List.getD_eq_getElem?_getD, List.getElem?_eq_none (by omega)]
    exact Nat.zero_le _
theorem oth_len (rows : List (List Int)) (a b i : Nat) : (jn (othV rows a b i)).length ≤ 2 * (lnN rows).length := by
  refine Nat.le_trans (jn_len _) ?_
  unfold othV
  rw [lnN_app, List.length_append, List.drop_take]
  have h1 := lnN_sub rows 0 (min i a)
  rw [List.drop_zero] at h1
  have h2 := lnN_sub rows (b + 1) (i - (b + 1))
  omega
theorem oth_cnt (rows : List (List Int)) (a b i : Nat) : (othV rows a b i).length ≤ 2 * rows.length := by
  unfold othV
  rw [List.length_append, List.length_take, List.length_drop, List.length_take]
  omega
theorem want_step {rows : List (List Int)} {a i : Nat} (h : a ≤ i) (hi : i < rows.length) : lnN ((rows.drop a).take (i + 1 - a)) = lnN ((rows.drop a).take (i - a)) ++ rows.getD i [] ++ [10] := by
  have h1 : (rows.drop a).getD (i - a) [] = rows.getD i [] := by
    rw [List.getD_eq_getElem?_getD, List.getD_eq_getElem?_getD, List.getElem?_drop, show a + (i - a) = i from by omega]
  rw [show i + 1 - a = (i - a) + 1 from by omega, take_row (by rw [List.length_drop]; omega), lnN_snoc, h1, List.append_assoc]
set_option maxHeartbeats 16000000 in
set_option maxRecDepth 100000 in
theorem walk (A0 : Option Addr) (c0 : Nat) (l0 : List Int) (a1 : Int) (a2 : Int) (w : World) (hr0 : Kd.C (Kd.int .u8) w A0 l0.length l0) (hc0 : l0.length ≤ c0) (o0 : (okSl 1 okU8) l0) (o1 : okI64 a1) (o2 : okI64 a2) (hb : ((szSl szOne) l0 + szOne a1 + szOne a2 ≤ 1048576)) :
    Calls Tryd.prog 3 #[.slice A0 l0.length c0, .int .i64 a1, .int .i64 a2] w fun e w' => e = .returned (.bool true) ∧ Below w.heap.size w w' := by
  have hl0 : l0.length ≤ 1048576 := by have h1 := szSl_length (szOne (α := Int)) (fun _ => Nat.le_refl _) l0; omega
  have hu : u8s l0 = true := u8s_ok o0
  have HA : Aside0 (∀ W : World, Calls Tryd.prog 4 #[] W fun e w' => e = .returned (.bool true) ∧ Below W.heap.size W w') := by
    obtain ⟨k, h⟩ := alive_ev
    exact ⟨fun W => quoinlaw14_alive.calls k true W (h k (Nat.le_refl _))⟩
  have HSP := Aside0.mk (fun (W : World) (h : Below w.heap.size w W) => lines_Split.calls A0 c0 l0 (splitR l0) W (Kd.C_below hr0 h) hc0 (by unfold lines_Split.f; rw [if_pos hu, if_pos (by omega)]))
  obtain ⟨kw, hWE⟩ := Whole_ev hu hl0 a1 a2 o1.2 o2.2
  have hWE := hWE kw (Nat.le_refl _)
  have hn0 : 0 < (splitR l0).length := by
    cases e : splitR l0 with
    | nil => exact absurd e (splitR_ne l0)
    | cons p r => simp
  have hns := split_size l0
  by_cases hg : a1 < 0 ∨ a2 < a1 ∨ ((splitR l0).length : Int) ≤ a2
  · rw [show wholeV l0 a1 a2 = (0, 0, false, false, 2) from if_pos hg] at hWE
    have HWH := Aside0.mk (fun (W : World) (h : Below w.heap.size w W) => extent_Whole.calls kw A0 c0 l0 a1 a2 0 0 false false 2 W (Kd.C_below hr0 h) hc0 hWE)
    generalize splitR l0 = rows at HSP hg hn0 hns
    have hcase : (a1 < 0) = True ∨ ((a1 < 0) = False ∧ (a2 < a1) = True) ∨ ((a1 < 0) = False ∧ (a2 < a1) = False ∧ ((rows.length : Int) ≤ a2) = True) := by
      by_cases g1 : a1 < 0
      · exact .inl (eq_true g1)
      · by_cases g2 : a2 < a1
        · exact .inr (.inl ⟨eq_false g1, eq_true g2⟩)
        · exact .inr (.inr ⟨eq_false g1, eq_false g2, eq_true (by omega)⟩)
    clear hg hWE hr0 hu o0 o1 o2 hb
    rcases hcase with g1 | ⟨g1, g2⟩ | ⟨g1, g2, g3⟩
    · skip
      go_enter Tryd.func3, Tryd.ntmps3
      go_wp2_with (first
        | (go_at_call 4; (with_reducible refine (HA.out _).mono ?_); rintro e w1 ⟨rfl, hx⟩; have H1 := Aside0.mk hx; clear hx)
        | (go_at_call 5; (with_reducible refine (HSP.out _ H1.out).mono ?_); rintro e w2 ⟨vs, rfl, hy1, hy2⟩; have HS := Aside0.mk (And.intro hy1 (below_step H1.out hy2)); clear hy1 hy2; obtain ⟨AS, cS, eS⟩ := Kd.R_slice (Kd.S_R HS.out.1); subst eS)
        | (go_at_call 6; (with_reducible refine (HWH.out _ HS.out.2).mono ?_); rintro e w3 ⟨rfl, hx⟩; have H3 := Aside0.mk (below_alloc (below_step HS.out.2 hx) (.cells #[.int .i64 0, .int .i64 0, .bool false, .bool false] 27)); clear hx; have BN3 := Aside0.mk (blk_new w3 (.cells #[.int .i64 0, .int .i64 0, .bool false, .bool false] 27)); have x0 := (blk_cell BN3.out 0).trans rfl; have x1 := (blk_cell BN3.out 1).trans rfl; have x2 := (blk_cell BN3.out 2).trans rfl; have x3 := (blk_cell BN3.out 3).trans rfl))
      exact bodyPost_ret (v := .bool true) (by simp [results, Tryd.results3, go_sem]) rfl ⟨rfl, H3.out⟩
    · skip
      go_enter Tryd.func3, Tryd.ntmps3
      go_wp2_with (first
        | (go_at_call 4; (with_reducible refine (HA.out _).mono ?_); rintro e w1 ⟨rfl, hx⟩; have H1 := Aside0.mk hx; clear hx)
        | (go_at_call 5; (with_reducible refine (HSP.out _ H1.out).mono ?_); rintro e w2 ⟨vs, rfl, hy1, hy2⟩; have HS := Aside0.mk (And.intro hy1 (below_step H1.out hy2)); clear hy1 hy2; obtain ⟨AS, cS, eS⟩ := Kd.R_slice (Kd.S_R HS.out.1); subst eS)
        | (go_at_call 6; (with_reducible refine (HWH.out _ HS.out.2).mono ?_); rintro e w3 ⟨rfl, hx⟩; have H3 := Aside0.mk (below_alloc (below_step HS.out.2 hx) (.cells #[.int .i64 0, .int .i64 0, .bool false, .bool false] 27)); clear hx; have BN3 := Aside0.mk (blk_new w3 (.cells #[.int .i64 0, .int .i64 0, .bool false, .bool false] 27)); have x0 := (blk_cell BN3.out 0).trans rfl; have x1 := (blk_cell BN3.out 1).trans rfl; have x2 := (blk_cell BN3.out 2).trans rfl; have x3 := (blk_cell BN3.out 3).trans rfl))
      exact bodyPost_ret (v := .bool true) (by simp [results, Tryd.results3, go_sem]) rfl ⟨rfl, H3.out⟩
    · skip
      go_enter Tryd.func3, Tryd.ntmps3
      go_wp2_with (first
        | (go_at_call 4; (with_reducible refine (HA.out _).mono ?_); rintro e w1 ⟨rfl, hx⟩; have H1 := Aside0.mk hx; clear hx)
        | (go_at_call 5; (with_reducible refine (HSP.out _ H1.out).mono ?_); rintro e w2 ⟨vs, rfl, hy1, hy2⟩; have HS := Aside0.mk (And.intro hy1 (below_step H1.out hy2)); clear hy1 hy2; obtain ⟨AS, cS, eS⟩ := Kd.R_slice (Kd.S_R HS.out.1); subst eS)
        | (go_at_call 6; (with_reducible refine (HWH.out _ HS.out.2).mono ?_); rintro e w3 ⟨rfl, hx⟩; have H3 := Aside0.mk (below_alloc (below_step HS.out.2 hx) (.cells #[.int .i64 0, .int .i64 0, .bool false, .bool false] 27)); clear hx; have BN3 := Aside0.mk (blk_new w3 (.cells #[.int .i64 0, .int .i64 0, .bool false, .bool false] 27)); have x0 := (blk_cell BN3.out 0).trans rfl; have x1 := (blk_cell BN3.out 1).trans rfl; have x2 := (blk_cell BN3.out 2).trans rfl; have x3 := (blk_cell BN3.out 3).trans rfl))
      exact bodyPost_ret (v := .bool true) (by simp [results, Tryd.results3, go_sem]) rfl ⟨rfl, H3.out⟩
  · obtain ⟨a, rfl⟩ : ∃ a : Nat, a1 = (a : Int) := ⟨a1.toNat, by omega⟩
    obtain ⟨b, rfl⟩ : ∃ b : Nat, a2 = (b : Int) := ⟨a2.toNat, by omega⟩
    have hab : a ≤ b := by omega
    have hbn : b < (splitR l0).length := by omega
    obtain ⟨F, T, D, hv, hF0, hFT, hTl, htk, hrest⟩ := lines_law hab hbn
    rw [hv] at hWE
    have HWH := Aside0.mk (fun (W : World) (h : Below w.heap.size w W) => extent_Whole.calls kw A0 c0 l0 a b F T true D 0 W (Kd.C_below hr0 h) hc0 hWE)
    obtain ⟨kt, hTE⟩ := ext_ev hl0 F T true D
    have hTE := hTE kt (Nat.le_refl _)
    rw [htk] at hTE
    have HTK := Aside0.mk (fun (W : World) (h : Below w.heap.size w W) => extent_Take.calls kt A0 c0 l0 F T true D true true (lnN (toldV (splitR l0) a b)) 0 W (Kd.C_below hr0 h) hc0 hTE)
    have hall := lnN_all l0
    have HC0 := Aside0.mk (And.intro hr0 hc0)
    clear hg hWE hTE hv htk hu o0 o1 o2 hb hr0
    generalize splitR l0 = rows at HSP HTK hrest hbn hn0 hns hall
    obtain ⟨lb, hlbl⟩ : ∃ lb, (rows.getD b []).length = lb := ⟨_, rfl⟩
    have hcase : ∃ last : Int, ∃ m : Nat, toldV rows a b = (rows.drop a).take m ∧ last + 1 = (a : Int) + m ∧ last ≤ b ∧ ((((a : Int) == 0) = false ∧ last = b) ∨ (((a : Int) == 0) = true ∧ ((b : Int) == (rows.length : Int) - 1) = false ∧ last = b) ∨ (((a : Int) == 0) = true ∧ ((b : Int) == (rows.length : Int) - 1) = true ∧ (0 < b) = False ∧ last = b) ∨ (((a : Int) == 0) = true ∧ ((b : Int) == (rows.length : Int) - 1) = true ∧ (0 < b) = True ∧ ((lb : Int) == 0) = false ∧ last = b) ∨ (((a : Int) == 0) = true ∧ ((b : Int) == (rows.length : Int) - 1) = true ∧ (0 < b) = True ∧ ((lb : Int) == 0) = true ∧ last = (b : Int) - 1)) := by
      unfold toldV
      rw [hlbl]
      by_cases h1 : (a : Int) = 0
      · have e1 : ((a : Int) == 0) = true := beq_iff_eq.2 h1
        by_cases h2 : (b : Int) = (rows.length : Int) - 1
        · have e2 : ((b : Int) == (rows.length : Int) - 1) = true := beq_iff_eq.2 h2
          by_cases h3 : 0 < b
          · by_cases h4 : (lb : Int) = 0
            · exact ⟨(b : Int) - 1, b - a, by rw [if_pos (by omega)], by omega, by omega, .inr (.inr (.inr (.inr ⟨e1, e2, eq_true h3, beq_iff_eq.2 h4, rfl⟩)))⟩
            · exact ⟨b, b - a + 1, by rw [if_neg (by omega)], by omega, by omega, .inr (.inr (.inr (.inl ⟨e1, e2, eq_true h3, beq_eq_false_iff_ne.2 h4, rfl⟩)))⟩
          · exact ⟨b, b - a + 1, by rw [if_neg (by omega)], by omega, by omega, .inr (.inr (.inl ⟨e1, e2, eq_false h3, rfl⟩))⟩
        · exact ⟨b, b - a + 1, by rw [if_neg (by omega)], by omega, by omega, .inr (.inl ⟨e1, beq_eq_false_iff_ne.2 h2, rfl⟩)⟩
      · exact ⟨b, b - a + 1, by rw [if_neg (by omega)], by omega, by omega, .inl ⟨beq_eq_false_iff_ne.2 h1, rfl⟩⟩
    obtain ⟨last, m, htold, hlm, hlb, hcase⟩ := hcase
    rw [htold] at HTK
    clear htold
    have HLB := Aside0.mk hlbl
    clear hlbl
    have g1 : ((a : Int) < 0) = False := eq_false (by omega)
    have g2 : ((b : Int) < (a : Int)) = False := eq_false (by omega)
    have g3 : ((rows.length : Int) ≤ (b : Int)) = False := eq_false (by omega)
    have g4 : (F < 0) = False := eq_false (by omega)
    have g5 : (T < F) = False := eq_false (by omega)
    have g6 : ((l0.length : Int) < T) = False := eq_false (by omega)
    have g7 : (0 ≤ (b : Int)) = True := eq_true (by omega)
    have g8 : ((b : Int) < (rows.length : Int)) = True := eq_true (by omega)
    rcases hcase with ⟨e1, rfl⟩ | ⟨e1, e2, rfl⟩ | ⟨e1, e2, e3, rfl⟩ | ⟨e1, e2, e3, e4, rfl⟩ | ⟨e1, e2, e3, e4, rfl⟩
    · skip
      go_enter Tryd.func3, Tryd.ntmps3
      go_wp2_with (first
        | (go_at_call 4; (with_reducible refine (HA.out _).mono ?_); rintro e w1 ⟨rfl, hx⟩; have H1 := Aside0.mk hx; clear hx)
        | (go_at_call 5; (with_reducible refine (HSP.out _ H1.out).mono ?_); rintro e w2 ⟨vs, rfl, hy1, hy2⟩; have HS := Aside0.mk (And.intro hy1 (below_step H1.out hy2)); clear hy1 hy2; obtain ⟨AS, cS, eS⟩ := Kd.R_slice (Kd.S_R HS.out.1); subst eS; have HK2 := Aside0.mk (Kd.R_reads' (Kd.S_R HS.out.1)).2.2; obtain ⟨ad, _, _, eA, _⟩ := line_of HK2.out hn0; subst eA)
        | (go_at_call 6; (with_reducible refine (HWH.out _ HS.out.2).mono ?_); rintro e w3 ⟨rfl, hx⟩; have H3 := Aside0.mk (below_alloc (below_step HS.out.2 hx) (.cells #[.int .i64 F, .int .i64 T, .bool true, .bool D] 27)); have HK3 := Aside0.mk (Kd.C_alloc (Kd.C_below HK2.out hx) (.cells #[.int .i64 F, .int .i64 T, .bool true, .bool D] 27)); clear hx; have BN3 := Aside0.mk (blk_new w3 (.cells #[.int .i64 F, .int .i64 T, .bool true, .bool D] 27)); have x0 := (blk_cell BN3.out 0).trans rfl; have x1 := (blk_cell BN3.out 1).trans rfl; have x2 := (blk_cell BN3.out 2).trans rfl; have x3 := (blk_cell BN3.out 3).trans rfl)
        | (go_at_call 7; (with_reducible refine (HTK.out _ H3.out).mono ?_); rintro e w4 ⟨v4, rfl, hr, hx⟩; obtain ⟨A4, c4, ev⟩ := Kd.R_slice hr; subst ev; have H4 := Aside0.mk (And.intro (below_alloc (below_step H3.out hx) (.cells #[.bool true, .bool true, .slice A4 (lnN ((rows.drop a).take m)).length c4] 32)) (Kd.R_alloc hr (.cells #[.bool true, .bool true, .slice A4 (lnN ((rows.drop a).take m)).length c4] 32))); have BX4 := Aside0.mk (blk_alloc (blk_below BN3.out hx) (.cells #[.bool true, .bool true, .slice A4 (lnN ((rows.drop a).take m)).length c4] 32)); have BR4 := Aside0.mk (blk_new w4 (.cells #[.bool true, .bool true, .slice A4 (lnN ((rows.drop a).take m)).length c4] 32)); have HK4 := Aside0.mk (Kd.C_alloc (Kd.C_below HK3.out hx) (.cells #[.bool true, .bool true, .slice A4 (lnN ((rows.drop a).take m)).length c4] 32)); clear hx hr; obtain ⟨ad_, Ab, cb, ea, hyb, _, _⟩ := line_of HK4.out hbn; obtain rfl := Option.some.inj ea; rw [HLB.out] at hyb))
      clear hyb
      generalize (w4.alloc (.cells #[.bool true, .bool true, .slice A4 (lnN ((rows.drop a).take m)).length c4] 32)) = W at H4 BX4 BR4 HK4 ⊢
      go_loopg [12, 15] m (fun g v12 v15 wl => ∃ (i : Nat) (v : Value) (W2 : World), i + g = a + m ∧ a ≤ i ∧ v15 = .int .i64 (i : Int) ∧ v = v12 ∧ W2 = wl ∧ Aside0 ((Kd.int .u8).R 5 wl W.heap.size (fun _ => True) v (lnN ((rows.drop a).take (i - a))) ∧ Below W.heap.size W wl))
      case atStart => exact ⟨a, .slice none 0 0, W, by omega, Nat.le_refl _, rfl, rfl, rfl, ⟨by rw [Nat.sub_self, List.take_zero]; exact Kd.R_nil _ _ _ _ _, Below.refl _ _⟩⟩
      case round =>
        obtain ⟨i, v, W2, hi, hai, rfl, rfl, rfl, HL⟩ := hrel
        cases gk with
        | zero =>
          have q1 : ((i : Int) ≤ (b : Int)) = False := eq_false (by omega)
          obtain rfl : i = a + m := by omega
          rw [Nat.add_sub_cancel_left] at HL
          obtain ⟨Av, cv, ev⟩ := Kd.R_slice HL.out.1
          subst ev
          go_wp2
          clear q1
          go_loopg [13, 16, 17] rows.length (fun g v13 v16 v17 wr => ∃ (i : Nat) (v : Value), i + g = rows.length ∧ v17 = .int .i64 (i : Int) ∧ v16 = .int .i64 ((othV rows a b i).length : Int) ∧ v = v13 ∧ Aside0 ((Kd.int .u8).R 5 wr W2.heap.size (fun _ => True) v (jn (othV rows a b i)) ∧ Below W2.heap.size W2 wr))
          case atStart => exact ⟨0, .slice none 0 0, by omega, rfl, by rw [oth_zero]; rfl, rfl, ⟨by rw [oth_zero]; exact Kd.R_nil _ _ _ _ _, Below.refl _ _⟩⟩
          case round =>
            obtain ⟨i2, v2, hi2, rfl, rfl, rfl, HR⟩ := hrel
            cases gk with
            | zero =>
              obtain rfl : i2 = rows.length := by omega
              obtain ⟨J, hJJ⟩ : ∃ J, l0.take F.toNat ++ l0.drop T.toNat = J := ⟨_, rfl⟩
              have hJ := ((congrArg jn (oth_all (rows := rows) (a := a) (b := b) (by omega))).trans hrest.symm).trans hJJ
              rw [hJ] at HR
              obtain ⟨A6, c6, e6⟩ := Kd.R_slice HR.out.1
              subst e6
              have HJ := Aside0.mk hJJ
              clear hJ hJJ hrest
              have BXr := Aside0.mk (blk_below (blk_below BX4.out HL.out.2) HR.out.2)
              have BRr := Aside0.mk (blk_below (blk_below BR4.out HL.out.2) HR.out.2)
              have HCr := Aside0.mk (Kd.C_below HC0.out.1 (below_step H4.out.1 (below_step HL.out.2 HR.out.2)))
              have HCF := Aside0.mk (show (Kd.int .u8).C wr A0 F.toNat (l0.take F.toNat) from by have h := Kd.C_take (m := F.toNat) HCr.out (by omega); rw [List.length_take, Nat.min_eq_left (by omega)] at h; exact h)
              have HCT := Aside0.mk (show (Kd.int .u8).C wr (if c0 = T.toNat then A0 else A0.map (·.add (T.toNat * 1))) (l0.length - T.toNat) (l0.drop T.toNat) from by have h := Kd.C_drop (m := T.toNat) HCr.out (by omega) HC0.out.2; rw [List.length_drop] at h; exact h)
              obtain ⟨i0, hi0, hsz⟩ : ∃ i, Tryd.prog.info? 5 = some i ∧ i.size = 1 := ⟨_, rfl, rfl⟩
              have hcutF := cut_to (P := Tryd.prog) 22 5 .i64 Tryd.underlying22 hi0 A0 l0.length c0 F hF0 (by omega) HC0.out.2
              have hcutT := cut_from (P := Tryd.prog) 22 5 .i64 Tryd.underlying22 hi0 1 hsz A0 l0.length c0 T (by omega) hTl
              generalize (if c0 = T.toNat then A0 else A0.map (·.add (T.toNat * 1))) = AT at hcutT HCT
              obtain ⟨nT, hnT⟩ : ∃ nT, l0.length - T.toNat = nT := ⟨_, rfl⟩
              obtain ⟨cT, hcT⟩ : ∃ cT, c0 - T.toNat = cT := ⟨_, rfl⟩
              have hnl : nT ≤ l0.length := by omega
              rw [hnT, hcT] at hcutT
              rw [hnT] at HCT
              clear hi0 hsz hnT hcT
              go_wp2
              refine start_ (n := 12) (S := fun w' => w'.cell? ⟨w3.heap.size, 0, none⟩ = some (.int .i64 F) ∧ w'.cell? ⟨w3.heap.size, 1, none⟩ = some (.int .i64 T)) (ds := []) #[false, false, false, false, false, false, false, false, false, false, false, false] (by kernel_rfl) rfl rfl ⟨(blk_cell (blk_drew BXr.out) 0).trans rfl, (blk_cell (blk_drew BXr.out) 1).trans rfl⟩ (fun hHeld => ?_)
              have HB0 := Aside0.mk (below_drew (Below.refl wr.heap.size wr))
              generalize wr.drew = Wc0 at HB0 hHeld ⊢
              refine pure_ (i := 1) (N := some 148) (v := ?_) (a' := ?_) #[false, true, false, false, false, false, false, false, false, false, false, false] rfl rfl (by kernel_rfl) (fun _ _ _ h => h) (Or.inl ⟨by rfl, ?_⟩) ?_ ?_
              rotate_left
              · intro w'
                go_simp
                with_reducible rfl
              rotate_left
              · simp only [Act.put, List.setIfInBounds_toArray, List.set_cons_zero, List.set_cons_succ, i64_w, i32_w]
                rfl
              refine pure_ (i := 2) (N := some 149) (v := ?_) (a' := ?_) #[false, true, true, false, false, false, false, false, false, false, false, false] rfl rfl (by kernel_rfl) (fun _ _ _ h => h) (Or.inl ⟨by rfl, ?_⟩) ?_ ?_
              rotate_left
              · intro w'
                go_simp
                with_reducible rfl
              rotate_left
              · simp only [Act.put, List.setIfInBounds_toArray, List.set_cons_zero, List.set_cons_succ, i64_w, i32_w]
                rfl
              refine pure_ (i := 6) (N := some 153) (v := ?_) (a' := ?_) #[false, true, true, false, false, false, true, false, false, false, false, false] rfl rfl (by kernel_rfl) (fun _ _ _ h => h) (Or.inl ⟨by rfl, ?_⟩) ?_ ?_
              rotate_left
              · intro w'
                go_simp
                with_reducible rfl
              rotate_left
              · simp only [Act.put, List.setIfInBounds_toArray, List.set_cons_zero, List.set_cons_succ, i64_w, i32_w]
                rfl
              refine pure_ (i := 7) (N := some 154) (v := ?_) (a' := ?_) #[false, true, true, false, false, false, true, true, false, false, false, false] rfl rfl (by kernel_rfl) (fun _ _ _ h => h) (Or.inl ⟨by rfl, ?_⟩) ?_ ?_
              rotate_left
              · intro w'
                go_simp
                with_reducible rfl
              rotate_left
              · simp only [Act.put, List.setIfInBounds_toArray, List.set_cons_zero, List.set_cons_succ, i64_w, i32_w]
                rfl
              refine take_ (i := 3) (N := some 150) (v := ?_) (a' := ?_) #[false, true, true, true, false, false, true, true, false, false, false, false] rfl rfl (by kernel_rfl) (fun _ _ _ h => h) (Or.inl ⟨by rfl, ?_⟩) hHeld ?_ ?_
              rotate_left
              · rintro w' ⟨s0, s1⟩
                go_simp
                with_reducible rfl
              rotate_left
              · simp only [Act.put, List.setIfInBounds_toArray, List.set_cons_zero, List.set_cons_succ, i64_w, i32_w]
                rfl
              refine pure_ (i := 4) (N := some 151) (v := ?_) (a' := ?_) #[false, true, true, true, true, false, true, true, false, false, false, false] rfl rfl (by kernel_rfl) (fun _ _ _ h => h) (Or.inl ⟨by rfl, ?_⟩) ?_ ?_
              rotate_left
              · intro w'
                go_simp
                with_reducible rfl
              rotate_left
              · simp only [Act.put, List.setIfInBounds_toArray, List.set_cons_zero, List.set_cons_succ, i64_w, i32_w]
                rfl
              refine take_ (i := 8) (N := some 155) (v := ?_) (a' := ?_) #[false, true, true, true, true, false, true, true, true, false, false, false] rfl rfl (by kernel_rfl) (fun _ _ _ h => h) (Or.inl ⟨by rfl, ?_⟩) hHeld ?_ ?_
              rotate_left
              · rintro w' ⟨s0, s1⟩
                go_simp
                with_reducible rfl
              rotate_left
              · simp only [Act.put, List.setIfInBounds_toArray, List.set_cons_zero, List.set_cons_succ, i64_w, i32_w]
                rfl
              refine pure_ (i := 9) (N := some 156) (v := ?_) (a' := ?_) #[false, true, true, true, true, false, true, true, true, true, false, false] rfl rfl (by kernel_rfl) (fun _ _ _ h => h) (Or.inl ⟨by rfl, ?_⟩) ?_ ?_
              rotate_left
              · intro w'
                go_simp
                with_reducible rfl
              rotate_left
              · simp only [Act.put, List.setIfInBounds_toArray, List.set_cons_zero, List.set_cons_succ, i64_w, i32_w]
                rfl
              refine one_ (i := 0) (N := some 147) #[true, true, true, true, true, false, true, true, true, true, false, false] rfl rfl (by kernel_rfl) (by decide) (fun K hK => ?_)
              refine value_ (w1 := ?_) (v := ?_) (by rfl) rfl ?_ ?_
              rotate_left 2
              · go_simp
                constructor
                · rfl
                · rfl
              have HB1 := Aside0.mk (below_alloc HB0.out (.cells #[] 5))
              have HE1 := Aside0.mk (Kd.R_lower (empty_R Wc0) HB0.out.size)
              generalize eW : (Wc0.alloc (.cells #[] 5)) = Wc1 at HB1 HE1 ⊢
              clear eW
              refine hK.out _ _ ⟨(blk_cell (blk_below BXr.out HB1.out) 0).trans rfl, (blk_cell (blk_below BXr.out HB1.out) 1).trans rfl⟩ (fun hHeld => ?_)
              clear hK K
              refine norm_ (a' := ?_) ?_ ?_
              rotate_left
              · show Act.put _ (some 147) _ = _
                simp only [Act.put, List.setIfInBounds_toArray, List.set_cons_zero, List.set_cons_succ, i64_w, i32_w]
                rfl
              refine one_ (i := 5) (N := some 152) #[true, true, true, true, true, true, true, true, true, true, false, false] rfl rfl (by kernel_rfl) (by decide) (fun K hK => ?_)
              refine Kd.R_append_rows_step (Kd.int .u8) (Rr := (Kd.int .u8).K Wc1) (w0 := wr) wr.heap.size (by rfl) (.tmp 147) (.tmp 151) 22 5 (.int .u8 0) 1 rfl Tryd.underlying22 infoB rfl (by decide) (by omega) (.slice (some ⟨Wc0.heap.size, 0, none⟩) 0 0) [] (l0.take F.toNat) A0 F.toNat c0 (fun _ => True) (fun _ => False) rfl rfl HE1.out (Kd.C_below HCF.out HB1.out) (fun _ _ h => h) (fun _ h => h.elim) (fun _ _ => trivial) HB1.out HB1.out.size (by simp only [List.length_nil]; omega) ?_
              intro v3 Wc2 hR hB _ _
              rw [List.nil_append] at hR
              have HV2 := Aside0.mk hR
              have HB2 := Aside0.mk hB
              clear hR hB
              refine hK.out _ _ ⟨(blk_cell (blk_below BXr.out HB2.out) 0).trans rfl, (blk_cell (blk_below BXr.out HB2.out) 1).trans rfl⟩ (fun hHeld => ?_)
              clear hK K
              refine norm_ (a' := ?_) ?_ ?_
              rotate_left
              · show Act.put _ (some 152) _ = _
                simp only [Act.put, List.setIfInBounds_toArray, List.set_cons_zero, List.set_cons_succ, i64_w, i32_w]
                rfl
              refine one_ (i := 10) (N := some 157) #[true, true, true, true, true, true, true, true, true, true, true, false] rfl rfl (by kernel_rfl) (by decide) (fun K hK => ?_)
              refine Kd.R_append_rows_step (Kd.int .u8) (Rr := (Kd.int .u8).K Wc2) (w0 := wr) wr.heap.size (by rfl) (.tmp 152) (.tmp 156) 22 5 (.int .u8 0) 1 rfl Tryd.underlying22 infoB rfl (by decide) (by omega) v3 (l0.take F.toNat) (l0.drop T.toNat) AT nT cT (fun _ => True) (fun _ => False) rfl rfl HV2.out (Kd.C_below HCT.out HB2.out) (fun _ _ h => h) (fun _ h => h.elim) (fun _ _ => trivial) HB2.out HB2.out.size (by rw [List.length_take]; omega) ?_
              intro v5 w5 hR hB _ _
              have H5 := Aside0.mk (And.intro hR hB)
              clear hR hB
              refine hK.out _ _ ⟨(blk_cell (blk_below BXr.out H5.out.2) 0).trans rfl, (blk_cell (blk_below BXr.out H5.out.2) 1).trans rfl⟩ (fun hHeld => ?_)
              clear hK K
              refine norm_ (a' := ?_) ?_ ?_
              rotate_left
              · show Act.put _ (some 157) _ = _
                simp only [Act.put, List.setIfInBounds_toArray, List.set_cons_zero, List.set_cons_succ, i64_w, i32_w]
                rfl
              refine pure_ (i := 11) (N := some 18) (v := ?_) (a' := ?_) #[true, true, true, true, true, true, true, true, true, true, true, true] rfl rfl (by kernel_rfl) (fun _ _ _ h => h) (Or.inl ⟨by rfl, ?_⟩) ?_ ?_
              rotate_left
              · intro w'
                go_simp
                with_reducible rfl
              rotate_left
              · simp only [Act.put, List.setIfInBounds_toArray, List.set_cons_zero, List.set_cons_succ, i64_w, i32_w]
                rfl
              refine done_ (by kernel_rfl) ?_

              clear hcutF hcutT
              rw [HJ.out] at H5
              obtain ⟨A5, c5, e5⟩ := Kd.R_slice H5.out.1
              subst e5
              have BR5 := Aside0.mk (blk_below BRr.out H5.out.2)
              have r0 := (blk_cell BR5.out 0).trans rfl
              have r1 := (blk_cell BR5.out 1).trans rfl
              have r2 := (blk_cell BR5.out 2).trans rfl
              have k1 := Kd.C_string (P := Tryd.prog) (c := c4) Tryd.underlying22 Tryd.underlying5 Tryd.underlying9 (Kd.C_below (Kd.R_reads' H4.out.2).2.2 (below_step HL.out.2 (below_step HR.out.2 H5.out.2)))
              have k2 := Kd.C_string (P := Tryd.prog) (c := cv) Tryd.underlying22 Tryd.underlying5 Tryd.underlying9 (Kd.C_below (Kd.R_reads' HL.out.1).2.2 (below_step HR.out.2 H5.out.2))
              have k3 := Kd.C_string (P := Tryd.prog) (c := c5) Tryd.underlying22 Tryd.underlying5 Tryd.underlying9 (Kd.R_reads' H5.out.1).2.2
              have k4 := Kd.C_string (P := Tryd.prog) (c := c6) Tryd.underlying22 Tryd.underlying5 Tryd.underlying9 (Kd.C_below (Kd.R_reads' HR.out.1).2.2 H5.out.2)
              go_wp2
              exact bodyPost_ret (v := .bool true) (by simp [results, Tryd.results3, go_sem]) rfl ⟨rfl, below_step H4.out.1 (below_step HL.out.2 (below_step HR.out.2 H5.out.2))⟩
            | succ g2 =>
              have q1 : ((i2 : Int) < (rows.length : Int)) = True := eq_true (by omega)
              by_cases hin : a ≤ i2 ∧ i2 ≤ b
              · have f1 : ((a : Int) ≤ (i2 : Int)) = True := eq_true (by omega)
                have f2 : ((i2 : Int) ≤ (b : Int)) = True := eq_true (by omega)
                have hO := Aside0.mk (oth_in (rows := rows) hin.1 hin.2)
                clear hin
                go_wp2
                go_roundg g2
                case measure => omega
                case rel => exact ⟨i2 + 1, _, by omega, by go_num, by rw [hO.out], rfl, ⟨by rw [hO.out]; exact HR.out.1, HR.out.2⟩⟩
              · have hir2 : i2 < rows.length := by omega
                obtain ⟨ad_, Ar, cr, ea, hy, hlc, hC⟩ := line_of HK4.out hir2
                obtain rfl := Option.some.inj ea
                have HY := Aside0.mk hy
                replace hy := pw_cell_below (below_step HL.out.2 HR.out.2) hy
                have hlow : i2 < a ∨ b < i2 := by omega
                have hO : Aside0 (othV rows a b (i2 + 1) = othV rows a b i2 ++ [rows.getD i2 []]) := ⟨hlow.elim (fun h => oth_low h hir2 hab) (fun h => oth_high h hir2 hab)⟩
                have hrl := row_le rows i2
                have hjl := oth_len rows a b i2
                have hcl := oth_cnt rows a b i2
                generalize rows.getD i2 [] = row at hy HY hlc hC hO hrl
                generalize othV rows a b i2 = Q at hO hjl hcl HR ⊢
                have HLN := Aside0.mk (show (jn Q).length + row.length + 1 ≤ 8000000 by omega)
                have hJ := Aside0.mk (jn_snoc Q row)
                generalize hQ : Q.length = n at hcl hJ ⊢
                have hnb : n ≤ 4000000 := by omega
                have HQ := Aside0.mk hQ
                clear hrl hjl hcl hin hQ
                have q2 : (0 ≤ (i2 : Int)) = True := eq_true (by omega)
                have q3 : ((i2 : Int) < (rows.length : Int)) = True := eq_true (by omega)
                rcases hlow with hlow | hlow
                · have f1 : ((a : Int) ≤ (i2 : Int)) = False := eq_false (by omega)
                  clear hlow
                  cases n with
                  | zero =>
                    have f3 : ((0 : Int) < ((0 : Nat) : Int)) = False := eq_false (by omega)
                    have hQ0 : Aside0 (Q = []) := ⟨List.eq_nil_of_length_eq_zero HQ.out⟩
                    go_wp2_with (first
                      | (at_builtin; refine Kd.R_append_row (Value.int .u8) (0 : Int) (h1 := fun _ => rfl) (w0 := W2) W2.heap.size rfl (.tmp 139) (.tmp 143) 22 5 (.int .u8 0) 1 rfl Tryd.underlying22 infoB rfl (by decide) v2 (jn Q) row Ar row.length cr (fun _ => True) rfl rfl (fun _ _ => trivial) HR.out.1 (Kd.C_below hC (below_step HL.out.2 HR.out.2)) HR.out.2 HR.out.2.size (by have h1 := HLN.out; omega) ?_; intro v8 w8 hR hB _ _; have H8 := Aside0.mk (And.intro hR hB); clear hR hB))
                    go_roundg g2
                    case measure => omega
                    case rel => exact ⟨i2 + 1, _, by omega, by go_num, by rw [hO.out, List.length_append, HQ.out]; rfl, rfl, ⟨by rw [hO.out, hJ.out]; (first | rw [if_pos rfl] | rw [if_pos trivial]); have h := H8.out.1; rw [hQ0.out] at h; exact h, H8.out.2⟩⟩
                  | succ n =>
                    have f3 : ((0 : Int) < ((n + 1 : Nat) : Int)) = True := eq_true (by omega)
                    go_wp2_with (first
                      | (at_builtin; refine Kd.R_append_row (Value.int .u8) (0 : Int) (h1 := fun _ => rfl) (w0 := W2) W2.heap.size rfl (.tmp 136) (.tmp 137) 22 5 (.int .u8 0) 1 rfl Tryd.underlying22 infoB rfl (by decide) v2 (jn Q) [10] (some ⟨wr.heap.size, 0, none⟩) 1 1 (fun _ => True) rfl rfl (fun _ _ => trivial) (Kd.R_alloc HR.out.1 (.cells #[.int .u8 10] 5)) (u8_C (xs := [10]) (fr := (0, 0)) (blk_new wr _) (by decide)) (HR.out.2.alloc HR.out.2.size _) (by have h := HR.out.2.size; simp only [World.size_alloc]; omega) (by have h1 := HLN.out; omega) ?_; intro v7 w7 hR hB _ _; have H7 := Aside0.mk (And.intro hR hB); clear hR hB; have hy7 := pw_cell_below (below_step HL.out.2 H7.out.2) HY.out)
                      | (at_builtin; refine Kd.R_append_row (Value.int .u8) (0 : Int) (h1 := fun _ => rfl) (w0 := W2) W2.heap.size rfl (.tmp 139) (.tmp 143) 22 5 (.int .u8 0) 1 rfl Tryd.underlying22 infoB rfl (by decide) v7 (jn Q ++ [10]) row Ar row.length cr (fun _ => True) rfl rfl (fun _ _ => trivial) H7.out.1 (Kd.C_below hC (below_step HL.out.2 H7.out.2)) H7.out.2 H7.out.2.size (by have h1 := HLN.out; rw [List.length_append, List.length_singleton]; omega) ?_; intro v8 w8 hR hB _ _; have H8 := Aside0.mk (And.intro hR hB); clear hR hB))
                    go_roundg g2
                    case measure => omega
                    case rel => exact ⟨i2 + 1, _, by omega, by go_num, by rw [hO.out, List.length_append, HQ.out, List.length_singleton]; go_num, rfl, ⟨by rw [hO.out, hJ.out, if_neg (by omega)]; have h := H8.out.1; rw [List.append_assoc] at h; exact h, H8.out.2⟩⟩
                · have f1 : ((a : Int) ≤ (i2 : Int)) = True := eq_true (by omega)
                  have f2 : ((i2 : Int) ≤ (b : Int)) = False := eq_false (by omega)
                  clear hlow
                  cases n with
                  | zero =>
                    have f3 : ((0 : Int) < ((0 : Nat) : Int)) = False := eq_false (by omega)
                    have hQ0 : Aside0 (Q = []) := ⟨List.eq_nil_of_length_eq_zero HQ.out⟩
                    go_wp2_with (first
                      | (at_builtin; refine Kd.R_append_row (Value.int .u8) (0 : Int) (h1 := fun _ => rfl) (w0 := W2) W2.heap.size rfl (.tmp 139) (.tmp 143) 22 5 (.int .u8 0) 1 rfl Tryd.underlying22 infoB rfl (by decide) v2 (jn Q) row Ar row.length cr (fun _ => True) rfl rfl (fun _ _ => trivial) HR.out.1 (Kd.C_below hC (below_step HL.out.2 HR.out.2)) HR.out.2 HR.out.2.size (by have h1 := HLN.out; omega) ?_; intro v8 w8 hR hB _ _; have H8 := Aside0.mk (And.intro hR hB); clear hR hB))
                    go_roundg g2
                    case measure => omega
                    case rel => exact ⟨i2 + 1, _, by omega, by go_num, by rw [hO.out, List.length_append, HQ.out]; rfl, rfl, ⟨by rw [hO.out, hJ.out]; (first | rw [if_pos rfl] | rw [if_pos trivial]); have h := H8.out.1; rw [hQ0.out] at h; exact h, H8.out.2⟩⟩
                  | succ n =>
                    have f3 : ((0 : Int) < ((n + 1 : Nat) : Int)) = True := eq_true (by omega)
                    go_wp2_with (first
                      | (at_builtin; refine Kd.R_append_row (Value.int .u8) (0 : Int) (h1 := fun _ => rfl) (w0 := W2) W2.heap.size rfl (.tmp 136) (.tmp 137) 22 5 (.int .u8 0) 1 rfl Tryd.underlying22 infoB rfl (by decide) v2 (jn Q) [10] (some ⟨wr.heap.size, 0, none⟩) 1 1 (fun _ => True) rfl rfl (fun _ _ => trivial) (Kd.R_alloc HR.out.1 (.cells #[.int .u8 10] 5)) (u8_C (xs := [10]) (fr := (0, 0)) (blk_new wr _) (by decide)) (HR.out.2.alloc HR.out.2.size _) (by have h := HR.out.2.size; simp only [World.size_alloc]; omega) (by have h1 := HLN.out; omega) ?_; intro v7 w7 hR hB _ _; have H7 := Aside0.mk (And.intro hR hB); clear hR hB; have hy7 := pw_cell_below (below_step HL.out.2 H7.out.2) HY.out)
                      | (at_builtin; refine Kd.R_append_row (Value.int .u8) (0 : Int) (h1 := fun _ => rfl) (w0 := W2) W2.heap.size rfl (.tmp 139) (.tmp 143) 22 5 (.int .u8 0) 1 rfl Tryd.underlying22 infoB rfl (by decide) v7 (jn Q ++ [10]) row Ar row.length cr (fun _ => True) rfl rfl (fun _ _ => trivial) H7.out.1 (Kd.C_below hC (below_step HL.out.2 H7.out.2)) H7.out.2 H7.out.2.size (by have h1 := HLN.out; rw [List.length_append, List.length_singleton]; omega) ?_; intro v8 w8 hR hB _ _; have H8 := Aside0.mk (And.intro hR hB); clear hR hB))
                    go_roundg g2
                    case measure => omega
                    case rel => exact ⟨i2 + 1, _, by omega, by go_num, by rw [hO.out, List.length_append, HQ.out, List.length_singleton]; go_num, rfl, ⟨by rw [hO.out, hJ.out, if_neg (by omega)]; have h := H8.out.1; rw [List.append_assoc] at h; exact h, H8.out.2⟩⟩
        | succ g =>
          have q1 : ((i : Int) ≤ (b : Int)) = True := eq_true (by omega)
          have hir : i < rows.length := by omega
          obtain ⟨ad_, Ar, cr, ea, hy, hlc, hC⟩ := line_of HK4.out hir
          obtain rfl := Option.some.inj ea
          replace hy := pw_cell_below HL.out.2 hy
          have HW := Aside0.mk (want_step hai hir)
          have hrl := row_le rows i
          have hjl := lnN_sub rows a (i - a)
          generalize rows.getD i [] = row at hy hlc hC HW hrl
          have HLN := Aside0.mk (show (lnN ((rows.drop a).take (i - a))).length + row.length + 1 ≤ 4000000 by omega)
          clear hrl hjl
          have q2 : (0 ≤ (i : Int)) = True := eq_true (by omega)
          have q3 : ((i : Int) < (rows.length : Int)) = True := eq_true (by omega)
          go_wp2_with (first
            | (at_builtin; refine Kd.R_append_row (Value.int .u8) (0 : Int) (h1 := fun _ => rfl) (w0 := W) W.heap.size rfl (.tmp 112) (.tmp 116) 22 5 (.int .u8 0) 1 rfl Tryd.underlying22 infoB rfl (by decide) v (lnN ((rows.drop a).take (i - a))) row Ar row.length cr (fun _ => True) rfl rfl (fun _ _ => trivial) HL.out.1 (Kd.C_below hC HL.out.2) HL.out.2 HL.out.2.size (by have h1 := HLN.out; omega) ?_; intro v5 w5 hR hB _ _; have H5 := Aside0.mk (And.intro hR hB); clear hR hB)
            | (at_builtin; refine Kd.R_append_row (Value.int .u8) (0 : Int) (h1 := fun _ => rfl) (w0 := W) W.heap.size rfl (.tmp 117) (.tmp 118) 22 5 (.int .u8 0) 1 rfl Tryd.underlying22 infoB rfl (by decide) v5 (lnN ((rows.drop a).take (i - a)) ++ row) [10] (some ⟨w5.heap.size, 0, none⟩) 1 1 (fun _ => True) rfl rfl (fun _ _ => trivial) (Kd.R_alloc H5.out.1 (.cells #[.int .u8 10] 5)) (u8_C (xs := [10]) (fr := (0, 0)) (blk_new w5 _) (by decide)) (H5.out.2.alloc H5.out.2.size _) (by have h := H5.out.2.size; simp only [World.size_alloc]; omega) (by have h1 := HLN.out; rw [List.length_append]; omega) ?_; intro v6 w6 hR hB _ _; have H6 := Aside0.mk (And.intro hR hB); clear hR hB))
          go_roundg g
          case measure => omega
          case rel => exact ⟨i + 1, _, _, by omega, by omega, by go_num, rfl, rfl, ⟨by rw [HW.out]; exact H6.out.1, H6.out.2⟩⟩
    · skip
      go_enter Tryd.func3, Tryd.ntmps3
      go_wp2_with (first
        | (go_at_call 4; (with_reducible refine (HA.out _).mono ?_); rintro e w1 ⟨rfl, hx⟩; have H1 := Aside0.mk hx; clear hx)
        | (go_at_call 5; (with_reducible refine (HSP.out _ H1.out).mono ?_); rintro e w2 ⟨vs, rfl, hy1, hy2⟩; have HS := Aside0.mk (And.intro hy1 (below_step H1.out hy2)); clear hy1 hy2; obtain ⟨AS, cS, eS⟩ := Kd.R_slice (Kd.S_R HS.out.1); subst eS; have HK2 := Aside0.mk (Kd.R_reads' (Kd.S_R HS.out.1)).2.2; obtain ⟨ad, _, _, eA, _⟩ := line_of HK2.out hn0; subst eA)
        | (go_at_call 6; (with_reducible refine (HWH.out _ HS.out.2).mono ?_); rintro e w3 ⟨rfl, hx⟩; have H3 := Aside0.mk (below_alloc (below_step HS.out.2 hx) (.cells #[.int .i64 F, .int .i64 T, .bool true, .bool D] 27)); have HK3 := Aside0.mk (Kd.C_alloc (Kd.C_below HK2.out hx) (.cells #[.int .i64 F, .int .i64 T, .bool true, .bool D] 27)); clear hx; have BN3 := Aside0.mk (blk_new w3 (.cells #[.int .i64 F, .int .i64 T, .bool true, .bool D] 27)); have x0 := (blk_cell BN3.out 0).trans rfl; have x1 := (blk_cell BN3.out 1).trans rfl; have x2 := (blk_cell BN3.out 2).trans rfl; have x3 := (blk_cell BN3.out 3).trans rfl)
        | (go_at_call 7; (with_reducible refine (HTK.out _ H3.out).mono ?_); rintro e w4 ⟨v4, rfl, hr, hx⟩; obtain ⟨A4, c4, ev⟩ := Kd.R_slice hr; subst ev; have H4 := Aside0.mk (And.intro (below_alloc (below_step H3.out hx) (.cells #[.bool true, .bool true, .slice A4 (lnN ((rows.drop a).take m)).length c4] 32)) (Kd.R_alloc hr (.cells #[.bool true, .bool true, .slice A4 (lnN ((rows.drop a).take m)).length c4] 32))); have BX4 := Aside0.mk (blk_alloc (blk_below BN3.out hx) (.cells #[.bool true, .bool true, .slice A4 (lnN ((rows.drop a).take m)).length c4] 32)); have BR4 := Aside0.mk (blk_new w4 (.cells #[.bool true, .bool true, .slice A4 (lnN ((rows.drop a).take m)).length c4] 32)); have HK4 := Aside0.mk (Kd.C_alloc (Kd.C_below HK3.out hx) (.cells #[.bool true, .bool true, .slice A4 (lnN ((rows.drop a).take m)).length c4] 32)); clear hx hr; obtain ⟨ad_, Ab, cb, ea, hyb, _, _⟩ := line_of HK4.out hbn; obtain rfl := Option.some.inj ea; rw [HLB.out] at hyb))
      clear hyb
      generalize (w4.alloc (.cells #[.bool true, .bool true, .slice A4 (lnN ((rows.drop a).take m)).length c4] 32)) = W at H4 BX4 BR4 HK4 ⊢
      go_loopg [12, 15] m (fun g v12 v15 wl => ∃ (i : Nat) (v : Value) (W2 : World), i + g = a + m ∧ a ≤ i ∧ v15 = .int .i64 (i : Int) ∧ v = v12 ∧ W2 = wl ∧ Aside0 ((Kd.int .u8).R 5 wl W.heap.size (fun _ => True) v (lnN ((rows.drop a).take (i - a))) ∧ Below W.heap.size W wl))
      case atStart => exact ⟨a, .slice none 0 0, W, by omega, Nat.le_refl _, rfl, rfl, rfl, ⟨by rw [Nat.sub_self, List.take_zero]; exact Kd.R_nil _ _ _ _ _, Below.refl _ _⟩⟩
      case round =>
        obtain ⟨i, v, W2, hi, hai, rfl, rfl, rfl, HL⟩ := hrel
        cases gk with
        | zero =>
          have q1 : ((i : Int) ≤ (b : Int)) = False := eq_false (by omega)
          obtain rfl : i = a + m := by omega
          rw [Nat.add_sub_cancel_left] at HL
          obtain ⟨Av, cv, ev⟩ := Kd.R_slice HL.out.1
          subst ev
          go_wp2
          clear q1
          go_loopg [13, 16, 17] rows.length (fun g v13 v16 v17 wr => ∃ (i : Nat) (v : Value), i + g = rows.length ∧ v17 = .int .i64 (i : Int) ∧ v16 = .int .i64 ((othV rows a b i).length : Int) ∧ v = v13 ∧ Aside0 ((Kd.int .u8).R 5 wr W2.heap.size (fun _ => True) v (jn (othV rows a b i)) ∧ Below W2.heap.size W2 wr))
          case atStart => exact ⟨0, .slice none 0 0, by omega, rfl, by rw [oth_zero]; rfl, rfl, ⟨by rw [oth_zero]; exact Kd.R_nil _ _ _ _ _, Below.refl _ _⟩⟩
          case round =>
            obtain ⟨i2, v2, hi2, rfl, rfl, rfl, HR⟩ := hrel
            cases gk with
            | zero =>
              obtain rfl : i2 = rows.length := by omega
              obtain ⟨J, hJJ⟩ : ∃ J, l0.take F.toNat ++ l0.drop T.toNat = J := ⟨_, rfl⟩
              have hJ := ((congrArg jn (oth_all (rows := rows) (a := a) (b := b) (by omega))).trans hrest.symm).trans hJJ
              rw [hJ] at HR
              obtain ⟨A6, c6, e6⟩ := Kd.R_slice HR.out.1
              subst e6
              have HJ := Aside0.mk hJJ
              clear hJ hJJ hrest
              have BXr := Aside0.mk (blk_below (blk_below BX4.out HL.out.2) HR.out.2)
              have BRr := Aside0.mk (blk_below (blk_below BR4.out HL.out.2) HR.out.2)
              have HCr := Aside0.mk (Kd.C_below HC0.out.1 (below_step H4.out.1 (below_step HL.out.2 HR.out.2)))
              have HCF := Aside0.mk (show (Kd.int .u8).C wr A0 F.toNat (l0.take F.toNat) from by have h := Kd.C_take (m := F.toNat) HCr.out (by omega); rw [List.length_take, Nat.min_eq_left (by omega)] at h; exact h)
              have HCT := Aside0.mk (show (Kd.int .u8).C wr (if c0 = T.toNat then A0 else A0.map (·.add (T.toNat * 1))) (l0.length - T.toNat) (l0.drop T.toNat) from by have h := Kd.C_drop (m := T.toNat) HCr.out (by omega) HC0.out.2; rw [List.length_drop] at h; exact h)
              obtain ⟨i0, hi0, hsz⟩ : ∃ i, Tryd.prog.info? 5 = some i ∧ i.size = 1 := ⟨_, rfl, rfl⟩
              have hcutF := cut_to (P := Tryd.prog) 22 5 .i64 Tryd.underlying22 hi0 A0 l0.length c0 F hF0 (by omega) HC0.out.2
              have hcutT := cut_from (P := Tryd.prog) 22 5 .i64 Tryd.underlying22 hi0 1 hsz A0 l0.length c0 T (by omega) hTl
              generalize (if c0 = T.toNat then A0 else A0.map (·.add (T.toNat * 1))) = AT at hcutT HCT
              obtain ⟨nT, hnT⟩ : ∃ nT, l0.length - T.toNat = nT := ⟨_, rfl⟩
              obtain ⟨cT, hcT⟩ : ∃ cT, c0 - T.toNat = cT := ⟨_, rfl⟩
              have hnl : nT ≤ l0.length := by omega
              rw [hnT, hcT] at hcutT
              rw [hnT] at HCT
              clear hi0 hsz hnT hcT
              go_wp2
              refine start_ (n := 12) (S := fun w' => w'.cell? ⟨w3.heap.size, 0, none⟩ = some (.int .i64 F) ∧ w'.cell? ⟨w3.heap.size, 1, none⟩ = some (.int .i64 T)) (ds := []) #[false, false, false, false, false, false, false, false, false, false, false, false] (by kernel_rfl) rfl rfl ⟨(blk_cell (blk_drew BXr.out) 0).trans rfl, (blk_cell (blk_drew BXr.out) 1).trans rfl⟩ (fun hHeld => ?_)
              have HB0 := Aside0.mk (below_drew (Below.refl wr.heap.size wr))
              generalize wr.drew = Wc0 at HB0 hHeld ⊢
              refine pure_ (i := 1) (N := some 148) (v := ?_) (a' := ?_) #[false, true, false, false, false, false, false, false, false, false, false, false] rfl rfl (by kernel_rfl) (fun _ _ _ h => h) (Or.inl ⟨by rfl, ?_⟩) ?_ ?_
              rotate_left
              · intro w'
                go_simp
                with_reducible rfl
              rotate_left
              · simp only [Act.put, List.setIfInBounds_toArray, List.set_cons_zero, List.set_cons_succ, i64_w, i32_w]
                rfl
              refine pure_ (i := 2) (N := some 149) (v := ?_) (a' := ?_) #[false, true, true, false, false, false, false, false, false, false, false, false] rfl rfl (by kernel_rfl) (fun _ _ _ h => h) (Or.inl ⟨by rfl, ?_⟩) ?_ ?_
              rotate_left
              · intro w'
                go_simp
                with_reducible rfl
              rotate_left
              · simp only [Act.put, List.setIfInBounds_toArray, List.set_cons_zero, List.set_cons_succ, i64_w, i32_w]
                rfl
              refine pure_ (i := 6) (N := some 153) (v := ?_) (a' := ?_) #[false, true, true, false, false, false, true, false, false, false, false, false] rfl rfl (by kernel_rfl) (fun _ _ _ h => h) (Or.inl ⟨by rfl, ?_⟩) ?_ ?_
              rotate_left
              · intro w'
                go_simp
                with_reducible rfl
              rotate_left
              · simp only [Act.put, List.setIfInBounds_toArray, List.set_cons_zero, List.set_cons_succ, i64_w, i32_w]
                rfl
              refine pure_ (i := 7) (N := some 154) (v := ?_) (a' := ?_) #[false, true, true, false, false, false, true, true, false, false, false, false] rfl rfl (by kernel_rfl) (fun _ _ _ h => h) (Or.inl ⟨by rfl, ?_⟩) ?_ ?_
              rotate_left
              · intro w'
                go_simp
                with_reducible rfl
              rotate_left
              · simp only [Act.put, List.setIfInBounds_toArray, List.set_cons_zero, List.set_cons_succ, i64_w, i32_w]
                rfl
              refine take_ (i := 3) (N := some 150) (v := ?_) (a' := ?_) #[false, true, true, true, false, false, true, true, false, false, false, false] rfl rfl (by kernel_rfl) (fun _ _ _ h => h) (Or.inl ⟨by rfl, ?_⟩) hHeld ?_ ?_
              rotate_left
              · rintro w' ⟨s0, s1⟩
                go_simp
                with_reducible rfl
              rotate_left
              · simp only [Act.put, List.setIfInBounds_toArray, List.set_cons_zero, List.set_cons_succ, i64_w, i32_w]
                rfl
              refine pure_ (i := 4) (N := some 151) (v := ?_) (a' := ?_) #[false, true, true, true, true, false, true, true, false, false, false, false] rfl rfl (by kernel_rfl) (fun _ _ _ h => h) (Or.inl ⟨by rfl, ?_⟩) ?_ ?_
              rotate_left
              · intro w'
                go_simp
                with_reducible rfl
              rotate_left
              · simp only [Act.put, List.setIfInBounds_toArray, List.set_cons_zero, List.set_cons_succ, i64_w, i32_w]
                rfl
              refine take_ (i := 8) (N := some 155) (v := ?_) (a' := ?_) #[false, true, true, true, true, false, true, true, true, false, false, false] rfl rfl (by kernel_rfl) (fun _ _ _ h => h) (Or.inl ⟨by rfl, ?_⟩) hHeld ?_ ?_
              rotate_left
              · rintro w' ⟨s0, s1⟩
                go_simp
                with_reducible rfl
              rotate_left
              · simp only [Act.put, List.setIfInBounds_toArray, List.set_cons_zero, List.set_cons_succ, i64_w, i32_w]
                rfl
              refine pure_ (i := 9) (N := some 156) (v := ?_) (a' := ?_) #[false, true, true, true, true, false, true, true, true, true, false, false] rfl rfl (by kernel_rfl) (fun _ _ _ h => h) (Or.inl ⟨by rfl, ?_⟩) ?_ ?_
              rotate_left
              · intro w'
                go_simp
                with_reducible rfl
              rotate_left
              · simp only [Act.put, List.setIfInBounds_toArray, List.set_cons_zero, List.set_cons_succ, i64_w, i32_w]
                rfl
              refine one_ (i := 0) (N := some 147) #[true, true, true, true, true, false, true, true, true, true, false, false] rfl rfl (by kernel_rfl) (by decide) (fun K hK => ?_)
              refine value_ (w1 := ?_) (v := ?_) (by rfl) rfl ?_ ?_
              rotate_left 2
              · go_simp
                constructor
                · rfl
                · rfl
              have HB1 := Aside0.mk (below_alloc HB0.out (.cells #[] 5))
              have HE1 := Aside0.mk (Kd.R_lower (empty_R Wc0) HB0.out.size)
              generalize eW : (Wc0.alloc (.cells #[] 5)) = Wc1 at HB1 HE1 ⊢
              clear eW
              refine hK.out _ _ ⟨(blk_cell (blk_below BXr.out HB1.out) 0).trans rfl, (blk_cell (blk_below BXr.out HB1.out) 1).trans rfl⟩ (fun hHeld => ?_)
              clear hK K
              refine norm_ (a' := ?_) ?_ ?_
              rotate_left
              · show Act.put _ (some 147) _ = _
                simp only [Act.put, List.setIfInBounds_toArray, List.set_cons_zero, List.set_cons_succ, i64_w, i32_w]
                rfl
              refine one_ (i := 5) (N := some 152) #[true, true, true, true, true, true, true, true, true, true, false, false] rfl rfl (by kernel_rfl) (by decide) (fun K hK => ?_)
              refine Kd.R_append_rows_step (Kd.int .u8) (Rr := (Kd.int .u8).K Wc1) (w0 := wr) wr.heap.size (by rfl) (.tmp 147) (.tmp 151) 22 5 (.int .u8 0) 1 rfl Tryd.underlying22 infoB rfl (by decide) (by omega) (.slice (some ⟨Wc0.heap.size, 0, none⟩) 0 0) [] (l0.take F.toNat) A0 F.toNat c0 (fun _ => True) (fun _ => False) rfl rfl HE1.out (Kd.C_below HCF.out HB1.out) (fun _ _ h => h) (fun _ h => h.elim) (fun _ _ => trivial) HB1.out HB1.out.size (by simp only [List.length_nil]; omega) ?_
              intro v3 Wc2 hR hB _ _
              rw [List.nil_append] at hR
              have HV2 := Aside0.mk hR
              have HB2 := Aside0.mk hB
              clear hR hB
              refine hK.out _ _ ⟨(blk_cell (blk_below BXr.out HB2.out) 0).trans rfl, (blk_cell (blk_below BXr.out HB2.out) 1).trans rfl⟩ (fun hHeld => ?_)
              clear hK K
              refine norm_ (a' := ?_) ?_ ?_
              rotate_left
              · show Act.put _ (some 152) _ = _
                simp only [Act.put, List.setIfInBounds_toArray, List.set_cons_zero, List.set_cons_succ, i64_w, i32_w]
                rfl
              refine one_ (i := 10) (N := some 157) #[true, true, true, true, true, true, true, true, true, true, true, false] rfl rfl (by kernel_rfl) (by decide) (fun K hK => ?_)
              refine Kd.R_append_rows_step (Kd.int .u8) (Rr := (Kd.int .u8).K Wc2) (w0 := wr) wr.heap.size (by rfl) (.tmp 152) (.tmp 156) 22 5 (.int .u8 0) 1 rfl Tryd.underlying22 infoB rfl (by decide) (by omega) v3 (l0.take F.toNat) (l0.drop T.toNat) AT nT cT (fun _ => True) (fun _ => False) rfl rfl HV2.out (Kd.C_below HCT.out HB2.out) (fun _ _ h => h) (fun _ h => h.elim) (fun _ _ => trivial) HB2.out HB2.out.size (by rw [List.length_take]; omega) ?_
              intro v5 w5 hR hB _ _
              have H5 := Aside0.mk (And.intro hR hB)
              clear hR hB
              refine hK.out _ _ ⟨(blk_cell (blk_below BXr.out H5.out.2) 0).trans rfl, (blk_cell (blk_below BXr.out H5.out.2) 1).trans rfl⟩ (fun hHeld => ?_)
              clear hK K
              refine norm_ (a' := ?_) ?_ ?_
              rotate_left
              · show Act.put _ (some 157) _ = _
                simp only [Act.put, List.setIfInBounds_toArray, List.set_cons_zero, List.set_cons_succ, i64_w, i32_w]
                rfl
              refine pure_ (i := 11) (N := some 18) (v := ?_) (a' := ?_) #[true, true, true, true, true, true, true, true, true, true, true, true] rfl rfl (by kernel_rfl) (fun _ _ _ h => h) (Or.inl ⟨by rfl, ?_⟩) ?_ ?_
              rotate_left
              · intro w'
                go_simp
                with_reducible rfl
              rotate_left
              · simp only [Act.put, List.setIfInBounds_toArray, List.set_cons_zero, List.set_cons_succ, i64_w, i32_w]
                rfl
              refine done_ (by kernel_rfl) ?_

              clear hcutF hcutT
              rw [HJ.out] at H5
              obtain ⟨A5, c5, e5⟩ := Kd.R_slice H5.out.1
              subst e5
              have BR5 := Aside0.mk (blk_below BRr.out H5.out.2)
              have r0 := (blk_cell BR5.out 0).trans rfl
              have r1 := (blk_cell BR5.out 1).trans rfl
              have r2 := (blk_cell BR5.out 2).trans rfl
              have k1 := Kd.C_string (P := Tryd.prog) (c := c4) Tryd.underlying22 Tryd.underlying5 Tryd.underlying9 (Kd.C_below (Kd.R_reads' H4.out.2).2.2 (below_step HL.out.2 (below_step HR.out.2 H5.out.2)))
              have k2 := Kd.C_string (P := Tryd.prog) (c := cv) Tryd.underlying22 Tryd.underlying5 Tryd.underlying9 (Kd.C_below (Kd.R_reads' HL.out.1).2.2 (below_step HR.out.2 H5.out.2))
              have k3 := Kd.C_string (P := Tryd.prog) (c := c5) Tryd.underlying22 Tryd.underlying5 Tryd.underlying9 (Kd.R_reads' H5.out.1).2.2
              have k4 := Kd.C_string (P := Tryd.prog) (c := c6) Tryd.underlying22 Tryd.underlying5 Tryd.underlying9 (Kd.C_below (Kd.R_reads' HR.out.1).2.2 H5.out.2)
              go_wp2
              exact bodyPost_ret (v := .bool true) (by simp [results, Tryd.results3, go_sem]) rfl ⟨rfl, below_step H4.out.1 (below_step HL.out.2 (below_step HR.out.2 H5.out.2))⟩
            | succ g2 =>
              have q1 : ((i2 : Int) < (rows.length : Int)) = True := eq_true (by omega)
              by_cases hin : a ≤ i2 ∧ i2 ≤ b
              · have f1 : ((a : Int) ≤ (i2 : Int)) = True := eq_true (by omega)
                have f2 : ((i2 : Int) ≤ (b : Int)) = True := eq_true (by omega)
                have hO := Aside0.mk (oth_in (rows := rows) hin.1 hin.2)
                clear hin
                go_wp2
                go_roundg g2
                case measure => omega
                case rel => exact ⟨i2 + 1, _, by omega, by go_num, by rw [hO.out], rfl, ⟨by rw [hO.out]; exact HR.out.1, HR.out.2⟩⟩
              · have hir2 : i2 < rows.length := by omega
                obtain ⟨ad_, Ar, cr, ea, hy, hlc, hC⟩ := line_of HK4.out hir2
                obtain rfl := Option.some.inj ea
                have HY := Aside0.mk hy
                replace hy := pw_cell_below (below_step HL.out.2 HR.out.2) hy
                have hlow : i2 < a ∨ b < i2 := by omega
                have hO : Aside0 (othV rows a b (i2 + 1) = othV rows a b i2 ++ [rows.getD i2 []]) := ⟨hlow.elim (fun h => oth_low h hir2 hab) (fun h => oth_high h hir2 hab)⟩
                have hrl := row_le rows i2
                have hjl := oth_len rows a b i2
                have hcl := oth_cnt rows a b i2
                generalize rows.getD i2 [] = row at hy HY hlc hC hO hrl
                generalize othV rows a b i2 = Q at hO hjl hcl HR ⊢
                have HLN := Aside0.mk (show (jn Q).length + row.length + 1 ≤ 8000000 by omega)
                have hJ := Aside0.mk (jn_snoc Q row)
                generalize hQ : Q.length = n at hcl hJ ⊢
                have hnb : n ≤ 4000000 := by omega
                have HQ := Aside0.mk hQ
                clear hrl hjl hcl hin hQ
                have q2 : (0 ≤ (i2 : Int)) = True := eq_true (by omega)
                have q3 : ((i2 : Int) < (rows.length : Int)) = True := eq_true (by omega)
                rcases hlow with hlow | hlow
                · have f1 : ((a : Int) ≤ (i2 : Int)) = False := eq_false (by omega)
                  clear hlow
                  cases n with
                  | zero =>
                    have f3 : ((0 : Int) < ((0 : Nat) : Int)) = False := eq_false (by omega)
                    have hQ0 : Aside0 (Q = []) := ⟨List.eq_nil_of_length_eq_zero HQ.out⟩
                    go_wp2_with (first
                      | (at_builtin; refine Kd.R_append_row (Value.int .u8) (0 : Int) (h1 := fun _ => rfl) (w0 := W2) W2.heap.size rfl (.tmp 139) (.tmp 143) 22 5 (.int .u8 0) 1 rfl Tryd.underlying22 infoB rfl (by decide) v2 (jn Q) row Ar row.length cr (fun _ => True) rfl rfl (fun _ _ => trivial) HR.out.1 (Kd.C_below hC (below_step HL.out.2 HR.out.2)) HR.out.2 HR.out.2.size (by have h1 := HLN.out; omega) ?_; intro v8 w8 hR hB _ _; have H8 := Aside0.mk (And.intro hR hB); clear hR hB))
                    go_roundg g2
                    case measure => omega
                    case rel => exact ⟨i2 + 1, _, by omega, by go_num, by rw [hO.out, List.length_append, HQ.out]; rfl, rfl, ⟨by rw [hO.out, hJ.out]; (first | rw [if_pos rfl] | rw [if_pos trivial]); have h := H8.out.1; rw [hQ0.out] at h; exact h, H8.out.2⟩⟩
                  | succ n =>
                    have f3 : ((0 : Int) < ((n + 1 : Nat) : Int)) = True := eq_true (by omega)
                    go_wp2_with (first
                      | (at_builtin; refine Kd.R_append_row (Value.int .u8) (0 : Int) (h1 := fun _ => rfl) (w0 := W2) W2.heap.size rfl (.tmp 136) (.tmp 137) 22 5 (.int .u8 0) 1 rfl Tryd.underlying22 infoB rfl (by decide) v2 (jn Q) [10] (some ⟨wr.heap.size, 0, none⟩) 1 1 (fun _ => True) rfl rfl (fun _ _ => trivial) (Kd.R_alloc HR.out.1 (.cells #[.int .u8 10] 5)) (u8_C (xs := [10]) (fr := (0, 0)) (blk_new wr _) (by decide)) (HR.out.2.alloc HR.out.2.size _) (by have h := HR.out.2.size; simp only [World.size_alloc]; omega) (by have h1 := HLN.out; omega) ?_; intro v7 w7 hR hB _ _; have H7 := Aside0.mk (And.intro hR hB); clear hR hB; have hy7 := pw_cell_below (below_step HL.out.2 H7.out.2) HY.out)
                      | (at_builtin; refine Kd.R_append_row (Value.int .u8) (0 : Int) (h1 := fun _ => rfl) (w0 := W2) W2.heap.size rfl (.tmp 139) (.tmp 143) 22 5 (.int .u8 0) 1 rfl Tryd.underlying22 infoB rfl (by decide) v7 (jn Q ++ [10]) row Ar row.length cr (fun _ => True) rfl rfl (fun _ _ => trivial) H7.out.1 (Kd.C_below hC (below_step HL.out.2 H7.out.2)) H7.out.2 H7.out.2.size (by have h1 := HLN.out; rw [List.length_append, List.length_singleton]; omega) ?_; intro v8 w8 hR hB _ _; have H8 := Aside0.mk (And.intro hR hB); clear hR hB))
                    go_roundg g2
                    case measure => omega
                    case rel => exact ⟨i2 + 1, _, by omega, by go_num, by rw [hO.out, List.length_append, HQ.out, List.length_singleton]; go_num, rfl, ⟨by rw [hO.out, hJ.out, if_neg (by omega)]; have h := H8.out.1; rw [List.append_assoc] at h; exact h, H8.out.2⟩⟩
                · have f1 : ((a : Int) ≤ (i2 : Int)) = True := eq_true (by omega)
                  have f2 : ((i2 : Int) ≤ (b : Int)) = False := eq_false (by omega)
                  clear hlow
                  cases n with
                  | zero =>
                    have f3 : ((0 : Int) < ((0 : Nat) : Int)) = False := eq_false (by omega)
                    have hQ0 : Aside0 (Q = []) := ⟨List.eq_nil_of_length_eq_zero HQ.out⟩
                    go_wp2_with (first
                      | (at_builtin; refine Kd.R_append_row (Value.int .u8) (0 : Int) (h1 := fun _ => rfl) (w0 := W2) W2.heap.size rfl (.tmp 139) (.tmp 143) 22 5 (.int .u8 0) 1 rfl Tryd.underlying22 infoB rfl (by decide) v2 (jn Q) row Ar row.length cr (fun _ => True) rfl rfl (fun _ _ => trivial) HR.out.1 (Kd.C_below hC (below_step HL.out.2 HR.out.2)) HR.out.2 HR.out.2.size (by have h1 := HLN.out; omega) ?_; intro v8 w8 hR hB _ _; have H8 := Aside0.mk (And.intro hR hB); clear hR hB))
                    go_roundg g2
                    case measure => omega
                    case rel => exact ⟨i2 + 1, _, by omega, by go_num, by rw [hO.out, List.length_append, HQ.out]; rfl, rfl, ⟨by rw [hO.out, hJ.out]; (first | rw [if_pos rfl] | rw [if_pos trivial]); have h := H8.out.1; rw [hQ0.out] at h; exact h, H8.out.2⟩⟩
                  | succ n =>
                    have f3 : ((0 : Int) < ((n + 1 : Nat) : Int)) = True := eq_true (by omega)
                    go_wp2_with (first
                      | (at_builtin; refine Kd.R_append_row (Value.int .u8) (0 : Int) (h1 := fun _ => rfl) (w0 := W2) W2.heap.size rfl (.tmp 136) (.tmp 137) 22 5 (.int .u8 0) 1 rfl Tryd.underlying22 infoB rfl (by decide) v2 (jn Q) [10] (some ⟨wr.heap.size, 0, none⟩) 1 1 (fun _ => True) rfl rfl (fun _ _ => trivial) (Kd.R_alloc HR.out.1 (.cells #[.int .u8 10] 5)) (u8_C (xs := [10]) (fr := (0, 0)) (blk_new wr _) (by decide)) (HR.out.2.alloc HR.out.2.size _) (by have h := HR.out.2.size; simp only [World.size_alloc]; omega) (by have h1 := HLN.out; omega) ?_; intro v7 w7 hR hB _ _; have H7 := Aside0.mk (And.intro hR hB); clear hR hB; have hy7 := pw_cell_below (below_step HL.out.2 H7.out.2) HY.out)
                      | (at_builtin; refine Kd.R_append_row (Value.int .u8) (0 : Int) (h1 := fun _ => rfl) (w0 := W2) W2.heap.size rfl (.tmp 139) (.tmp 143) 22 5 (.int .u8 0) 1 rfl Tryd.underlying22 infoB rfl (by decide) v7 (jn Q ++ [10]) row Ar row.length cr (fun _ => True) rfl rfl (fun _ _ => trivial) H7.out.1 (Kd.C_below hC (below_step HL.out.2 H7.out.2)) H7.out.2 H7.out.2.size (by have h1 := HLN.out; rw [List.length_append, List.length_singleton]; omega) ?_; intro v8 w8 hR hB _ _; have H8 := Aside0.mk (And.intro hR hB); clear hR hB))
                    go_roundg g2
                    case measure => omega
                    case rel => exact ⟨i2 + 1, _, by omega, by go_num, by rw [hO.out, List.length_append, HQ.out, List.length_singleton]; go_num, rfl, ⟨by rw [hO.out, hJ.out, if_neg (by omega)]; have h := H8.out.1; rw [List.append_assoc] at h; exact h, H8.out.2⟩⟩
        | succ g =>
          have q1 : ((i : Int) ≤ (b : Int)) = True := eq_true (by omega)
          have hir : i < rows.length := by omega
          obtain ⟨ad_, Ar, cr, ea, hy, hlc, hC⟩ := line_of HK4.out hir
          obtain rfl := Option.some.inj ea
          replace hy := pw_cell_below HL.out.2 hy
          have HW := Aside0.mk (want_step hai hir)
          have hrl := row_le rows i
          have hjl := lnN_sub rows a (i - a)
          generalize rows.getD i [] = row at hy hlc hC HW hrl
          have HLN := Aside0.mk (show (lnN ((rows.drop a).take (i - a))).length + row.length + 1 ≤ 4000000 by omega)
          clear hrl hjl
          have q2 : (0 ≤ (i : Int)) = True := eq_true (by omega)
          have q3 : ((i : Int) < (rows.length : Int)) = True := eq_true (by omega)
          go_wp2_with (first
            | (at_builtin; refine Kd.R_append_row (Value.int .u8) (0 : Int) (h1 := fun _ => rfl) (w0 := W) W.heap.size rfl (.tmp 112) (.tmp 116) 22 5 (.int .u8 0) 1 rfl Tryd.underlying22 infoB rfl (by decide) v (lnN ((rows.drop a).take (i - a))) row Ar row.length cr (fun _ => True) rfl rfl (fun _ _ => trivial) HL.out.1 (Kd.C_below hC HL.out.2) HL.out.2 HL.out.2.size (by have h1 := HLN.out; omega) ?_; intro v5 w5 hR hB _ _; have H5 := Aside0.mk (And.intro hR hB); clear hR hB)
            | (at_builtin; refine Kd.R_append_row (Value.int .u8) (0 : Int) (h1 := fun _ => rfl) (w0 := W) W.heap.size rfl (.tmp 117) (.tmp 118) 22 5 (.int .u8 0) 1 rfl Tryd.underlying22 infoB rfl (by decide) v5 (lnN ((rows.drop a).take (i - a)) ++ row) [10] (some ⟨w5.heap.size, 0, none⟩) 1 1 (fun _ => True) rfl rfl (fun _ _ => trivial) (Kd.R_alloc H5.out.1 (.cells #[.int .u8 10] 5)) (u8_C (xs := [10]) (fr := (0, 0)) (blk_new w5 _) (by decide)) (H5.out.2.alloc H5.out.2.size _) (by have h := H5.out.2.size; simp only [World.size_alloc]; omega) (by have h1 := HLN.out; rw [List.length_append]; omega) ?_; intro v6 w6 hR hB _ _; have H6 := Aside0.mk (And.intro hR hB); clear hR hB))
          go_roundg g
          case measure => omega
          case rel => exact ⟨i + 1, _, _, by omega, by omega, by go_num, rfl, rfl, ⟨by rw [HW.out]; exact H6.out.1, H6.out.2⟩⟩
    · skip
      go_enter Tryd.func3, Tryd.ntmps3
      go_wp2_with (first
        | (go_at_call 4; (with_reducible refine (HA.out _).mono ?_); rintro e w1 ⟨rfl, hx⟩; have H1 := Aside0.mk hx; clear hx)
        | (go_at_call 5; (with_reducible refine (HSP.out _ H1.out).mono ?_); rintro e w2 ⟨vs, rfl, hy1, hy2⟩; have HS := Aside0.mk (And.intro hy1 (below_step H1.out hy2)); clear hy1 hy2; obtain ⟨AS, cS, eS⟩ := Kd.R_slice (Kd.S_R HS.out.1); subst eS; have HK2 := Aside0.mk (Kd.R_reads' (Kd.S_R HS.out.1)).2.2; obtain ⟨ad, _, _, eA, _⟩ := line_of HK2.out hn0; subst eA)
        | (go_at_call 6; (with_reducible refine (HWH.out _ HS.out.2).mono ?_); rintro e w3 ⟨rfl, hx⟩; have H3 := Aside0.mk (below_alloc (below_step HS.out.2 hx) (.cells #[.int .i64 F, .int .i64 T, .bool true, .bool D] 27)); have HK3 := Aside0.mk (Kd.C_alloc (Kd.C_below HK2.out hx) (.cells #[.int .i64 F, .int .i64 T, .bool true, .bool D] 27)); clear hx; have BN3 := Aside0.mk (blk_new w3 (.cells #[.int .i64 F, .int .i64 T, .bool true, .bool D] 27)); have x0 := (blk_cell BN3.out 0).trans rfl; have x1 := (blk_cell BN3.out 1).trans rfl; have x2 := (blk_cell BN3.out 2).trans rfl; have x3 := (blk_cell BN3.out 3).trans rfl)
        | (go_at_call 7; (with_reducible refine (HTK.out _ H3.out).mono ?_); rintro e w4 ⟨v4, rfl, hr, hx⟩; obtain ⟨A4, c4, ev⟩ := Kd.R_slice hr; subst ev; have H4 := Aside0.mk (And.intro (below_alloc (below_step H3.out hx) (.cells #[.bool true, .bool true, .slice A4 (lnN ((rows.drop a).take m)).length c4] 32)) (Kd.R_alloc hr (.cells #[.bool true, .bool true, .slice A4 (lnN ((rows.drop a).take m)).length c4] 32))); have BX4 := Aside0.mk (blk_alloc (blk_below BN3.out hx) (.cells #[.bool true, .bool true, .slice A4 (lnN ((rows.drop a).take m)).length c4] 32)); have BR4 := Aside0.mk (blk_new w4 (.cells #[.bool true, .bool true, .slice A4 (lnN ((rows.drop a).take m)).length c4] 32)); have HK4 := Aside0.mk (Kd.C_alloc (Kd.C_below HK3.out hx) (.cells #[.bool true, .bool true, .slice A4 (lnN ((rows.drop a).take m)).length c4] 32)); clear hx hr; obtain ⟨ad_, Ab, cb, ea, hyb, _, _⟩ := line_of HK4.out hbn; obtain rfl := Option.some.inj ea; rw [HLB.out] at hyb))
      clear hyb
      generalize (w4.alloc (.cells #[.bool true, .bool true, .slice A4 (lnN ((rows.drop a).take m)).length c4] 32)) = W at H4 BX4 BR4 HK4 ⊢
      go_loopg [12, 15] m (fun g v12 v15 wl => ∃ (i : Nat) (v : Value) (W2 : World), i + g = a + m ∧ a ≤ i ∧ v15 = .int .i64 (i : Int) ∧ v = v12 ∧ W2 = wl ∧ Aside0 ((Kd.int .u8).R 5 wl W.heap.size (fun _ => True) v (lnN ((rows.drop a).take (i - a))) ∧ Below W.heap.size W wl))
      case atStart => exact ⟨a, .slice none 0 0, W, by omega, Nat.le_refl _, rfl, rfl, rfl, ⟨by rw [Nat.sub_self, List.take_zero]; exact Kd.R_nil _ _ _ _ _, Below.refl _ _⟩⟩
      case round =>
        obtain ⟨i, v, W2, hi, hai, rfl, rfl, rfl, HL⟩ := hrel
        cases gk with
        | zero =>
          have q1 : ((i : Int) ≤ (b : Int)) = False := eq_false (by omega)
          obtain rfl : i = a + m := by omega
          rw [Nat.add_sub_cancel_left] at HL
          obtain ⟨Av, cv, ev⟩ := Kd.R_slice HL.out.1
          subst ev
          go_wp2
          clear q1
          go_loopg [13, 16, 17] rows.length (fun g v13 v16 v17 wr => ∃ (i : Nat) (v : Value), i + g = rows.length ∧ v17 = .int .i64 (i : Int) ∧ v16 = .int .i64 ((othV rows a b i).length : Int) ∧ v = v13 ∧ Aside0 ((Kd.int .u8).R 5 wr W2.heap.size (fun _ => True) v (jn (othV rows a b i)) ∧ Below W2.heap.size W2 wr))
          case atStart => exact ⟨0, .slice none 0 0, by omega, rfl, by rw [oth_zero]; rfl, rfl, ⟨by rw [oth_zero]; exact Kd.R_nil _ _ _ _ _, Below.refl _ _⟩⟩
          case round =>
            obtain ⟨i2, v2, hi2, rfl, rfl, rfl, HR⟩ := hrel
            cases gk with
            | zero =>
              obtain rfl : i2 = rows.length := by omega
              obtain ⟨J, hJJ⟩ : ∃ J, l0.take F.toNat ++ l0.drop T.toNat = J := ⟨_, rfl⟩
              have hJ := ((congrArg jn (oth_all (rows := rows) (a := a) (b := b) (by omega))).trans hrest.symm).trans hJJ
              rw [hJ] at HR
              obtain ⟨A6, c6, e6⟩ := Kd.R_slice HR.out.1
              subst e6
              have HJ := Aside0.mk hJJ
              clear hJ hJJ hrest
              have BXr := Aside0.mk (blk_below (blk_below BX4.out HL.out.2) HR.out.2)
              have BRr := Aside0.mk (blk_below (blk_below BR4.out HL.out.2) HR.out.2)
              have HCr := Aside0.mk (Kd.C_below HC0.out.1 (below_step H4.out.1 (below_step HL.out.2 HR.out.2)))
              have HCF := Aside0.mk (show (Kd.int .u8).C wr A0 F.toNat (l0.take F.toNat) from by have h := Kd.C_take (m := F.toNat) HCr.out (by omega); rw [List.length_take, Nat.min_eq_left (by omega)] at h; exact h)
              have HCT := Aside0.mk (show (Kd.int .u8).C wr (if c0 = T.toNat then A0 else A0.map (·.add (T.toNat * 1))) (l0.length - T.toNat) (l0.drop T.toNat) from by have h := Kd.C_drop (m := T.toNat) HCr.out (by omega) HC0.out.2; rw [List.length_drop] at h; exact h)
              obtain ⟨i0, hi0, hsz⟩ : ∃ i, Tryd.prog.info? 5 = some i ∧ i.size = 1 := ⟨_, rfl, rfl⟩
              have hcutF := cut_to (P := Tryd.prog) 22 5 .i64 Tryd.underlying22 hi0 A0 l0.length c0 F hF0 (by omega) HC0.out.2
              have hcutT := cut_from (P := Tryd.prog) 22 5 .i64 Tryd.underlying22 hi0 1 hsz A0 l0.length c0 T (by omega) hTl
              generalize (if c0 = T.toNat then A0 else A0.map (·.add (T.toNat * 1))) = AT at hcutT HCT
              obtain ⟨nT, hnT⟩ : ∃ nT, l0.length - T.toNat = nT := ⟨_, rfl⟩
              obtain ⟨cT, hcT⟩ : ∃ cT, c0 - T.toNat = cT := ⟨_, rfl⟩
              have hnl : nT ≤ l0.length := by omega
              rw [hnT, hcT] at hcutT
              rw [hnT] at HCT
              clear hi0 hsz hnT hcT
              go_wp2
              refine start_ (n := 12) (S := fun w' => w'.cell? ⟨w3.heap.size, 0, none⟩ = some (.int .i64 F) ∧ w'.cell? ⟨w3.heap.size, 1, none⟩ = some (.int .i64 T)) (ds := []) #[false, false, false, false, false, false, false, false, false, false, false, false] (by kernel_rfl) rfl rfl ⟨(blk_cell (blk_drew BXr.out) 0).trans rfl, (blk_cell (blk_drew BXr.out) 1).trans rfl⟩ (fun hHeld => ?_)
              have HB0 := Aside0.mk (below_drew (Below.refl wr.heap.size wr))
              generalize wr.drew = Wc0 at HB0 hHeld ⊢
              refine pure_ (i := 1) (N := some 148) (v := ?_) (a' := ?_) #[false, true, false, false, false, false, false, false, false, false, false, false] rfl rfl (by kernel_rfl) (fun _ _ _ h => h) (Or.inl ⟨by rfl, ?_⟩) ?_ ?_
              rotate_left
              · intro w'
                go_simp
                with_reducible rfl
              rotate_left
              · simp only [Act.put, List.setIfInBounds_toArray, List.set_cons_zero, List.set_cons_succ, i64_w, i32_w]
                rfl
              refine pure_ (i := 2) (N := some 149) (v := ?_) (a' := ?_) #[false, true, true, false, false, false, false, false, false, false, false, false] rfl rfl (by kernel_rfl) (fun _ _ _ h => h) (Or.inl ⟨by rfl, ?_⟩) ?_ ?_
              rotate_left
              · intro w'
                go_simp
                with_reducible rfl
              rotate_left
              · simp only [Act.put, List.setIfInBounds_toArray, List.set_cons_zero, List.set_cons_succ, i64_w, i32_w]
                rfl
              refine pure_ (i := 6) (N := some 153) (v := ?_) (a' := ?_) #[false, true, true, false, false, false, true, false, false, false, false, false] rfl rfl (by kernel_rfl) (fun _ _ _ h => h) (Or.inl ⟨by rfl, ?_⟩) ?_ ?_
              rotate_left
              · intro w'
                go_simp
                with_reducible rfl
              rotate_left
              · simp only [Act.put, List.setIfInBounds_toArray, List.set_cons_zero, List.set_cons_succ, i64_w, i32_w]
                rfl
              refine pure_ (i := 7) (N := some 154) (v := ?_) (a' := ?_) #[false, true, true, false, false, false, true, true, false, false, false, false] rfl rfl (by kernel_rfl) (fun _ _ _ h => h) (Or.inl ⟨by rfl, ?_⟩) ?_ ?_
              rotate_left
              · intro w'
                go_simp
                with_reducible rfl
              rotate_left
              · simp only [Act.put, List.setIfInBounds_toArray, List.set_cons_zero, List.set_cons_succ, i64_w, i32_w]
                rfl
              refine take_ (i := 3) (N := some 150) (v := ?_) (a' := ?_) #[false, true, true, true, false, false, true, true, false, false, false, false] rfl rfl (by kernel_rfl) (fun _ _ _ h => h) (Or.inl ⟨by rfl, ?_⟩) hHeld ?_ ?_
              rotate_left
              · rintro w' ⟨s0, s1⟩
                go_simp
                with_reducible rfl
              rotate_left
              · simp only [Act.put, List.setIfInBounds_toArray, List.set_cons_zero, List.set_cons_succ, i64_w, i32_w]
                rfl
              refine pure_ (i := 4) (N := some 151) (v := ?_) (a' := ?_) #[false, true, true, true, true, false, true, true, false, false, false, false] rfl rfl (by kernel_rfl) (fun _ _ _ h => h) (Or.inl ⟨by rfl, ?_⟩) ?_ ?_
              rotate_left
              · intro w'
                go_simp
                with_reducible rfl
              rotate_left
              · simp only [Act.put, List.setIfInBounds_toArray, List.set_cons_zero, List.set_cons_succ, i64_w, i32_w]
                rfl
              refine take_ (i := 8) (N := some 155) (v := ?_) (a' := ?_) #[false, true, true, true, true, false, true, true, true, false, false, false] rfl rfl (by kernel_rfl) (fun _ _ _ h => h) (Or.inl ⟨by rfl, ?_⟩) hHeld ?_ ?_
              rotate_left
              · rintro w' ⟨s0, s1⟩
                go_simp
                with_reducible rfl
              rotate_left
              · simp only [Act.put, List.setIfInBounds_toArray, List.set_cons_zero, List.set_cons_succ, i64_w, i32_w]
                rfl
              refine pure_ (i := 9) (N := some 156) (v := ?_) (a' := ?_) #[false, true, true, true, true, false, true, true, true, true, false, false] rfl rfl (by kernel_rfl) (fun _ _ _ h => h) (Or.inl ⟨by rfl, ?_⟩) ?_ ?_
              rotate_left
              · intro w'
                go_simp
                with_reducible rfl
              rotate_left
              · simp only [Act.put, List.setIfInBounds_toArray, List.set_cons_zero, List.set_cons_succ, i64_w, i32_w]
                rfl
              refine one_ (i := 0) (N := some 147) #[true, true, true, true, true, false, true, true, true, true, false, false] rfl rfl (by kernel_rfl) (by decide) (fun K hK => ?_)
              refine value_ (w1 := ?_) (v := ?_) (by rfl) rfl ?_ ?_
              rotate_left 2
              · go_simp
                constructor
                · rfl
                · rfl
              have HB1 := Aside0.mk (below_alloc HB0.out (.cells #[] 5))
              have HE1 := Aside0.mk (Kd.R_lower (empty_R Wc0) HB0.out.size)
              generalize eW : (Wc0.alloc (.cells #[] 5)) = Wc1 at HB1 HE1 ⊢
              clear eW
              refine hK.out _ _ ⟨(blk_cell (blk_below BXr.out HB1.out) 0).trans rfl, (blk_cell (blk_below BXr.out HB1.out) 1).trans rfl⟩ (fun hHeld => ?_)
              clear hK K
              refine norm_ (a' := ?_) ?_ ?_
              rotate_left
              · show Act.put _ (some 147) _ = _
                simp only [Act.put, List.setIfInBounds_toArray, List.set_cons_zero, List.set_cons_succ, i64_w, i32_w]
                rfl
              refine one_ (i := 5) (N := some 152) #[true, true, true, true, true, true, true, true, true, true, false, false] rfl rfl (by kernel_rfl) (by decide) (fun K hK => ?_)
              refine Kd.R_append_rows_step (Kd.int .u8) (Rr := (Kd.int .u8).K Wc1) (w0 := wr) wr.heap.size (by rfl) (.tmp 147) (.tmp 151) 22 5 (.int .u8 0) 1 rfl Tryd.underlying22 infoB rfl (by decide) (by omega) (.slice (some ⟨Wc0.heap.size, 0, none⟩) 0 0) [] (l0.take F.toNat) A0 F.toNat c0 (fun _ => True) (fun _ => False) rfl rfl HE1.out (Kd.C_below HCF.out HB1.out) (fun _ _ h => h) (fun _ h => h.elim) (fun _ _ => trivial) HB1.out HB1.out.size (by simp only [List.length_nil]; omega) ?_
              intro v3 Wc2 hR hB _ _
              rw [List.nil_append] at hR
              have HV2 := Aside0.mk hR
              have HB2 := Aside0.mk hB
              clear hR hB
              refine hK.out _ _ ⟨(blk_cell (blk_below BXr.out HB2.out) 0).trans rfl, (blk_cell (blk_below BXr.out HB2.out) 1).trans rfl⟩ (fun hHeld => ?_)
              clear hK K
              refine norm_ (a' := ?_) ?_ ?_
              rotate_left
              · show Act.put _ (some 152) _ = _
                simp only [Act.put, List.setIfInBounds_toArray, List.set_cons_zero, List.set_cons_succ, i64_w, i32_w]
                rfl
              refine one_ (i := 10) (N := some 157) #[true, true, true, true, true, true, true, true, true, true, true, false] rfl rfl (by kernel_rfl) (by decide) (fun K hK => ?_)
              refine Kd.R_append_rows_step (Kd.int .u8) (Rr := (Kd.int .u8).K Wc2) (w0 := wr) wr.heap.size (by rfl) (.tmp 152) (.tmp 156) 22 5 (.int .u8 0) 1 rfl Tryd.underlying22 infoB rfl (by decide) (by omega) v3 (l0.take F.toNat) (l0.drop T.toNat) AT nT cT (fun _ => True) (fun _ => False) rfl rfl HV2.out (Kd.C_below HCT.out HB2.out) (fun _ _ h => h) (fun _ h => h.elim) (fun _ _ => trivial) HB2.out HB2.out.size (by rw [List.length_take]; omega) ?_
              intro v5 w5 hR hB _ _
              have H5 := Aside0.mk (And.intro hR hB)
              clear hR hB
              refine hK.out _ _ ⟨(blk_cell (blk_below BXr.out H5.out.2) 0).trans rfl, (blk_cell (blk_below BXr.out H5.out.2) 1).trans rfl⟩ (fun hHeld => ?_)
              clear hK K
              refine norm_ (a' := ?_) ?_ ?_
              rotate_left
              · show Act.put _ (some 157) _ = _
                simp only [Act.put, List.setIfInBounds_toArray, List.set_cons_zero, List.set_cons_succ, i64_w, i32_w]
                rfl
              refine pure_ (i := 11) (N := some 18) (v := ?_) (a' := ?_) #[true, true, true, true, true, true, true, true, true, true, true, true] rfl rfl (by kernel_rfl) (fun _ _ _ h => h) (Or.inl ⟨by rfl, ?_⟩) ?_ ?_
              rotate_left
              · intro w'
                go_simp
                with_reducible rfl
              rotate_left
              · simp only [Act.put, List.setIfInBounds_toArray, List.set_cons_zero, List.set_cons_succ, i64_w, i32_w]
                rfl
              refine done_ (by kernel_rfl) ?_

              clear hcutF hcutT
              rw [HJ.out] at H5
              obtain ⟨A5, c5, e5⟩ := Kd.R_slice H5.out.1
              subst e5
              have BR5 := Aside0.mk (blk_below BRr.out H5.out.2)
              have r0 := (blk_cell BR5.out 0).trans rfl
              have r1 := (blk_cell BR5.out 1).trans rfl
              have r2 := (blk_cell BR5.out 2).trans rfl
              have k1 := Kd.C_string (P := Tryd.prog) (c := c4) Tryd.underlying22 Tryd.underlying5 Tryd.underlying9 (Kd.C_below (Kd.R_reads' H4.out.2).2.2 (below_step HL.out.2 (below_step HR.out.2 H5.out.2)))
              have k2 := Kd.C_string (P := Tryd.prog) (c := cv) Tryd.underlying22 Tryd.underlying5 Tryd.underlying9 (Kd.C_below (Kd.R_reads' HL.out.1).2.2 (below_step HR.out.2 H5.out.2))
              have k3 := Kd.C_string (P := Tryd.prog) (c := c5) Tryd.underlying22 Tryd.underlying5 Tryd.underlying9 (Kd.R_reads' H5.out.1).2.2
              have k4 := Kd.C_string (P := Tryd.prog) (c := c6) Tryd.underlying22 Tryd.underlying5 Tryd.underlying9 (Kd.C_below (Kd.R_reads' HR.out.1).2.2 H5.out.2)
              go_wp2
              exact bodyPost_ret (v := .bool true) (by simp [results, Tryd.results3, go_sem]) rfl ⟨rfl, below_step H4.out.1 (below_step HL.out.2 (below_step HR.out.2 H5.out.2))⟩
            | succ g2 =>
              have q1 : ((i2 : Int) < (rows.length : Int)) = True := eq_true (by omega)
              by_cases hin : a ≤ i2 ∧ i2 ≤ b
              · have f1 : ((a : Int) ≤ (i2 : Int)) = True := eq_true (by omega)
                have f2 : ((i2 : Int) ≤ (b : Int)) = True := eq_true (by omega)
                have hO := Aside0.mk (oth_in (rows := rows) hin.1 hin.2)
                clear hin
                go_wp2
                go_roundg g2
                case measure => omega
                case rel => exact ⟨i2 + 1, _, by omega, by go_num, by rw [hO.out], rfl, ⟨by rw [hO.out]; exact HR.out.1, HR.out.2⟩⟩
              · have hir2 : i2 < rows.length := by omega
                obtain ⟨ad_, Ar, cr, ea, hy, hlc, hC⟩ := line_of HK4.out hir2
                obtain rfl := Option.some.inj ea
                have HY := Aside0.mk hy
                replace hy := pw_cell_below (below_step HL.out.2 HR.out.2) hy
                have hlow : i2 < a ∨ b < i2 := by omega
                have hO : Aside0 (othV rows a b (i2 + 1) = othV rows a b i2 ++ [rows.getD i2 []]) := ⟨hlow.elim (fun h => oth_low h hir2 hab) (fun h => oth_high h hir2 hab)⟩
                have hrl := row_le rows i2
                have hjl := oth_len rows a b i2
                have hcl := oth_cnt rows a b i2
                generalize rows.getD i2 [] = row at hy HY hlc hC hO hrl
                generalize othV rows a b i2 = Q at hO hjl hcl HR ⊢
                have HLN := Aside0.mk (show (jn Q).length + row.length + 1 ≤ 8000000 by omega)
                have hJ := Aside0.mk (jn_snoc Q row)
                generalize hQ : Q.length = n at hcl hJ ⊢
                have hnb : n ≤ 4000000 := by omega
                have HQ := Aside0.mk hQ
                clear hrl hjl hcl hin hQ
                have q2 : (0 ≤ (i2 : Int)) = True := eq_true (by omega)
                have q3 : ((i2 : Int) < (rows.length : Int)) = True := eq_true (by omega)
                rcases hlow with hlow | hlow
                · have f1 : ((a : Int) ≤ (i2 : Int)) = False := eq_false (by omega)
                  clear hlow
                  cases n with
                  | zero =>
                    have f3 : ((0 : Int) < ((0 : Nat) : Int)) = False := eq_false (by omega)
                    have hQ0 : Aside0 (Q = []) := ⟨List.eq_nil_of_length_eq_zero HQ.out⟩
                    go_wp2_with (first
                      | (at_builtin; refine Kd.R_append_row (Value.int .u8) (0 : Int) (h1 := fun _ => rfl) (w0 := W2) W2.heap.size rfl (.tmp 139) (.tmp 143) 22 5 (.int .u8 0) 1 rfl Tryd.underlying22 infoB rfl (by decide) v2 (jn Q) row Ar row.length cr (fun _ => True) rfl rfl (fun _ _ => trivial) HR.out.1 (Kd.C_below hC (below_step HL.out.2 HR.out.2)) HR.out.2 HR.out.2.size (by have h1 := HLN.out; omega) ?_; intro v8 w8 hR hB _ _; have H8 := Aside0.mk (And.intro hR hB); clear hR hB))
                    go_roundg g2
                    case measure => omega
                    case rel => exact ⟨i2 + 1, _, by omega, by go_num, by rw [hO.out, List.length_append, HQ.out]; rfl, rfl, ⟨by rw [hO.out, hJ.out]; (first | rw [if_pos rfl] | rw [if_pos trivial]); have h := H8.out.1; rw [hQ0.out] at h; exact h, H8.out.2⟩⟩
                  | succ n =>
                    have f3 : ((0 : Int) < ((n + 1 : Nat) : Int)) = True := eq_true (by omega)
                    go_wp2_with (first
                      | (at_builtin; refine Kd.R_append_row (Value.int .u8) (0 : Int) (h1 := fun _ => rfl) (w0 := W2) W2.heap.size rfl (.tmp 136) (.tmp 137) 22 5 (.int .u8 0) 1 rfl Tryd.underlying22 infoB rfl (by decide) v2 (jn Q) [10] (some ⟨wr.heap.size, 0, none⟩) 1 1 (fun _ => True) rfl rfl (fun _ _ => trivial) (Kd.R_alloc HR.out.1 (.cells #[.int .u8 10] 5)) (u8_C (xs := [10]) (fr := (0, 0)) (blk_new wr _) (by decide)) (HR.out.2.alloc HR.out.2.size _) (by have h := HR.out.2.size; simp only [World.size_alloc]; omega) (by have h1 := HLN.out; omega) ?_; intro v7 w7 hR hB _ _; have H7 := Aside0.mk (And.intro hR hB); clear hR hB; have hy7 := pw_cell_below (below_step HL.out.2 H7.out.2) HY.out)
                      | (at_builtin; refine Kd.R_append_row (Value.int .u8) (0 : Int) (h1 := fun _ => rfl) (w0 := W2) W2.heap.size rfl (.tmp 139) (.tmp 143) 22 5 (.int .u8 0) 1 rfl Tryd.underlying22 infoB rfl (by decide) v7 (jn Q ++ [10]) row Ar row.length cr (fun _ => True) rfl rfl (fun _ _ => trivial) H7.out.1 (Kd.C_below hC (below_step HL.out.2 H7.out.2)) H7.out.2 H7.out.2.size (by have h1 := HLN.out; rw [List.length_append, List.length_singleton]; omega) ?_; intro v8 w8 hR hB _ _; have H8 := Aside0.mk (And.intro hR hB); clear hR hB))
                    go_roundg g2
                    case measure => omega
                    case rel => exact ⟨i2 + 1, _, by omega, by go_num, by rw [hO.out, List.length_append, HQ.out, List.length_singleton]; go_num, rfl, ⟨by rw [hO.out, hJ.out, if_neg (by omega)]; have h := H8.out.1; rw [List.append_assoc] at h; exact h, H8.out.2⟩⟩
                · have f1 : ((a : Int) ≤ (i2 : Int)) = True := eq_true (by omega)
                  have f2 : ((i2 : Int) ≤ (b : Int)) = False := eq_false (by omega)
                  clear hlow
                  cases n with
                  | zero =>
                    have f3 : ((0 : Int) < ((0 : Nat) : Int)) = False := eq_false (by omega)
                    have hQ0 : Aside0 (Q = []) := ⟨List.eq_nil_of_length_eq_zero HQ.out⟩
                    go_wp2_with (first
                      | (at_builtin; refine Kd.R_append_row (Value.int .u8) (0 : Int) (h1 := fun _ => rfl) (w0 := W2) W2.heap.size rfl (.tmp 139) (.tmp 143) 22 5 (.int .u8 0) 1 rfl Tryd.underlying22 infoB rfl (by decide) v2 (jn Q) row Ar row.length cr (fun _ => True) rfl rfl (fun _ _ => trivial) HR.out.1 (Kd.C_below hC (below_step HL.out.2 HR.out.2)) HR.out.2 HR.out.2.size (by have h1 := HLN.out; omega) ?_; intro v8 w8 hR hB _ _; have H8 := Aside0.mk (And.intro hR hB); clear hR hB))
                    go_roundg g2
                    case measure => omega
                    case rel => exact ⟨i2 + 1, _, by omega, by go_num, by rw [hO.out, List.length_append, HQ.out]; rfl, rfl, ⟨by rw [hO.out, hJ.out]; (first | rw [if_pos rfl] | rw [if_pos trivial]); have h := H8.out.1; rw [hQ0.out] at h; exact h, H8.out.2⟩⟩
                  | succ n =>
                    have f3 : ((0 : Int) < ((n + 1 : Nat) : Int)) = True := eq_true (by omega)
                    go_wp2_with (first
                      | (at_builtin; refine Kd.R_append_row (Value.int .u8) (0 : Int) (h1 := fun _ => rfl) (w0 := W2) W2.heap.size rfl (.tmp 136) (.tmp 137) 22 5 (.int .u8 0) 1 rfl Tryd.underlying22 infoB rfl (by decide) v2 (jn Q) [10] (some ⟨wr.heap.size, 0, none⟩) 1 1 (fun _ => True) rfl rfl (fun _ _ => trivial) (Kd.R_alloc HR.out.1 (.cells #[.int .u8 10] 5)) (u8_C (xs := [10]) (fr := (0, 0)) (blk_new wr _) (by decide)) (HR.out.2.alloc HR.out.2.size _) (by have h := HR.out.2.size; simp only [World.size_alloc]; omega) (by have h1 := HLN.out; omega) ?_; intro v7 w7 hR hB _ _; have H7 := Aside0.mk (And.intro hR hB); clear hR hB; have hy7 := pw_cell_below (below_step HL.out.2 H7.out.2) HY.out)
                      | (at_builtin; refine Kd.R_append_row (Value.int .u8) (0 : Int) (h1 := fun _ => rfl) (w0 := W2) W2.heap.size rfl (.tmp 139) (.tmp 143) 22 5 (.int .u8 0) 1 rfl Tryd.underlying22 infoB rfl (by decide) v7 (jn Q ++ [10]) row Ar row.length cr (fun _ => True) rfl rfl (fun _ _ => trivial) H7.out.1 (Kd.C_below hC (below_step HL.out.2 H7.out.2)) H7.out.2 H7.out.2.size (by have h1 := HLN.out; rw [List.length_append, List.length_singleton]; omega) ?_; intro v8 w8 hR hB _ _; have H8 := Aside0.mk (And.intro hR hB); clear hR hB))
                    go_roundg g2
                    case measure => omega
                    case rel => exact ⟨i2 + 1, _, by omega, by go_num, by rw [hO.out, List.length_append, HQ.out, List.length_singleton]; go_num, rfl, ⟨by rw [hO.out, hJ.out, if_neg (by omega)]; have h := H8.out.1; rw [List.append_assoc] at h; exact h, H8.out.2⟩⟩
        | succ g =>
          have q1 : ((i : Int) ≤ (b : Int)) = True := eq_true (by omega)
          have hir : i < rows.length := by omega
          obtain ⟨ad_, Ar, cr, ea, hy, hlc, hC⟩ := line_of HK4.out hir
          obtain rfl := Option.some.inj ea
          replace hy := pw_cell_below HL.out.2 hy
          have HW := Aside0.mk (want_step hai hir)
          have hrl := row_le rows i
          have hjl := lnN_sub rows a (i - a)
          generalize rows.getD i [] = row at hy hlc hC HW hrl
          have HLN := Aside0.mk (show (lnN ((rows.drop a).take (i - a))).length + row.length + 1 ≤ 4000000 by omega)
          clear hrl hjl
          have q2 : (0 ≤ (i : Int)) = True := eq_true (by omega)
          have q3 : ((i : Int) < (rows.length : Int)) = True := eq_true (by omega)
          go_wp2_with (first
            | (at_builtin; refine Kd.R_append_row (Value.int .u8) (0 : Int) (h1 := fun _ => rfl) (w0 := W) W.heap.size rfl (.tmp 112) (.tmp 116) 22 5 (.int .u8 0) 1 rfl Tryd.underlying22 infoB rfl (by decide) v (lnN ((rows.drop a).take (i - a))) row Ar row.length cr (fun _ => True) rfl rfl (fun _ _ => trivial) HL.out.1 (Kd.C_below hC HL.out.2) HL.out.2 HL.out.2.size (by have h1 := HLN.out; omega) ?_; intro v5 w5 hR hB _ _; have H5 := Aside0.mk (And.intro hR hB); clear hR hB)
            | (at_builtin; refine Kd.R_append_row (Value.int .u8) (0 : Int) (h1 := fun _ => rfl) (w0 := W) W.heap.size rfl (.tmp 117) (.tmp 118) 22 5 (.int .u8 0) 1 rfl Tryd.underlying22 infoB rfl (by decide) v5 (lnN ((rows.drop a).take (i - a)) ++ row) [10] (some ⟨w5.heap.size, 0, none⟩) 1 1 (fun _ => True) rfl rfl (fun _ _ => trivial) (Kd.R_alloc H5.out.1 (.cells #[.int .u8 10] 5)) (u8_C (xs := [10]) (fr := (0, 0)) (blk_new w5 _) (by decide)) (H5.out.2.alloc H5.out.2.size _) (by have h := H5.out.2.size; simp only [World.size_alloc]; omega) (by have h1 := HLN.out; rw [List.length_append]; omega) ?_; intro v6 w6 hR hB _ _; have H6 := Aside0.mk (And.intro hR hB); clear hR hB))
          go_roundg g
          case measure => omega
          case rel => exact ⟨i + 1, _, _, by omega, by omega, by go_num, rfl, rfl, ⟨by rw [HW.out]; exact H6.out.1, H6.out.2⟩⟩
    · skip
      go_enter Tryd.func3, Tryd.ntmps3
      go_wp2_with (first
        | (go_at_call 4; (with_reducible refine (HA.out _).mono ?_); rintro e w1 ⟨rfl, hx⟩; have H1 := Aside0.mk hx; clear hx)
        | (go_at_call 5; (with_reducible refine (HSP.out _ H1.out).mono ?_); rintro e w2 ⟨vs, rfl, hy1, hy2⟩; have HS := Aside0.mk (And.intro hy1 (below_step H1.out hy2)); clear hy1 hy2; obtain ⟨AS, cS, eS⟩ := Kd.R_slice (Kd.S_R HS.out.1); subst eS; have HK2 := Aside0.mk (Kd.R_reads' (Kd.S_R HS.out.1)).2.2; obtain ⟨ad, _, _, eA, _⟩ := line_of HK2.out hn0; subst eA)
        | (go_at_call 6; (with_reducible refine (HWH.out _ HS.out.2).mono ?_); rintro e w3 ⟨rfl, hx⟩; have H3 := Aside0.mk (below_alloc (below_step HS.out.2 hx) (.cells #[.int .i64 F, .int .i64 T, .bool true, .bool D] 27)); have HK3 := Aside0.mk (Kd.C_alloc (Kd.C_below HK2.out hx) (.cells #[.int .i64 F, .int .i64 T, .bool true, .bool D] 27)); clear hx; have BN3 := Aside0.mk (blk_new w3 (.cells #[.int .i64 F, .int .i64 T, .bool true, .bool D] 27)); have x0 := (blk_cell BN3.out 0).trans rfl; have x1 := (blk_cell BN3.out 1).trans rfl; have x2 := (blk_cell BN3.out 2).trans rfl; have x3 := (blk_cell BN3.out 3).trans rfl)
        | (go_at_call 7; (with_reducible refine (HTK.out _ H3.out).mono ?_); rintro e w4 ⟨v4, rfl, hr, hx⟩; obtain ⟨A4, c4, ev⟩ := Kd.R_slice hr; subst ev; have H4 := Aside0.mk (And.intro (below_alloc (below_step H3.out hx) (.cells #[.bool true, .bool true, .slice A4 (lnN ((rows.drop a).take m)).length c4] 32)) (Kd.R_alloc hr (.cells #[.bool true, .bool true, .slice A4 (lnN ((rows.drop a).take m)).length c4] 32))); have BX4 := Aside0.mk (blk_alloc (blk_below BN3.out hx) (.cells #[.bool true, .bool true, .slice A4 (lnN ((rows.drop a).take m)).length c4] 32)); have BR4 := Aside0.mk (blk_new w4 (.cells #[.bool true, .bool true, .slice A4 (lnN ((rows.drop a).take m)).length c4] 32)); have HK4 := Aside0.mk (Kd.C_alloc (Kd.C_below HK3.out hx) (.cells #[.bool true, .bool true, .slice A4 (lnN ((rows.drop a).take m)).length c4] 32)); clear hx hr; obtain ⟨ad_, Ab, cb, ea, hyb, _, _⟩ := line_of HK4.out hbn; obtain rfl := Option.some.inj ea; rw [HLB.out] at hyb))
      clear hyb
      generalize (w4.alloc (.cells #[.bool true, .bool true, .slice A4 (lnN ((rows.drop a).take m)).length c4] 32)) = W at H4 BX4 BR4 HK4 ⊢
      go_loopg [12, 15] m (fun g v12 v15 wl => ∃ (i : Nat) (v : Value) (W2 : World), i + g = a + m ∧ a ≤ i ∧ v15 = .int .i64 (i : Int) ∧ v = v12 ∧ W2 = wl ∧ Aside0 ((Kd.int .u8).R 5 wl W.heap.size (fun _ => True) v (lnN ((rows.drop a).take (i - a))) ∧ Below W.heap.size W wl))
      case atStart => exact ⟨a, .slice none 0 0, W, by omega, Nat.le_refl _, rfl, rfl, rfl, ⟨by rw [Nat.sub_self, List.take_zero]; exact Kd.R_nil _ _ _ _ _, Below.refl _ _⟩⟩
      case round =>
        obtain ⟨i, v, W2, hi, hai, rfl, rfl, rfl, HL⟩ := hrel
        cases gk with
        | zero =>
          have q1 : ((i : Int) ≤ (b : Int)) = False := eq_false (by omega)
          obtain rfl : i = a + m := by omega
          rw [Nat.add_sub_cancel_left] at HL
          obtain ⟨Av, cv, ev⟩ := Kd.R_slice HL.out.1
          subst ev
          go_wp2
          clear q1
          go_loopg [13, 16, 17] rows.length (fun g v13 v16 v17 wr => ∃ (i : Nat) (v : Value), i + g = rows.length ∧ v17 = .int .i64 (i : Int) ∧ v16 = .int .i64 ((othV rows a b i).length : Int) ∧ v = v13 ∧ Aside0 ((Kd.int .u8).R 5 wr W2.heap.size (fun _ => True) v (jn (othV rows a b i)) ∧ Below W2.heap.size W2 wr))
          case atStart => exact ⟨0, .slice none 0 0, by omega, rfl, by rw [oth_zero]; rfl, rfl, ⟨by rw [oth_zero]; exact Kd.R_nil _ _ _ _ _, Below.refl _ _⟩⟩
          case round =>
            obtain ⟨i2, v2, hi2, rfl, rfl, rfl, HR⟩ := hrel
            cases gk with
            | zero =>
              obtain rfl : i2 = rows.length := by omega
              obtain ⟨J, hJJ⟩ : ∃ J, l0.take F.toNat ++ l0.drop T.toNat = J := ⟨_, rfl⟩
              have hJ := ((congrArg jn (oth_all (rows := rows) (a := a) (b := b) (by omega))).trans hrest.symm).trans hJJ
              rw [hJ] at HR
              obtain ⟨A6, c6, e6⟩ := Kd.R_slice HR.out.1
              subst e6
              have HJ := Aside0.mk hJJ
              clear hJ hJJ hrest
              have BXr := Aside0.mk (blk_below (blk_below BX4.out HL.out.2) HR.out.2)
              have BRr := Aside0.mk (blk_below (blk_below BR4.out HL.out.2) HR.out.2)
              have HCr := Aside0.mk (Kd.C_below HC0.out.1 (below_step H4.out.1 (below_step HL.out.2 HR.out.2)))
              have HCF := Aside0.mk (show (Kd.int .u8).C wr A0 F.toNat (l0.take F.toNat) from by have h := Kd.C_take (m := F.toNat) HCr.out (by omega); rw [List.length_take, Nat.min_eq_left (by omega)] at h; exact h)
              have HCT := Aside0.mk (show (Kd.int .u8).C wr (if c0 = T.toNat then A0 else A0.map (·.add (T.toNat * 1))) (l0.length - T.toNat) (l0.drop T.toNat) from by have h := Kd.C_drop (m := T.toNat) HCr.out (by omega) HC0.out.2; rw [List.length_drop] at h; exact h)
              obtain ⟨i0, hi0, hsz⟩ : ∃ i, Tryd.prog.info? 5 = some i ∧ i.size = 1 := ⟨_, rfl, rfl⟩
              have hcutF := cut_to (P := Tryd.prog) 22 5 .i64 Tryd.underlying22 hi0 A0 l0.length c0 F hF0 (by omega) HC0.out.2
              have hcutT := cut_from (P := Tryd.prog) 22 5 .i64 Tryd.underlying22 hi0 1 hsz A0 l0.length c0 T (by omega) hTl
              generalize (if c0 = T.toNat then A0 else A0.map (·.add (T.toNat * 1))) = AT at hcutT HCT
              obtain ⟨nT, hnT⟩ : ∃ nT, l0.length - T.toNat = nT := ⟨_, rfl⟩
              obtain ⟨cT, hcT⟩ : ∃ cT, c0 - T.toNat = cT := ⟨_, rfl⟩
              have hnl : nT ≤ l0.length := by omega
              rw [hnT, hcT] at hcutT
              rw [hnT] at HCT
              clear hi0 hsz hnT hcT
              go_wp2
              refine start_ (n := 12) (S := fun w' => w'.cell? ⟨w3.heap.size, 0, none⟩ = some (.int .i64 F) ∧ w'.cell? ⟨w3.heap.size, 1, none⟩ = some (.int .i64 T)) (ds := []) #[false, false, false, false, false, false, false, false, false, false, false, false] (by kernel_rfl) rfl rfl ⟨(blk_cell (blk_drew BXr.out) 0).trans rfl, (blk_cell (blk_drew BXr.out) 1).trans rfl⟩ (fun hHeld => ?_)
              have HB0 := Aside0.mk (below_drew (Below.refl wr.heap.size wr))
              generalize wr.drew = Wc0 at HB0 hHeld ⊢
              refine pure_ (i := 1) (N := some 148) (v := ?_) (a' := ?_) #[false, true, false, false, false, false, false, false, false, false, false, false] rfl rfl (by kernel_rfl) (fun _ _ _ h => h) (Or.inl ⟨by rfl, ?_⟩) ?_ ?_
              rotate_left
              · intro w'
                go_simp
                with_reducible rfl
              rotate_left
              · simp only [Act.put, List.setIfInBounds_toArray, List.set_cons_zero, List.set_cons_succ, i64_w, i32_w]
                rfl
              refine pure_ (i := 2) (N := some 149) (v := ?_) (a' := ?_) #[false, true, true, false, false, false, false, false, false, false, false, false] rfl rfl (by kernel_rfl) (fun _ _ _ h => h) (Or.inl ⟨by rfl, ?_⟩) ?_ ?_
              rotate_left
              · intro w'
                go_simp
                with_reducible rfl
              rotate_left
              · simp only [Act.put, List.setIfInBounds_toArray, List.set_cons_zero, List.set_cons_succ, i64_w, i32_w]
                rfl
              refine pure_ (i := 6) (N := some 153) (v := ?_) (a' := ?_) #[false, true, true, false, false, false, true, false, false, false, false, false] rfl rfl (by kernel_rfl) (fun _ _ _ h => h) (Or.inl ⟨by rfl, ?_⟩) ?_ ?_
              rotate_left
              · intro w'
                go_simp
                with_reducible rfl
              rotate_left
              · simp only [Act.put, List.setIfInBounds_toArray, List.set_cons_zero, List.set_cons_succ, i64_w, i32_w]
                rfl
              refine pure_ (i := 7) (N := some 154) (v := ?_) (a' := ?_) #[false, true, true, false, false, false, true, true, false, false, false, false] rfl rfl (by kernel_rfl) (fun _ _ _ h => h) (Or.inl ⟨by rfl, ?_⟩) ?_ ?_
              rotate_left
              · intro w'
                go_simp
                with_reducible rfl
              rotate_left
              · simp only [Act.put, List.setIfInBounds_toArray, List.set_cons_zero, List.set_cons_succ, i64_w, i32_w]
                rfl
              refine take_ (i := 3) (N := some 150) (v := ?_) (a' := ?_) #[false, true, true, true, false, false, true, true, false, false, false, false] rfl rfl (by kernel_rfl) (fun _ _ _ h => h) (Or.inl ⟨by rfl, ?_⟩) hHeld ?_ ?_
              rotate_left
              · rintro w' ⟨s0, s1⟩
                go_simp
                with_reducible rfl
              rotate_left
              · simp only [Act.put, List.setIfInBounds_toArray, List.set_cons_zero, List.set_cons_succ, i64_w, i32_w]
                rfl
              refine pure_ (i := 4) (N := some 151) (v := ?_) (a' := ?_) #[false, true, true, true, true, false, true, true, false, false, false, false] rfl rfl (by kernel_rfl) (fun _ _ _ h => h) (Or.inl ⟨by rfl, ?_⟩) ?_ ?_
              rotate_left
              · intro w'
                go_simp
                with_reducible rfl
              rotate_left
              · simp only [Act.put, List.setIfInBounds_toArray, List.set_cons_zero, List.set_cons_succ, i64_w, i32_w]
                rfl
              refine take_ (i := 8) (N := some 155) (v := ?_) (a' := ?_) #[false, true, true, true, true, false, true, true, true, false, false, false] rfl rfl (by kernel_rfl) (fun _ _ _ h => h) (Or.inl ⟨by rfl, ?_⟩) hHeld ?_ ?_
              rotate_left
              · rintro w' ⟨s0, s1⟩
                go_simp
                with_reducible rfl
              rotate_left
              · simp only [Act.put, List.setIfInBounds_toArray, List.set_cons_zero, List.set_cons_succ, i64_w, i32_w]
                rfl
              refine pure_ (i := 9) (N := some 156) (v := ?_) (a' := ?_) #[false, true, true, true, true, false, true, true, true, true, false, false] rfl rfl (by kernel_rfl) (fun _ _ _ h => h) (Or.inl ⟨by rfl, ?_⟩) ?_ ?_
              rotate_left
              · intro w'
                go_simp
                with_reducible rfl
              rotate_left
              · simp only [Act.put, List.setIfInBounds_toArray, List.set_cons_zero, List.set_cons_succ, i64_w, i32_w]
                rfl
              refine one_ (i := 0) (N := some 147) #[true, true, true, true, true, false, true, true, true, true, false, false] rfl rfl (by kernel_rfl) (by decide) (fun K hK => ?_)
              refine value_ (w1 := ?_) (v := ?_) (by rfl) rfl ?_ ?_
              rotate_left 2
              · go_simp
                constructor
                · rfl
                · rfl
              have HB1 := Aside0.mk (below_alloc HB0.out (.cells #[] 5))
              have HE1 := Aside0.mk (Kd.R_lower (empty_R Wc0) HB0.out.size)
              generalize eW : (Wc0.alloc (.cells #[] 5)) = Wc1 at HB1 HE1 ⊢
              clear eW
              refine hK.out _ _ ⟨(blk_cell (blk_below BXr.out HB1.out) 0).trans rfl, (blk_cell (blk_below BXr.out HB1.out) 1).trans rfl⟩ (fun hHeld => ?_)
              clear hK K
              refine norm_ (a' := ?_) ?_ ?_
              rotate_left
              · show Act.put _ (some 147) _ = _
                simp only [Act.put, List.setIfInBounds_toArray, List.set_cons_zero, List.set_cons_succ, i64_w, i32_w]
                rfl
              refine one_ (i := 5) (N := some 152) #[true, true, true, true, true, true, true, true, true, true, false, false] rfl rfl (by kernel_rfl) (by decide) (fun K hK => ?_)
              refine Kd.R_append_rows_step (Kd.int .u8) (Rr := (Kd.int .u8).K Wc1) (w0 := wr) wr.heap.size (by rfl) (.tmp 147) (.tmp 151) 22 5 (.int .u8 0) 1 rfl Tryd.underlying22 infoB rfl (by decide) (by omega) (.slice (some ⟨Wc0.heap.size, 0, none⟩) 0 0) [] (l0.take F.toNat) A0 F.toNat c0 (fun _ => True) (fun _ => False) rfl rfl HE1.out (Kd.C_below HCF.out HB1.out) (fun _ _ h => h) (fun _ h => h.elim) (fun _ _ => trivial) HB1.out HB1.out.size (by simp only [List.length_nil]; omega) ?_
              intro v3 Wc2 hR hB _ _
              rw [List.nil_append] at hR
              have HV2 := Aside0.mk hR
              have HB2 := Aside0.mk hB
              clear hR hB
              refine hK.out _ _ ⟨(blk_cell (blk_below BXr.out HB2.out) 0).trans rfl, (blk_cell (blk_below BXr.out HB2.out) 1).trans rfl⟩ (fun hHeld => ?_)
              clear hK K
              refine norm_ (a' := ?_) ?_ ?_
              rotate_left
              · show Act.put _ (some 152) _ = _
                simp only [Act.put, List.setIfInBounds_toArray, List.set_cons_zero, List.set_cons_succ, i64_w, i32_w]
                rfl
              refine one_ (i := 10) (N := some 157) #[true, true, true, true, true, true, true, true, true, true, true, false] rfl rfl (by kernel_rfl) (by decide) (fun K hK => ?_)
              refine Kd.R_append_rows_step (Kd.int .u8) (Rr := (Kd.int .u8).K Wc2) (w0 := wr) wr.heap.size (by rfl) (.tmp 152) (.tmp 156) 22 5 (.int .u8 0) 1 rfl Tryd.underlying22 infoB rfl (by decide) (by omega) v3 (l0.take F.toNat) (l0.drop T.toNat) AT nT cT (fun _ => True) (fun _ => False) rfl rfl HV2.out (Kd.C_below HCT.out HB2.out) (fun _ _ h => h) (fun _ h => h.elim) (fun _ _ => trivial) HB2.out HB2.out.size (by rw [List.length_take]; omega) ?_
              intro v5 w5 hR hB _ _
              have H5 := Aside0.mk (And.intro hR hB)
              clear hR hB
              refine hK.out _ _ ⟨(blk_cell (blk_below BXr.out H5.out.2) 0).trans rfl, (blk_cell (blk_below BXr.out H5.out.2) 1).trans rfl⟩ (fun hHeld => ?_)
              clear hK K
              refine norm_ (a' := ?_) ?_ ?_
              rotate_left
              · show Act.put _ (some 157) _ = _
                simp only [Act.put, List.setIfInBounds_toArray, List.set_cons_zero, List.set_cons_succ, i64_w, i32_w]
                rfl
              refine pure_ (i := 11) (N := some 18) (v := ?_) (a' := ?_) #[true, true, true, true, true, true, true, true, true, true, true, true] rfl rfl (by kernel_rfl) (fun _ _ _ h => h) (Or.inl ⟨by rfl, ?_⟩) ?_ ?_
              rotate_left
              · intro w'
                go_simp
                with_reducible rfl
              rotate_left
              · simp only [Act.put, List.setIfInBounds_toArray, List.set_cons_zero, List.set_cons_succ, i64_w, i32_w]
                rfl
              refine done_ (by kernel_rfl) ?_

              clear hcutF hcutT
              rw [HJ.out] at H5
              obtain ⟨A5, c5, e5⟩ := Kd.R_slice H5.out.1
              subst e5
              have BR5 := Aside0.mk (blk_below BRr.out H5.out.2)
              have r0 := (blk_cell BR5.out 0).trans rfl
              have r1 := (blk_cell BR5.out 1).trans rfl
              have r2 := (blk_cell BR5.out 2).trans rfl
              have k1 := Kd.C_string (P := Tryd.prog) (c := c4) Tryd.underlying22 Tryd.underlying5 Tryd.underlying9 (Kd.C_below (Kd.R_reads' H4.out.2).2.2 (below_step HL.out.2 (below_step HR.out.2 H5.out.2)))
              have k2 := Kd.C_string (P := Tryd.prog) (c := cv) Tryd.underlying22 Tryd.underlying5 Tryd.underlying9 (Kd.C_below (Kd.R_reads' HL.out.1).2.2 (below_step HR.out.2 H5.out.2))
              have k3 := Kd.C_string (P := Tryd.prog) (c := c5) Tryd.underlying22 Tryd.underlying5 Tryd.underlying9 (Kd.R_reads' H5.out.1).2.2
              have k4 := Kd.C_string (P := Tryd.prog) (c := c6) Tryd.underlying22 Tryd.underlying5 Tryd.underlying9 (Kd.C_below (Kd.R_reads' HR.out.1).2.2 H5.out.2)
              go_wp2
              exact bodyPost_ret (v := .bool true) (by simp [results, Tryd.results3, go_sem]) rfl ⟨rfl, below_step H4.out.1 (below_step HL.out.2 (below_step HR.out.2 H5.out.2))⟩
            | succ g2 =>
              have q1 : ((i2 : Int) < (rows.length : Int)) = True := eq_true (by omega)
              by_cases hin : a ≤ i2 ∧ i2 ≤ b
              · have f1 : ((a : Int) ≤ (i2 : Int)) = True := eq_true (by omega)
                have f2 : ((i2 : Int) ≤ (b : Int)) = True := eq_true (by omega)
                have hO := Aside0.mk (oth_in (rows := rows) hin.1 hin.2)
                clear hin
                go_wp2
                go_roundg g2
                case measure => omega
                case rel => exact ⟨i2 + 1, _, by omega, by go_num, by rw [hO.out], rfl, ⟨by rw [hO.out]; exact HR.out.1, HR.out.2⟩⟩
              · have hir2 : i2 < rows.length := by omega
                obtain ⟨ad_, Ar, cr, ea, hy, hlc, hC⟩ := line_of HK4.out hir2
                obtain rfl := Option.some.inj ea
                have HY := Aside0.mk hy
                replace hy := pw_cell_below (below_step HL.out.2 HR.out.2) hy
                have hlow : i2 < a ∨ b < i2 := by omega
                have hO : Aside0 (othV rows a b (i2 + 1) = othV rows a b i2 ++ [rows.getD i2 []]) := ⟨hlow.elim (fun h => oth_low h hir2 hab) (fun h => oth_high h hir2 hab)⟩
                have hrl := row_le rows i2
                have hjl := oth_len rows a b i2
                have hcl := oth_cnt rows a b i2
                generalize rows.getD i2 [] = row at hy HY hlc hC hO hrl
                generalize othV rows a b i2 = Q at hO hjl hcl HR ⊢
                have HLN := Aside0.mk (show (jn Q).length + row.length + 1 ≤ 8000000 by omega)
                have hJ := Aside0.mk (jn_snoc Q row)
                generalize hQ : Q.length = n at hcl hJ ⊢
                have hnb : n ≤ 4000000 := by omega
                have HQ := Aside0.mk hQ
                clear hrl hjl hcl hin hQ
                have q2 : (0 ≤ (i2 : Int)) = True := eq_true (by omega)
                have q3 : ((i2 : Int) < (rows.length : Int)) = True := eq_true (by omega)
                rcases hlow with hlow | hlow
                · have f1 : ((a : Int) ≤ (i2 : Int)) = False := eq_false (by omega)
                  clear hlow
                  cases n with
                  | zero =>
                    have f3 : ((0 : Int) < ((0 : Nat) : Int)) = False := eq_false (by omega)
                    have hQ0 : Aside0 (Q = []) := ⟨List.eq_nil_of_length_eq_zero HQ.out⟩
                    go_wp2_with (first
                      | (at_builtin; refine Kd.R_append_row (Value.int .u8) (0 : Int) (h1 := fun _ => rfl) (w0 := W2) W2.heap.size rfl (.tmp 139) (.tmp 143) 22 5 (.int .u8 0) 1 rfl Tryd.underlying22 infoB rfl (by decide) v2 (jn Q) row Ar row.length cr (fun _ => True) rfl rfl (fun _ _ => trivial) HR.out.1 (Kd.C_below hC (below_step HL.out.2 HR.out.2)) HR.out.2 HR.out.2.size (by have h1 := HLN.out; omega) ?_; intro v8 w8 hR hB _ _; have H8 := Aside0.mk (And.intro hR hB); clear hR hB))
                    go_roundg g2
                    case measure => omega
                    case rel => exact ⟨i2 + 1, _, by omega, by go_num, by rw [hO.out, List.length_append, HQ.out]; rfl, rfl, ⟨by rw [hO.out, hJ.out]; (first | rw [if_pos rfl] | rw [if_pos trivial]); have h := H8.out.1; rw [hQ0.out] at h; exact h, H8.out.2⟩⟩
                  | succ n =>
                    have f3 : ((0 : Int) < ((n + 1 : Nat) : Int)) = True := eq_true (by omega)
                    go_wp2_with (first
                      | (at_builtin; refine Kd.R_append_row (Value.int .u8) (0 : Int) (h1 := fun _ => rfl) (w0 := W2) W2.heap.size rfl (.tmp 136) (.tmp 137) 22 5 (.int .u8 0) 1 rfl Tryd.underlying22 infoB rfl (by decide) v2 (jn Q) [10] (some ⟨wr.heap.size, 0, none⟩) 1 1 (fun _ => True) rfl rfl (fun _ _ => trivial) (Kd.R_alloc HR.out.1 (.cells #[.int .u8 10] 5)) (u8_C (xs := [10]) (fr := (0, 0)) (blk_new wr _) (by decide)) (HR.out.2.alloc HR.out.2.size _) (by have h := HR.out.2.size; simp only [World.size_alloc]; omega) (by have h1 := HLN.out; omega) ?_; intro v7 w7 hR hB _ _; have H7 := Aside0.mk (And.intro hR hB); clear hR hB; have hy7 := pw_cell_below (below_step HL.out.2 H7.out.2) HY.out)
                      | (at_builtin; refine Kd.R_append_row (Value.int .u8) (0 : Int) (h1 := fun _ => rfl) (w0 := W2) W2.heap.size rfl (.tmp 139) (.tmp 143) 22 5 (.int .u8 0) 1 rfl Tryd.underlying22 infoB rfl (by decide) v7 (jn Q ++ [10]) row Ar row.length cr (fun _ => True) rfl rfl (fun _ _ => trivial) H7.out.1 (Kd.C_below hC (below_step HL.out.2 H7.out.2)) H7.out.2 H7.out.2.size (by have h1 := HLN.out; rw [List.length_append, List.length_singleton]; omega) ?_; intro v8 w8 hR hB _ _; have H8 := Aside0.mk (And.intro hR hB); clear hR hB))
                    go_roundg g2
                    case measure => omega
                    case rel => exact ⟨i2 + 1, _, by omega, by go_num, by rw [hO.out, List.length_append, HQ.out, List.length_singleton]; go_num, rfl, ⟨by rw [hO.out, hJ.out, if_neg (by omega)]; have h := H8.out.1; rw [List.append_assoc] at h; exact h, H8.out.2⟩⟩
                · have f1 : ((a : Int) ≤ (i2 : Int)) = True := eq_true (by omega)
                  have f2 : ((i2 : Int) ≤ (b : Int)) = False := eq_false (by omega)
                  clear hlow
                  cases n with
                  | zero =>
                    have f3 : ((0 : Int) < ((0 : Nat) : Int)) = False := eq_false (by omega)
                    have hQ0 : Aside0 (Q = []) := ⟨List.eq_nil_of_length_eq_zero HQ.out⟩
                    go_wp2_with (first
                      | (at_builtin; refine Kd.R_append_row (Value.int .u8) (0 : Int) (h1 := fun _ => rfl) (w0 := W2) W2.heap.size rfl (.tmp 139) (.tmp 143) 22 5 (.int .u8 0) 1 rfl Tryd.underlying22 infoB rfl (by decide) v2 (jn Q) row Ar row.length cr (fun _ => True) rfl rfl (fun _ _ => trivial) HR.out.1 (Kd.C_below hC (below_step HL.out.2 HR.out.2)) HR.out.2 HR.out.2.size (by have h1 := HLN.out; omega) ?_; intro v8 w8 hR hB _ _; have H8 := Aside0.mk (And.intro hR hB); clear hR hB))
                    go_roundg g2
                    case measure => omega
                    case rel => exact ⟨i2 + 1, _, by omega, by go_num, by rw [hO.out, List.length_append, HQ.out]; rfl, rfl, ⟨by rw [hO.out, hJ.out]; (first | rw [if_pos rfl] | rw [if_pos trivial]); have h := H8.out.1; rw [hQ0.out] at h; exact h, H8.out.2⟩⟩
                  | succ n =>
                    have f3 : ((0 : Int) < ((n + 1 : Nat) : Int)) = True := eq_true (by omega)
                    go_wp2_with (first
                      | (at_builtin; refine Kd.R_append_row (Value.int .u8) (0 : Int) (h1 := fun _ => rfl) (w0 := W2) W2.heap.size rfl (.tmp 136) (.tmp 137) 22 5 (.int .u8 0) 1 rfl Tryd.underlying22 infoB rfl (by decide) v2 (jn Q) [10] (some ⟨wr.heap.size, 0, none⟩) 1 1 (fun _ => True) rfl rfl (fun _ _ => trivial) (Kd.R_alloc HR.out.1 (.cells #[.int .u8 10] 5)) (u8_C (xs := [10]) (fr := (0, 0)) (blk_new wr _) (by decide)) (HR.out.2.alloc HR.out.2.size _) (by have h := HR.out.2.size; simp only [World.size_alloc]; omega) (by have h1 := HLN.out; omega) ?_; intro v7 w7 hR hB _ _; have H7 := Aside0.mk (And.intro hR hB); clear hR hB; have hy7 := pw_cell_below (below_step HL.out.2 H7.out.2) HY.out)
                      | (at_builtin; refine Kd.R_append_row (Value.int .u8) (0 : Int) (h1 := fun _ => rfl) (w0 := W2) W2.heap.size rfl (.tmp 139) (.tmp 143) 22 5 (.int .u8 0) 1 rfl Tryd.underlying22 infoB rfl (by decide) v7 (jn Q ++ [10]) row Ar row.length cr (fun _ => True) rfl rfl (fun _ _ => trivial) H7.out.1 (Kd.C_below hC (below_step HL.out.2 H7.out.2)) H7.out.2 H7.out.2.size (by have h1 := HLN.out; rw [List.length_append, List.length_singleton]; omega) ?_; intro v8 w8 hR hB _ _; have H8 := Aside0.mk (And.intro hR hB); clear hR hB))
                    go_roundg g2
                    case measure => omega
                    case rel => exact ⟨i2 + 1, _, by omega, by go_num, by rw [hO.out, List.length_append, HQ.out, List.length_singleton]; go_num, rfl, ⟨by rw [hO.out, hJ.out, if_neg (by omega)]; have h := H8.out.1; rw [List.append_assoc] at h; exact h, H8.out.2⟩⟩
        | succ g =>
          have q1 : ((i : Int) ≤ (b : Int)) = True := eq_true (by omega)
          have hir : i < rows.length := by omega
          obtain ⟨ad_, Ar, cr, ea, hy, hlc, hC⟩ := line_of HK4.out hir
          obtain rfl := Option.some.inj ea
          replace hy := pw_cell_below HL.out.2 hy
          have HW := Aside0.mk (want_step hai hir)
          have hrl := row_le rows i
          have hjl := lnN_sub rows a (i - a)
          generalize rows.getD i [] = row at hy hlc hC HW hrl
          have HLN := Aside0.mk (show (lnN ((rows.drop a).take (i - a))).length + row.length + 1 ≤ 4000000 by omega)
          clear hrl hjl
          have q2 : (0 ≤ (i : Int)) = True := eq_true (by omega)
          have q3 : ((i : Int) < (rows.length : Int)) = True := eq_true (by omega)
          go_wp2_with (first
            | (at_builtin; refine Kd.R_append_row (Value.int .u8) (0 : Int) (h1 := fun _ => rfl) (w0 := W) W.heap.size rfl (.tmp 112) (.tmp 116) 22 5 (.int .u8 0) 1 rfl Tryd.underlying22 infoB rfl (by decide) v (lnN ((rows.drop a).take (i - a))) row Ar row.length cr (fun _ => True) rfl rfl (fun _ _ => trivial) HL.out.1 (Kd.C_below hC HL.out.2) HL.out.2 HL.out.2.size (by have h1 := HLN.out; omega) ?_; intro v5 w5 hR hB _ _; have H5 := Aside0.mk (And.intro hR hB); clear hR hB)
            | (at_builtin; refine Kd.R_append_row (Value.int .u8) (0 : Int) (h1 := fun _ => rfl) (w0 := W) W.heap.size rfl (.tmp 117) (.tmp 118) 22 5 (.int .u8 0) 1 rfl Tryd.underlying22 infoB rfl (by decide) v5 (lnN ((rows.drop a).take (i - a)) ++ row) [10] (some ⟨w5.heap.size, 0, none⟩) 1 1 (fun _ => True) rfl rfl (fun _ _ => trivial) (Kd.R_alloc H5.out.1 (.cells #[.int .u8 10] 5)) (u8_C (xs := [10]) (fr := (0, 0)) (blk_new w5 _) (by decide)) (H5.out.2.alloc H5.out.2.size _) (by have h := H5.out.2.size; simp only [World.size_alloc]; omega) (by have h1 := HLN.out; rw [List.length_append]; omega) ?_; intro v6 w6 hR hB _ _; have H6 := Aside0.mk (And.intro hR hB); clear hR hB))
          go_roundg g
          case measure => omega
          case rel => exact ⟨i + 1, _, _, by omega, by omega, by go_num, rfl, rfl, ⟨by rw [HW.out]; exact H6.out.1, H6.out.2⟩⟩
    · skip
      go_enter Tryd.func3, Tryd.ntmps3
      go_wp2_with (first
        | (go_at_call 4; (with_reducible refine (HA.out _).mono ?_); rintro e w1 ⟨rfl, hx⟩; have H1 := Aside0.mk hx; clear hx)
        | (go_at_call 5; (with_reducible refine (HSP.out _ H1.out).mono ?_); rintro e w2 ⟨vs, rfl, hy1, hy2⟩; have HS := Aside0.mk (And.intro hy1 (below_step H1.out hy2)); clear hy1 hy2; obtain ⟨AS, cS, eS⟩ := Kd.R_slice (Kd.S_R HS.out.1); subst eS; have HK2 := Aside0.mk (Kd.R_reads' (Kd.S_R HS.out.1)).2.2; obtain ⟨ad, _, _, eA, _⟩ := line_of HK2.out hn0; subst eA)
        | (go_at_call 6; (with_reducible refine (HWH.out _ HS.out.2).mono ?_); rintro e w3 ⟨rfl, hx⟩; have H3 := Aside0.mk (below_alloc (below_step HS.out.2 hx) (.cells #[.int .i64 F, .int .i64 T, .bool true, .bool D] 27)); have HK3 := Aside0.mk (Kd.C_alloc (Kd.C_below HK2.out hx) (.cells #[.int .i64 F, .int .i64 T, .bool true, .bool D] 27)); clear hx; have BN3 := Aside0.mk (blk_new w3 (.cells #[.int .i64 F, .int .i64 T, .bool true, .bool D] 27)); have x0 := (blk_cell BN3.out 0).trans rfl; have x1 := (blk_cell BN3.out 1).trans rfl; have x2 := (blk_cell BN3.out 2).trans rfl; have x3 := (blk_cell BN3.out 3).trans rfl)
        | (go_at_call 7; (with_reducible refine (HTK.out _ H3.out).mono ?_); rintro e w4 ⟨v4, rfl, hr, hx⟩; obtain ⟨A4, c4, ev⟩ := Kd.R_slice hr; subst ev; have H4 := Aside0.mk (And.intro (below_alloc (below_step H3.out hx) (.cells #[.bool true, .bool true, .slice A4 (lnN ((rows.drop a).take m)).length c4] 32)) (Kd.R_alloc hr (.cells #[.bool true, .bool true, .slice A4 (lnN ((rows.drop a).take m)).length c4] 32))); have BX4 := Aside0.mk (blk_alloc (blk_below BN3.out hx) (.cells #[.bool true, .bool true, .slice A4 (lnN ((rows.drop a).take m)).length c4] 32)); have BR4 := Aside0.mk (blk_new w4 (.cells #[.bool true, .bool true, .slice A4 (lnN ((rows.drop a).take m)).length c4] 32)); have HK4 := Aside0.mk (Kd.C_alloc (Kd.C_below HK3.out hx) (.cells #[.bool true, .bool true, .slice A4 (lnN ((rows.drop a).take m)).length c4] 32)); clear hx hr; obtain ⟨ad_, Ab, cb, ea, hyb, _, _⟩ := line_of HK4.out hbn; obtain rfl := Option.some.inj ea; rw [HLB.out] at hyb))
      clear hyb
      generalize (w4.alloc (.cells #[.bool true, .bool true, .slice A4 (lnN ((rows.drop a).take m)).length c4] 32)) = W at H4 BX4 BR4 HK4 ⊢
      go_loopg [12, 15] m (fun g v12 v15 wl => ∃ (i : Nat) (v : Value) (W2 : World), i + g = a + m ∧ a ≤ i ∧ v15 = .int .i64 (i : Int) ∧ v = v12 ∧ W2 = wl ∧ Aside0 ((Kd.int .u8).R 5 wl W.heap.size (fun _ => True) v (lnN ((rows.drop a).take (i - a))) ∧ Below W.heap.size W wl))
      case atStart => exact ⟨a, .slice none 0 0, W, by omega, Nat.le_refl _, rfl, rfl, rfl, ⟨by rw [Nat.sub_self, List.take_zero]; exact Kd.R_nil _ _ _ _ _, Below.refl _ _⟩⟩
      case round =>
        obtain ⟨i, v, W2, hi, hai, rfl, rfl, rfl, HL⟩ := hrel
        cases gk with
        | zero =>
          have q1 : ((i : Int) ≤ (b : Int) - 1) = False := eq_false (by omega)
          obtain rfl : i = a + m := by omega
          rw [Nat.add_sub_cancel_left] at HL
          obtain ⟨Av, cv, ev⟩ := Kd.R_slice HL.out.1
          subst ev
          go_wp2
          clear q1
          go_loopg [13, 16, 17] rows.length (fun g v13 v16 v17 wr => ∃ (i : Nat) (v : Value), i + g = rows.length ∧ v17 = .int .i64 (i : Int) ∧ v16 = .int .i64 ((othV rows a b i).length : Int) ∧ v = v13 ∧ Aside0 ((Kd.int .u8).R 5 wr W2.heap.size (fun _ => True) v (jn (othV rows a b i)) ∧ Below W2.heap.size W2 wr))
          case atStart => exact ⟨0, .slice none 0 0, by omega, rfl, by rw [oth_zero]; rfl, rfl, ⟨by rw [oth_zero]; exact Kd.R_nil _ _ _ _ _, Below.refl _ _⟩⟩
          case round =>
            obtain ⟨i2, v2, hi2, rfl, rfl, rfl, HR⟩ := hrel
            cases gk with
            | zero =>
              obtain rfl : i2 = rows.length := by omega
              obtain ⟨J, hJJ⟩ : ∃ J, l0.take F.toNat ++ l0.drop T.toNat = J := ⟨_, rfl⟩
              have hJ := ((congrArg jn (oth_all (rows := rows) (a := a) (b := b) (by omega))).trans hrest.symm).trans hJJ
              rw [hJ] at HR
              obtain ⟨A6, c6, e6⟩ := Kd.R_slice HR.out.1
              subst e6
              have HJ := Aside0.mk hJJ
              clear hJ hJJ hrest
              have BXr := Aside0.mk (blk_below (blk_below BX4.out HL.out.2) HR.out.2)
              have BRr := Aside0.mk (blk_below (blk_below BR4.out HL.out.2) HR.out.2)
              have HCr := Aside0.mk (Kd.C_below HC0.out.1 (below_step H4.out.1 (below_step HL.out.2 HR.out.2)))
              have HCF := Aside0.mk (show (Kd.int .u8).C wr A0 F.toNat (l0.take F.toNat) from by have h := Kd.C_take (m := F.toNat) HCr.out (by omega); rw [List.length_take, Nat.min_eq_left (by omega)] at h; exact h)
              have HCT := Aside0.mk (show (Kd.int .u8).C wr (if c0 = T.toNat then A0 else A0.map (·.add (T.toNat * 1))) (l0.length - T.toNat) (l0.drop T.toNat) from by have h := Kd.C_drop (m := T.toNat) HCr.out (by omega) HC0.out.2; rw [List.length_drop] at h; exact h)
              obtain ⟨i0, hi0, hsz⟩ : ∃ i, Tryd.prog.info? 5 = some i ∧ i.size = 1 := ⟨_, rfl, rfl⟩
              have hcutF := cut_to (P := Tryd.prog) 22 5 .i64 Tryd.underlying22 hi0 A0 l0.length c0 F hF0 (by omega) HC0.out.2
              have hcutT := cut_from (P := Tryd.prog) 22 5 .i64 Tryd.underlying22 hi0 1 hsz A0 l0.length c0 T (by omega) hTl
              generalize (if c0 = T.toNat then A0 else A0.map (·.add (T.toNat * 1))) = AT at hcutT HCT
              obtain ⟨nT, hnT⟩ : ∃ nT, l0.length - T.toNat = nT := ⟨_, rfl⟩
              obtain ⟨cT, hcT⟩ : ∃ cT, c0 - T.toNat = cT := ⟨_, rfl⟩
              have hnl : nT ≤ l0.length := by omega
              rw [hnT, hcT] at hcutT
              rw [hnT] at HCT
              clear hi0 hsz hnT hcT
              go_wp2
              refine start_ (n := 12) (S := fun w' => w'.cell? ⟨w3.heap.size, 0, none⟩ = some (.int .i64 F) ∧ w'.cell? ⟨w3.heap.size, 1, none⟩ = some (.int .i64 T)) (ds := []) #[false, false, false, false, false, false, false, false, false, false, false, false] (by kernel_rfl) rfl rfl ⟨(blk_cell (blk_drew BXr.out) 0).trans rfl, (blk_cell (blk_drew BXr.out) 1).trans rfl⟩ (fun hHeld => ?_)
              have HB0 := Aside0.mk (below_drew (Below.refl wr.heap.size wr))
              generalize wr.drew = Wc0 at HB0 hHeld ⊢
              refine pure_ (i := 1) (N := some 148) (v := ?_) (a' := ?_) #[false, true, false, false, false, false, false, false, false, false, false, false] rfl rfl (by kernel_rfl) (fun _ _ _ h => h) (Or.inl ⟨by rfl, ?_⟩) ?_ ?_
              rotate_left
              · intro w'
                go_simp
                with_reducible rfl
              rotate_left
              · simp only [Act.put, List.setIfInBounds_toArray, List.set_cons_zero, List.set_cons_succ, i64_w, i32_w]
                rfl
              refine pure_ (i := 2) (N := some 149) (v := ?_) (a' := ?_) #[false, true, true, false, false, false, false, false, false, false, false, false] rfl rfl (by kernel_rfl) (fun _ _ _ h => h) (Or.inl ⟨by rfl, ?_⟩) ?_ ?_
              rotate_left
              · intro w'
                go_simp
                with_reducible rfl
              rotate_left
              · simp only [Act.put, List.setIfInBounds_toArray, List.set_cons_zero, List.set_cons_succ, i64_w, i32_w]
                rfl
              refine pure_ (i := 6) (N := some 153) (v := ?_) (a' := ?_) #[false, true, true, false, false, false, true, false, false, false, false, false] rfl rfl (by kernel_rfl) (fun _ _ _ h => h) (Or.inl ⟨by rfl, ?_⟩) ?_ ?_
              rotate_left
              · intro w'
                go_simp
                with_reducible rfl
              rotate_left
              · simp only [Act.put, List.setIfInBounds_toArray, List.set_cons_zero, List.set_cons_succ, i64_w, i32_w]
                rfl
              refine pure_ (i := 7) (N := some 154) (v := ?_) (a' := ?_) #[false, true, true, false, false, false, true, true, false, false, false, false] rfl rfl (by kernel_rfl) (fun _ _ _ h => h) (Or.inl ⟨by rfl, ?_⟩) ?_ ?_
              rotate_left
              · intro w'
                go_simp
                with_reducible rfl
              rotate_left
              · simp only [Act.put, List.setIfInBounds_toArray, List.set_cons_zero, List.set_cons_succ, i64_w, i32_w]
                rfl
              refine take_ (i := 3) (N := some 150) (v := ?_) (a' := ?_) #[false, true, true, true, false, false, true, true, false, false, false, false] rfl rfl (by kernel_rfl) (fun _ _ _ h => h) (Or.inl ⟨by rfl, ?_⟩) hHeld ?_ ?_
              rotate_left
              · rintro w' ⟨s0, s1⟩
                go_simp
                with_reducible rfl
              rotate_left
              · simp only [Act.put, List.setIfInBounds_toArray, List.set_cons_zero, List.set_cons_succ, i64_w, i32_w]
                rfl
              refine pure_ (i := 4) (N := some 151) (v := ?_) (a' := ?_) #[false, true, true, true, true, false, true, true, false, false, false, false] rfl rfl (by kernel_rfl) (fun _ _ _ h => h) (Or.inl ⟨by rfl, ?_⟩) ?_ ?_
              rotate_left
              · intro w'
                go_simp
                with_reducible rfl
              rotate_left
              · simp only [Act.put, List.setIfInBounds_toArray, List.set_cons_zero, List.set_cons_succ, i64_w, i32_w]
                rfl
              refine take_ (i := 8) (N := some 155) (v := ?_) (a' := ?_) #[false, true, true, true, true, false, true, true, true, false, false, false] rfl rfl (by kernel_rfl) (fun _ _ _ h => h) (Or.inl ⟨by rfl, ?_⟩) hHeld ?_ ?_
              rotate_left
              · rintro w' ⟨s0, s1⟩
                go_simp
                with_reducible rfl
              rotate_left
              · simp only [Act.put, List.setIfInBounds_toArray, List.set_cons_zero, List.set_cons_succ, i64_w, i32_w]
                rfl
              refine pure_ (i := 9) (N := some 156) (v := ?_) (a' := ?_) #[false, true, true, true, true, false, true, true, true, true, false, false] rfl rfl (by kernel_rfl) (fun _ _ _ h => h) (Or.inl ⟨by rfl, ?_⟩) ?_ ?_
              rotate_left
              · intro w'
                go_simp
                with_reducible rfl
              rotate_left
              · simp only [Act.put, List.setIfInBounds_toArray, List.set_cons_zero, List.set_cons_succ, i64_w, i32_w]
                rfl
              refine one_ (i := 0) (N := some 147) #[true, true, true, true, true, false, true, true, true, true, false, false] rfl rfl (by kernel_rfl) (by decide) (fun K hK => ?_)
              refine value_ (w1 := ?_) (v := ?_) (by rfl) rfl ?_ ?_
              rotate_left 2
              · go_simp
                constructor
                · rfl
                · rfl
              have HB1 := Aside0.mk (below_alloc HB0.out (.cells #[] 5))
              have HE1 := Aside0.mk (Kd.R_lower (empty_R Wc0) HB0.out.size)
              generalize eW : (Wc0.alloc (.cells #[] 5)) = Wc1 at HB1 HE1 ⊢
              clear eW
              refine hK.out _ _ ⟨(blk_cell (blk_below BXr.out HB1.out) 0).trans rfl, (blk_cell (blk_below BXr.out HB1.out) 1).trans rfl⟩ (fun hHeld => ?_)
              clear hK K
              refine norm_ (a' := ?_) ?_ ?_
              rotate_left
              · show Act.put _ (some 147) _ = _
                simp only [Act.put, List.setIfInBounds_toArray, List.set_cons_zero, List.set_cons_succ, i64_w, i32_w]
                rfl
              refine one_ (i := 5) (N := some 152) #[true, true, true, true, true, true, true, true, true, true, false, false] rfl rfl (by kernel_rfl) (by decide) (fun K hK => ?_)
              refine Kd.R_append_rows_step (Kd.int .u8) (Rr := (Kd.int .u8).K Wc1) (w0 := wr) wr.heap.size (by rfl) (.tmp 147) (.tmp 151) 22 5 (.int .u8 0) 1 rfl Tryd.underlying22 infoB rfl (by decide) (by omega) (.slice (some ⟨Wc0.heap.size, 0, none⟩) 0 0) [] (l0.take F.toNat) A0 F.toNat c0 (fun _ => True) (fun _ => False) rfl rfl HE1.out (Kd.C_below HCF.out HB1.out) (fun _ _ h => h) (fun _ h => h.elim) (fun _ _ => trivial) HB1.out HB1.out.size (by simp only [List.length_nil]; omega) ?_
              intro v3 Wc2 hR hB _ _
              rw [List.nil_append] at hR
              have HV2 := Aside0.mk hR
              have HB2 := Aside0.mk hB
              clear hR hB
              refine hK.out _ _ ⟨(blk_cell (blk_below BXr.out HB2.out) 0).trans rfl, (blk_cell (blk_below BXr.out HB2.out) 1).trans rfl⟩ (fun hHeld => ?_)
              clear hK K
              refine norm_ (a' := ?_) ?_ ?_
              rotate_left
              · show Act.put _ (some 152) _ = _
                simp only [Act.put, List.setIfInBounds_toArray, List.set_cons_zero, List.set_cons_succ, i64_w, i32_w]
                rfl
              refine one_ (i := 10) (N := some 157) #[true, true, true, true, true, true, true, true, true, true, true, false] rfl rfl (by kernel_rfl) (by decide) (fun K hK => ?_)
              refine Kd.R_append_rows_step (Kd.int .u8) (Rr := (Kd.int .u8).K Wc2) (w0 := wr) wr.heap.size (by rfl) (.tmp 152) (.tmp 156) 22 5 (.int .u8 0) 1 rfl Tryd.underlying22 infoB rfl (by decide) (by omega) v3 (l0.take F.toNat) (l0.drop T.toNat) AT nT cT (fun _ => True) (fun _ => False) rfl rfl HV2.out (Kd.C_below HCT.out HB2.out) (fun _ _ h => h) (fun _ h => h.elim) (fun _ _ => trivial) HB2.out HB2.out.size (by rw [List.length_take]; omega) ?_
              intro v5 w5 hR hB _ _
              have H5 := Aside0.mk (And.intro hR hB)
              clear hR hB
              refine hK.out _ _ ⟨(blk_cell (blk_below BXr.out H5.out.2) 0).trans rfl, (blk_cell (blk_below BXr.out H5.out.2) 1).trans rfl⟩ (fun hHeld => ?_)
              clear hK K
              refine norm_ (a' := ?_) ?_ ?_
              rotate_left
              · show Act.put _ (some 157) _ = _
                simp only [Act.put, List.setIfInBounds_toArray, List.set_cons_zero, List.set_cons_succ, i64_w, i32_w]
                rfl
              refine pure_ (i := 11) (N := some 18) (v := ?_) (a' := ?_) #[true, true, true, true, true, true, true, true, true, true, true, true] rfl rfl (by kernel_rfl) (fun _ _ _ h => h) (Or.inl ⟨by rfl, ?_⟩) ?_ ?_
              rotate_left
              · intro w'
                go_simp
                with_reducible rfl
              rotate_left
              · simp only [Act.put, List.setIfInBounds_toArray, List.set_cons_zero, List.set_cons_succ, i64_w, i32_w]
                rfl
              refine done_ (by kernel_rfl) ?_

              clear hcutF hcutT
              rw [HJ.out] at H5
              obtain ⟨A5, c5, e5⟩ := Kd.R_slice H5.out.1
              subst e5
              have BR5 := Aside0.mk (blk_below BRr.out H5.out.2)
              have r0 := (blk_cell BR5.out 0).trans rfl
              have r1 := (blk_cell BR5.out 1).trans rfl
              have r2 := (blk_cell BR5.out 2).trans rfl
              have k1 := Kd.C_string (P := Tryd.prog) (c := c4) Tryd.underlying22 Tryd.underlying5 Tryd.underlying9 (Kd.C_below (Kd.R_reads' H4.out.2).2.2 (below_step HL.out.2 (below_step HR.out.2 H5.out.2)))
              have k2 := Kd.C_string (P := Tryd.prog) (c := cv) Tryd.underlying22 Tryd.underlying5 Tryd.underlying9 (Kd.C_below (Kd.R_reads' HL.out.1).2.2 (below_step HR.out.2 H5.out.2))
              have k3 := Kd.C_string (P := Tryd.prog) (c := c5) Tryd.underlying22 Tryd.underlying5 Tryd.underlying9 (Kd.R_reads' H5.out.1).2.2
              have k4 := Kd.C_string (P := Tryd.prog) (c := c6) Tryd.underlying22 Tryd.underlying5 Tryd.underlying9 (Kd.C_below (Kd.R_reads' HR.out.1).2.2 H5.out.2)
              go_wp2
              exact bodyPost_ret (v := .bool true) (by simp [results, Tryd.results3, go_sem]) rfl ⟨rfl, below_step H4.out.1 (below_step HL.out.2 (below_step HR.out.2 H5.out.2))⟩
            | succ g2 =>
              have q1 : ((i2 : Int) < (rows.length : Int)) = True := eq_true (by omega)
              by_cases hin : a ≤ i2 ∧ i2 ≤ b
              · have f1 : ((a : Int) ≤ (i2 : Int)) = True := eq_true (by omega)
                have f2 : ((i2 : Int) ≤ (b : Int)) = True := eq_true (by omega)
                have hO := Aside0.mk (oth_in (rows := rows) hin.1 hin.2)
                clear hin
                go_wp2
                go_roundg g2
                case measure => omega
                case rel => exact ⟨i2 + 1, _, by omega, by go_num, by rw [hO.out], rfl, ⟨by rw [hO.out]; exact HR.out.1, HR.out.2⟩⟩
              · have hir2 : i2 < rows.length := by omega
                obtain ⟨ad_, Ar, cr, ea, hy, hlc, hC⟩ := line_of HK4.out hir2
                obtain rfl := Option.some.inj ea
                have HY := Aside0.mk hy
                replace hy := pw_cell_below (below_step HL.out.2 HR.out.2) hy
                have hlow : i2 < a ∨ b < i2 := by omega
                have hO : Aside0 (othV rows a b (i2 + 1) = othV rows a b i2 ++ [rows.getD i2 []]) := ⟨hlow.elim (fun h => oth_low h hir2 hab) (fun h => oth_high h hir2 hab)⟩
                have hrl := row_le rows i2
                have hjl := oth_len rows a b i2
                have hcl := oth_cnt rows a b i2
                generalize rows.getD i2 [] = row at hy HY hlc hC hO hrl
                generalize othV rows a b i2 = Q at hO hjl hcl HR ⊢
                have HLN := Aside0.mk (show (jn Q).length + row.length + 1 ≤ 8000000 by omega)
                have hJ := Aside0.mk (jn_snoc Q row)
                generalize hQ : Q.length = n at hcl hJ ⊢
                have hnb : n ≤ 4000000 := by omega
                have HQ := Aside0.mk hQ
                clear hrl hjl hcl hin hQ
                have q2 : (0 ≤ (i2 : Int)) = True := eq_true (by omega)
                have q3 : ((i2 : Int) < (rows.length : Int)) = True := eq_true (by omega)
                rcases hlow with hlow | hlow
                · have f1 : ((a : Int) ≤ (i2 : Int)) = False := eq_false (by omega)
                  clear hlow
                  cases n with
                  | zero =>
                    have f3 : ((0 : Int) < ((0 : Nat) : Int)) = False := eq_false (by omega)
                    have hQ0 : Aside0 (Q = []) := ⟨List.eq_nil_of_length_eq_zero HQ.out⟩
                    go_wp2_with (first
                      | (at_builtin; refine Kd.R_append_row (Value.int .u8) (0 : Int) (h1 := fun _ => rfl) (w0 := W2) W2.heap.size rfl (.tmp 139) (.tmp 143) 22 5 (.int .u8 0) 1 rfl Tryd.underlying22 infoB rfl (by decide) v2 (jn Q) row Ar row.length cr (fun _ => True) rfl rfl (fun _ _ => trivial) HR.out.1 (Kd.C_below hC (below_step HL.out.2 HR.out.2)) HR.out.2 HR.out.2.size (by have h1 := HLN.out; omega) ?_; intro v8 w8 hR hB _ _; have H8 := Aside0.mk (And.intro hR hB); clear hR hB))
                    go_roundg g2
                    case measure => omega
                    case rel => exact ⟨i2 + 1, _, by omega, by go_num, by rw [hO.out, List.length_append, HQ.out]; rfl, rfl, ⟨by rw [hO.out, hJ.out]; (first | rw [if_pos rfl] | rw [if_pos trivial]); have h := H8.out.1; rw [hQ0.out] at h; exact h, H8.out.2⟩⟩
                  | succ n =>
                    have f3 : ((0 : Int) < ((n + 1 : Nat) : Int)) = True := eq_true (by omega)
                    go_wp2_with (first
                      | (at_builtin; refine Kd.R_append_row (Value.int .u8) (0 : Int) (h1 := fun _ => rfl) (w0 := W2) W2.heap.size rfl (.tmp 136) (.tmp 137) 22 5 (.int .u8 0) 1 rfl Tryd.underlying22 infoB rfl (by decide) v2 (jn Q) [10] (some ⟨wr.heap.size, 0, none⟩) 1 1 (fun _ => True) rfl rfl (fun _ _ => trivial) (Kd.R_alloc HR.out.1 (.cells #[.int .u8 10] 5)) (u8_C (xs := [10]) (fr := (0, 0)) (blk_new wr _) (by decide)) (HR.out.2.alloc HR.out.2.size _) (by have h := HR.out.2.size; simp only [World.size_alloc]; omega) (by have h1 := HLN.out; omega) ?_; intro v7 w7 hR hB _ _; have H7 := Aside0.mk (And.intro hR hB); clear hR hB; have hy7 := pw_cell_below (below_step HL.out.2 H7.out.2) HY.out)
                      | (at_builtin; refine Kd.R_append_row (Value.int .u8) (0 : Int) (h1 := fun _ => rfl) (w0 := W2) W2.heap.size rfl (.tmp 139) (.tmp 143) 22 5 (.int .u8 0) 1 rfl Tryd.underlying22 infoB rfl (by decide) v7 (jn Q ++ [10]) row Ar row.length cr (fun _ => True) rfl rfl (fun _ _ => trivial) H7.out.1 (Kd.C_below hC (below_step HL.out.2 H7.out.2)) H7.out.2 H7.out.2.size (by have h1 := HLN.out; rw [List.length_append, List.length_singleton]; omega) ?_; intro v8 w8 hR hB _ _; have H8 := Aside0.mk (And.intro hR hB); clear hR hB))
                    go_roundg g2
                    case measure => omega
                    case rel => exact ⟨i2 + 1, _, by omega, by go_num, by rw [hO.out, List.length_append, HQ.out, List.length_singleton]; go_num, rfl, ⟨by rw [hO.out, hJ.out, if_neg (by omega)]; have h := H8.out.1; rw [List.append_assoc] at h; exact h, H8.out.2⟩⟩
                · have f1 : ((a : Int) ≤ (i2 : Int)) = True := eq_true (by omega)
                  have f2 : ((i2 : Int) ≤ (b : Int)) = False := eq_false (by omega)
                  clear hlow
                  cases n with
                  | zero =>
                    have f3 : ((0 : Int) < ((0 : Nat) : Int)) = False := eq_false (by omega)
                    have hQ0 : Aside0 (Q = []) := ⟨List.eq_nil_of_length_eq_zero HQ.out⟩
                    go_wp2_with (first
                      | (at_builtin; refine Kd.R_append_row (Value.int .u8) (0 : Int) (h1 := fun _ => rfl) (w0 := W2) W2.heap.size rfl (.tmp 139) (.tmp 143) 22 5 (.int .u8 0) 1 rfl Tryd.underlying22 infoB rfl (by decide) v2 (jn Q) row Ar row.length cr (fun _ => True) rfl rfl (fun _ _ => trivial) HR.out.1 (Kd.C_below hC (below_step HL.out.2 HR.out.2)) HR.out.2 HR.out.2.size (by have h1 := HLN.out; omega) ?_; intro v8 w8 hR hB _ _; have H8 := Aside0.mk (And.intro hR hB); clear hR hB))
                    go_roundg g2
                    case measure => omega
                    case rel => exact ⟨i2 + 1, _, by omega, by go_num, by rw [hO.out, List.length_append, HQ.out]; rfl, rfl, ⟨by rw [hO.out, hJ.out]; (first | rw [if_pos rfl] | rw [if_pos trivial]); have h := H8.out.1; rw [hQ0.out] at h; exact h, H8.out.2⟩⟩
                  | succ n =>
                    have f3 : ((0 : Int) < ((n + 1 : Nat) : Int)) = True := eq_true (by omega)
                    go_wp2_with (first
                      | (at_builtin; refine Kd.R_append_row (Value.int .u8) (0 : Int) (h1 := fun _ => rfl) (w0 := W2) W2.heap.size rfl (.tmp 136) (.tmp 137) 22 5 (.int .u8 0) 1 rfl Tryd.underlying22 infoB rfl (by decide) v2 (jn Q) [10] (some ⟨wr.heap.size, 0, none⟩) 1 1 (fun _ => True) rfl rfl (fun _ _ => trivial) (Kd.R_alloc HR.out.1 (.cells #[.int .u8 10] 5)) (u8_C (xs := [10]) (fr := (0, 0)) (blk_new wr _) (by decide)) (HR.out.2.alloc HR.out.2.size _) (by have h := HR.out.2.size; simp only [World.size_alloc]; omega) (by have h1 := HLN.out; omega) ?_; intro v7 w7 hR hB _ _; have H7 := Aside0.mk (And.intro hR hB); clear hR hB; have hy7 := pw_cell_below (below_step HL.out.2 H7.out.2) HY.out)
                      | (at_builtin; refine Kd.R_append_row (Value.int .u8) (0 : Int) (h1 := fun _ => rfl) (w0 := W2) W2.heap.size rfl (.tmp 139) (.tmp 143) 22 5 (.int .u8 0) 1 rfl Tryd.underlying22 infoB rfl (by decide) v7 (jn Q ++ [10]) row Ar row.length cr (fun _ => True) rfl rfl (fun _ _ => trivial) H7.out.1 (Kd.C_below hC (below_step HL.out.2 H7.out.2)) H7.out.2 H7.out.2.size (by have h1 := HLN.out; rw [List.length_append, List.length_singleton]; omega) ?_; intro v8 w8 hR hB _ _; have H8 := Aside0.mk (And.intro hR hB); clear hR hB))
                    go_roundg g2
                    case measure => omega
                    case rel => exact ⟨i2 + 1, _, by omega, by go_num, by rw [hO.out, List.length_append, HQ.out, List.length_singleton]; go_num, rfl, ⟨by rw [hO.out, hJ.out, if_neg (by omega)]; have h := H8.out.1; rw [List.append_assoc] at h; exact h, H8.out.2⟩⟩
        | succ g =>
          have q1 : ((i : Int) ≤ (b : Int) - 1) = True := eq_true (by omega)
          have hir : i < rows.length := by omega
          obtain ⟨ad_, Ar, cr, ea, hy, hlc, hC⟩ := line_of HK4.out hir
          obtain rfl := Option.some.inj ea
          replace hy := pw_cell_below HL.out.2 hy
          have HW := Aside0.mk (want_step hai hir)
          have hrl := row_le rows i
          have hjl := lnN_sub rows a (i - a)
          generalize rows.getD i [] = row at hy hlc hC HW hrl
          have HLN := Aside0.mk (show (lnN ((rows.drop a).take (i - a))).length + row.length + 1 ≤ 4000000 by omega)
          clear hrl hjl
          have q2 : (0 ≤ (i : Int)) = True := eq_true (by omega)
          have q3 : ((i : Int) < (rows.length : Int)) = True := eq_true (by omega)
          go_wp2_with (first
            | (at_builtin; refine Kd.R_append_row (Value.int .u8) (0 : Int) (h1 := fun _ => rfl) (w0 := W) W.heap.size rfl (.tmp 112) (.tmp 116) 22 5 (.int .u8 0) 1 rfl Tryd.underlying22 infoB rfl (by decide) v (lnN ((rows.drop a).take (i - a))) row Ar row.length cr (fun _ => True) rfl rfl (fun _ _ => trivial) HL.out.1 (Kd.C_below hC HL.out.2) HL.out.2 HL.out.2.size (by have h1 := HLN.out; omega) ?_; intro v5 w5 hR hB _ _; have H5 := Aside0.mk (And.intro hR hB); clear hR hB)
            | (at_builtin; refine Kd.R_append_row (Value.int .u8) (0 : Int) (h1 := fun _ => rfl) (w0 := W) W.heap.size rfl (.tmp 117) (.tmp 118) 22 5 (.int .u8 0) 1 rfl Tryd.underlying22 infoB rfl (by decide) v5 (lnN ((rows.drop a).take (i - a)) ++ row) [10] (some ⟨w5.heap.size, 0, none⟩) 1 1 (fun _ => True) rfl rfl (fun _ _ => trivial) (Kd.R_alloc H5.out.1 (.cells #[.int .u8 10] 5)) (u8_C (xs := [10]) (fr := (0, 0)) (blk_new w5 _) (by decide)) (H5.out.2.alloc H5.out.2.size _) (by have h := H5.out.2.size; simp only [World.size_alloc]; omega) (by have h1 := HLN.out; rw [List.length_append]; omega) ?_; intro v6 w6 hR hB _ _; have H6 := Aside0.mk (And.intro hR hB); clear hR hB))
          go_roundg g
          case measure => omega
          case rel => exact ⟨i + 1, _, _, by omega, by omega, by go_num, rfl, rfl, ⟨by rw [HW.out]; exact H6.out.1, H6.out.2⟩⟩
end Go.Proofs.YtlcdnpecoaamcaaDoor.WalkExtentLines
