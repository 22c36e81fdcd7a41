/-
  The reference of patterns, by hand: things, walked.
-/
import Derived.Test.YtdhdngoeaneanaaDoorRTA
namespace Go.Proofs.YtdhdngoeaneanaaDoor.PT
open Go.RowKit Go.Proofs.YtdhdngoeaneanaaDoorW.PrintWords Go.Proofs.YtdhdngoeaneanaaDoorW.PrintMore
set_option linter.unusedVariables false
/-- The things so far. -/
def TH (w : World) (ov : Value) (l : List RT) (wl : World) : Prop := Below w.heap.size w wl ∧ kR.R 111 wl w.heap.size (fun _ => True) ov l ∧ ∀ x ∈ l, 0 ≤ x.1 ∧ x.1 ≤ 5
/-- The things so far, and one at work in block T. -/
def TW (w : World) (ov : Value) (l : List RT) (T : Nat) (y : RT) (wl : World) : Prop := Below w.heap.size w wl ∧ kR.R 111 wl w.heap.size (fun k => k ≠ T) ov l ∧ wl.heap[T]? = some (.cells (tcells y) 111 (0, 0)) ∧ w.heap.size ≤ T ∧ ∀ x ∈ l, 0 ≤ x.1 ∧ x.1 ≤ 5
section
variable {w wl : World} {ov : Value} {l : List RT} {T : Nat} {y : RT}
theorem TH.mv (h : TH w ov l wl) {w' : World} (hb : Below wl.heap.size wl w') : TH w ov l w' := ⟨below_step h.1 hb, Kd.R_below h.2.1 hb, h.2.2⟩
theorem TH.drew (h : TH w ov l wl) (n : Nat) : TH w ov l (wl.drewN n) := ⟨pw_below_drewN h.1 n, Kd.R_drewN h.2.1 n, h.2.2⟩
theorem TW.mv (h : TW w ov l T y wl) {w' : World} (hb : Below wl.heap.size wl w') : TW w ov l T y w' := ⟨below_step h.1 hb, Kd.R_below h.2.1 hb, blk_below h.2.2.1 hb, h.2.2.2⟩
theorem TW.kind (h : TW w ov l T y wl) (k : Int) : TW w ov l T (k, y.2) (wl.setCell ⟨T, 0, none⟩ (.int .i64 k)) :=
  ⟨below_set h.1 h.2.2.2.1, Kd.R_far h.2.1 (fun _ hk => hk) _, blk_kind (k := y.1) (S := y.2) h.2.2.1 k, h.2.2.2⟩
theorem setCells_keep (w : World) (g o : Nat) (vs : List Value) : KeepBut w (w.setCells g o vs) g none := by
  obtain ⟨s1, s2, s3, s4⟩ := setCells_same g vs o w
  exact ⟨by rw [s4]; exact Nat.le_refl _, fun i _ hi _ => setCells_far vs o i hi⟩
theorem below_cells {B : Nat} {w wl : World} (h : Below B w wl) {g : Nat} (hg : B ≤ g) (o : Nat) (vs : List Value) : Below B w (wl.setCells g o vs) := by
  obtain ⟨s1, s2, s3, s4⟩ := setCells_same g vs o wl
  exact ⟨s1.trans h.os, s2.trans h.tape, s3.trans h.output, by rw [s4]; exact h.size, fun i hi => (setCells_far vs o i (by omega)).trans (h.block i hi)⟩
theorem TW.set (h : TW w ov l T y wl) (S : Nat → Bool) : TW w ov l T (y.1, S) (wl.setCells T 1 (bset S).toList) :=
  ⟨below_cells h.1 h.2.2.2.1 _ _, Kd.R_keep h.2.1 (setCells_keep _ _ _ _) (fun _ hk => hk), blk_setS (k := y.1) (S := y.2) h.2.2.1 S, h.2.2.2⟩
theorem TW.byte (h : TW w ov l T y wl) {ad : Addr} {p : List Int} (hr : Kd.C (Kd.int .u8) w (some ad) p.length p) {i : Nat} (h1 : i < p.length) : wl.cell? (ad.add i) = some (.int .u8 (rd p (i : Int))) := by
  obtain ⟨ad', e, hc⟩ := Kd.at_int hr (i : Int) (by omega) (by omega)
  injection e with e
  subst e
  rw [Int.toNat_natCast] at hc
  exact (h.1.cell (World.block_lt_of_cell? w _ hc)).trans hc
theorem TW.byte1 (h : TW w ov l T y wl) {ad : Addr} {p : List Int} (hr : Kd.C (Kd.int .u8) w (some ad) p.length p) {a : Nat} (h1 : a + 1 < p.length) : wl.cell? ⟨ad.block, ad.off + (a + 1), none⟩ = some (.int .u8 (rd p ((a : Int) + 1))) := by
  have h2 := h.byte hr h1
  rwa [add_far, show ((a + 1 : Nat) : Int) = (a : Int) + 1 from by omega] at h2
theorem TW.c0 (h : TW w ov l T y wl) : wl.cell? ⟨T, 0, none⟩ = some (.int .i64 y.1) := (blk_cell h.2.2.1 0).trans rfl
theorem TW.f0 (h : TW w ov l T y wl) : wl.frozen? ⟨T, 0, none⟩ = false := blk_frozen h.2.2.1 0
theorem TW.row (h : TW w ov l T y wl) (o : Obj) (cs : Array Value) : TW w ov l T y ((wl.alloc o).setRow wl.heap.size cs) := h.mv (below_setRow (below_alloc (Below.refl _ _) _) (Nat.le_refl _) _)
/-- A thing is made. -/
theorem TH.tw (h : TH w ov l wl) (y0 y : RT) : TW w ov l wl.heap.size y ((wl.alloc (.cells (tcells y0) 111)).setRow wl.heap.size (tcells y)) := by
  have hb := h.1.size
  have HR : kR.R 111 wl w.heap.size (fun k => k ≠ wl.heap.size) ov l := Kd.R_mono (Kd.R_bound h.2.1) (fun k hk => by have := hk.2.2.1; omega)
  refine ⟨below_setRow (below_alloc h.1 _) hb _, ?_, row_blk (blk_new wl _), hb, h.2.2⟩
  refine Kd.R_step (Kd.R_alloc HR (.cells (tcells y0) 111)) (fun k hk _ => ?_)
  exact setRow_other _ _ _ _ hk
end
set_option maxHeartbeats 16000000 in
set_option maxRecDepth 100000 in
theorem rthings_calls {w : World} {A : Option Addr} {c : Nat} {p : List Int} (hr : Kd.C (Kd.int .u8) w A p.length p) (hu : ∀ i, 0 ≤ rd p i ∧ rd p i ≤ 255) :
    Calls Tryd.prog 53 #[.slice A p.length c] w fun e w' => ∃ v l, e = .returned (.tuple #[v, .int .i64 (compileV p).2.1, .int .i64 (compileV p).2.2]) ∧ TH w v l w' ∧ l.length ≤ 257 ∧ (∀ pl, (compileV p).1 = some pl → l.map RTd = pl) := by
  have hb : p.length ≤ 9223372036854775807 := (Kd.reads_of_C (d := (0 : Int)) hr).2.1
  by_cases hl : p.length > 256
  · have hd : decide ((256 : Int) < (p.length : Int)) = true := decide_eq_true (by omega)
    have HL := Aside0.mk (show compileV p = (none, 0, 1) from if_pos hl)
    clear hl hr hu
    go_enter Tryd.func53, Tryd.ntmps53
    go_wp2
    refine bodyPost_ret (v := .tuple #[.slice none 0 0, .int .i64 0, .int .i64 1]) (by simp [results, Tryd.results53, go_sem]) rfl ?_
    rw [HL.out]
    exact ⟨_, [], rfl, ⟨Below.refl _ _, Kd.R_nil _ _ _ _ _, fun x hx => by cases hx⟩, by simp, fun pl h => by cases h⟩
  · have hd : decide ((256 : Int) < (p.length : Int)) = false := decide_eq_false (by omega)
    have HL := Aside0.mk hl
    have hle : p.length ≤ 256 := by omega
    have HR := Aside0.mk (And.intro hr hu)
    clear hl
    go_enter Tryd.func53, Tryd.ntmps53
    go_upto_region 7 with (fail)
    go_cut [26] (fun v26 wc => v26 = .bool (decide (0 < p.length) && rd p 0 == 94) ∧ w = wc)
    case first => as_aux_lemma =>
      by_cases lt : 0 < p.length
      · obtain ⟨ad, rfl, hc⟩ := Kd.at_int hr (0 : Int) (by omega) (by omega)
        have q0 : decide ((0 : Int) < (p.length : Int)) = true := decide_eq_true (by omega)
        have q2 : ((0 : Int) < (p.length : Int)) = True := eq_true (by omega)
        have HLT := Aside0.mk lt
        have q3 : (0 < p.length) = True := eq_true lt
        generalize hx : rd p 0 = x at hc
        have HX := Aside0.mk hx
        clear hx
        rw [show (0 : Int).toNat = 0 from rfl, show ad.add 0 = ad from by simp [Addr.add]] at hc
        clear lt hr HR hu
        by_cases e94 : x = 94
        · subst e94
          go_wp2
          go_meet
          case rel => exact ⟨by rw [decide_eq_true HLT.out, HX.out]; rfl, rfl⟩
        · have e94b : (x == 94) = false := beq_eq_false_iff_ne.mpr e94
          have E := Aside0.mk e94b
          clear e94
          go_wp2
          go_meet
          case rel => exact ⟨by rw [decide_eq_true HLT.out, HX.out, E.out]; rfl, rfl⟩
      · have q0 : decide ((0 : Int) < (p.length : Int)) = false := decide_eq_false (by omega)
        have HLT := Aside0.mk lt
        go_wp2
        go_meet
        case rel => exact ⟨by rw [decide_eq_false HLT.out]; rfl, rfl⟩
    case rest => as_aux_lemma =>
      obtain ⟨rfl, rfl⟩ := hcut
      generalize hB : (decide (0 < p.length) && rd p 0 == 94) = B
      have HB := Aside0.mk hB
      clear hB
      go_upto_if 26 with (fail)
      clear hr hu
      go_cut [5, 6] (fun v5 v6 wd => ∃ (a d : Nat) (l : List RT), v6 = .int .i64 a ∧ a ≤ p.length ∧ l.length ≤ a ∧ p.length < a + d ∧ Aside0 (TH w v5 l wd ∧ (a = 0 → 0 < p.length → rd p 0 ≠ 94) ∧ starB (l.map RTd) = false ∧ bareB (l.map RTd) = true ∧ compL p (p.length + 1) 0 [] = compL p d a (l.map RTd)))
      case first => as_aux_lemma =>
        cases B with
        | false =>
          go_wp2
          go_meet
          case rel =>
            refine ⟨0, p.length + 1, [], rfl, by omega, by simp, by omega, ⟨⟨Below.refl _ _, Kd.R_nil _ _ _ _ _, fun x hx => by cases hx⟩, fun _ h0 h94 => ?_, rfl, rfl, rfl⟩⟩
            have h := HB.out
            rw [decide_eq_true h0, h94] at h
            cases h
        | true =>
          have h := HB.out
          rw [Bool.and_eq_true, decide_eq_true_iff, beq_iff_eq] at h
          have HS := Aside0.mk h
          have hpl := h.1
          clear h HB
          go_wp2_with (first
            | ((with_reducible refine gate_ (.build 111 #[(0, .const (.int .i64 2))]) rfl ?_); refine wpl_build rfl _ 0 (.const (.int .i64 2)) rfl (tcells (2, fun _ => false)) (bld0 2) ?_)
            | ((with_reducible refine gate_ (.buildSlice 87 1 #[(0, .tmp 28)]) rfl ?_); refine wpl_thing rfl (.tmp 28) rfl (2, fun _ => false) rfl ?_)
            | (at_builtin; refine Kd.R_append kR (w0 := w) w.heap.size rfl (.tmp 27) (.tmp 29) 87 111 (.agg (tcells (0, fun _ => false))) 264 rfl Tryd.underlying87 infoR (by rfl) (by decide) (by omega) (.slice none 0 0) [] (2, fun _ => false) (tcl (2, fun _ => false)) (fun _ => True) (fun _ => False) rfl rfl (kR_M _ _ _ _) (fun _ hk => hk.elim) (fun _ _ => trivial) (Kd.R_nil _ _ _ _ _) (Below.refl _ _) (Nat.le_refl _) (by decide) ?_; intro v1 w1 hR1 hB1 hG1 hat; have HG := Aside0.mk (And.intro hB1 hR1); clear hR1 hB1 hG1 hat))
          go_meet
          case rel =>
            refine ⟨1, p.length, [(2, fun _ => false)], rfl, hpl, by simp, by omega, ⟨⟨HG.out.1, HG.out.2, fun x hx => by rw [List.mem_singleton.1 hx]; decide⟩, fun h => by omega, rfl, rfl, ?_⟩⟩
            exact comp_step HS.out.1 (nx_front HS.out.2)
      case rest => as_aux_lemma =>
        obtain ⟨a, d, l, rfl, hap, hla, had, HA⟩ := hcut
        go_wp2
        go_loopg [5, 6, 7, 8] d (fun g v5 v6 v7 v8 wr => ∃ (a : Nat) (l : List RT), v6 = .int .i64 a ∧ v7 = .bool (starB (l.map RTd)) ∧ v8 = .bool (bareB (l.map RTd)) ∧ a ≤ p.length ∧ l.length ≤ a ∧ p.length < a + g ∧ Aside0 (TH w v5 l wr ∧ (a = 0 → 0 < p.length → rd p 0 ≠ 94) ∧ compL p (p.length + 1) 0 [] = compL p g a (l.map RTd)))
        case atStart => exact ⟨a, l, rfl, by rw [HA.out.2.2.1], by rw [HA.out.2.2.2.1], hap, hla, had, ⟨HA.out.1, HA.out.2.1, HA.out.2.2.2.2⟩⟩
        case round =>
          clear HA had hla hap HB
          obtain ⟨a, l, rfl, rfl, rfl, hap, hla, had, HA⟩ := hrel
          by_cases lt : a < p.length
          · obtain ⟨d, rfl⟩ : ∃ d, gk = d + 1 := ⟨gk - 1, by omega⟩
            have q0 : decide ((a : Int) < (p.length : Int)) = true := decide_eq_true (by omega)
            have q1 : (0 ≤ (a : Int)) = True := eq_true (by omega)
            have q2 : ((a : Int) < (p.length : Int)) = True := eq_true (by omega)
            obtain ⟨ad, rfl, hbyte0⟩ := Kd.at_int HR.out.1 (a : Int) (by omega) (by omega)
            rw [Int.toNat_natCast] at hbyte0
            have hbyte := (HA.out.1.1.cell (World.block_lt_of_cell? w _ hbyte0)).trans hbyte0
            clear hbyte0
            generalize hx : rd p (a : Int) = x at hbyte
            have HX := Aside0.mk hx
            have hxr : 0 ≤ x ∧ x ≤ 255 := by rw [← hx]; exact HR.out.2 _
            clear hx
            have z := zth
            generalize hsb : starB (l.map RTd) = sB
            generalize hbb : bareB (l.map RTd) = bB
            have HSB := Aside0.mk (And.intro hsb hbb)
            clear hsb hbb
            have HA1 := Aside0.mk HA.out.1
            go_upto_block 2 with (first
              | (go_at_call 71; refine (rone_calls _ hxr _).mono ?_; rintro e w1 ⟨rfl, hx⟩; have HT1 := Aside0.mk (HA.out.1.mv hx); clear hx HA1)
              | ((with_reducible refine gate_ (.build 111 #[(1, .tmp 40)]) rfl ?_); refine wpl_build rfl _ 1 (.tmp 40) rfl (tcells (0, _)) (bld1 _) ?_)
              | ((with_reducible refine gate_ (.store 111 (.tmp 10) (.tmp 41)) rfl ?_); refine wpList_store_row rfl 111 (.tmp 10) (.tmp 41) rfl _ (tcells (0, _)) rfl rfl _ _ (blk_new _ _) (szth' _) (by rw [tcells_size, tcells_size]) (tcells_all _) ?_))
            have HT := Aside0.mk (TH.tw HT1.out (0, fun _ => false) (0, fun j => j == x.toNat))
            generalize ((w1.alloc (.cells (tcells (0, fun _ => false)) 111)).setRow w1.heap.size (tcells (0, fun j => j == x.toNat))) = W at HT ⊢
            generalize w1.heap.size = T at HT ⊢
            clear HT1 z
            have HN := Aside0.mk HA.out.2
            clear HA
            go_cut [11] (fun v11 wd => ∃ (y : RT) (a' : Nat), v11 = .int .i64 a' ∧ a' ≤ p.length ∧ a < a' ∧ Aside0 (TW w u5 l T y wd ∧ (y.1 = 0 ∨ y.1 = 3 ∨ y.1 = 4 ∨ y.1 = 5) ∧ nextV p a (l.map RTd) = (a', -1, l.map RTd ++ [RTd y])))
            case first => as_aux_lemma =>
              by_cases hC : x = 42 ∧ bB = false
              · obtain ⟨e42, rfl⟩ := hC
                have e42b : (x == 42) = true := by rw [e42]; rfl
                cases sB with
                | true =>
                  have HF := Aside0.mk (show compileV p = (none, (a : Int), 110) by
                    have h := comp_fault (d := d) lt (nx_starred (HX.out.trans e42) HSB.out.1) (by omega)
                    unfold compileV
                    rw [if_neg HL.out, HN.out.2, h, if_pos (show (a : Int) ≥ 0 by omega)])
                  clear e42
                  go_wp2
                  refine bodyPost_ret (v := .tuple #[.slice none 0 0, .int .i64 a, .int .i64 110]) (by simp [results, Tryd.results53, go_sem]) rfl ?_
                  rw [HF.out]
                  exact ⟨_, [], rfl, ⟨HT.out.1, Kd.R_nil _ _ _ _ _, fun x hx => by cases hx⟩, by simp, fun pl h => by cases h⟩
                | false =>
                  obtain ⟨l0, S, hl0⟩ := last_single HSB.out.1 HSB.out.2
                  obtain ⟨l1, y1, rfl⟩ : ∃ l1 y1, l = l1 ++ [y1] := by
                    rcases List.eq_nil_or_concat l with rfl | ⟨l1, y1, rfl⟩
                    · simp at hl0
                    · exact ⟨l1, y1, List.concat_eq_append⟩
                  rw [List.map_append, List.map_singleton] at hl0
                  obtain ⟨hl1, hy1⟩ := List.append_inj' hl0 rfl
                  obtain ⟨hk1, hS1⟩ := RTd_single (List.singleton_inj.1 hy1)
                  obtain ⟨k1, S1⟩ := y1
                  simp only at hk1 hS1
                  subst hk1 hS1
                  have HNX := Aside0.mk (comp_step (d := d) lt (nx_many (p := p) (l := (l1 ++ [(0, S1)]).map RTd) (l0 := l0) (S := S1) (HX.out.trans e42) (by rw [List.map_append, List.map_singleton]; exact hl0)))
                  have HL1 := Aside0.mk hl1
                  clear hl0 hl1 hy1 e42
                  obtain ⟨g, cap, rfl, hg, hgl, cells, hgc⟩ := Kd.R_form HT.out.2.1 (by simp)
                  have hn1 : (l1.length : Int) ≤ 300 := by
                    rw [List.length_append] at hla
                    simp only [List.length_singleton] at hla
                    omega
                  obtain ⟨c, hc1, hM, hcc, hfz⟩ := Kd.R_elem HT.out.2.1 (0, fun _ => false) (l1.length : Int) (by omega) (by simp; omega)
                  have hct : c = tcl (0, S1) := by
                    have h : c = tcl ((l1 ++ [((0 : Int), S1)]).getD (l1.length : Int).toNat (0, fun _ => false)) := hM
                    rw [h, Int.toNat_natCast]
                    simp
                  have cg : W.cell? ⟨g, l1.length * 257, none⟩ = some (.int .i64 0) := hcc 0 _ (by rw [hct]; rfl)
                  have fg : W.frozen? ⟨g, l1.length * 257, none⟩ = false := hfz 0
                  have HR2 := Aside0.mk (show kR.R 111 (W.setCell ⟨g, l1.length * 257, none⟩ (.int .i64 1)) w.heap.size (fun k => k ≠ T) (.slice (some ⟨g, 0, none⟩) (l1.length + 1) cap) (l1 ++ [(1, S1)]) by
                    have h := (Kd.R_seg (seg := [.int .i64 1]) (j := 0) (x' := (1, S1)) (okp := fun _ => False) HT.out.2.1 (l1.length : Int) (by omega) (by simp; omega) hc1 hcc (by decide) (by rw [hct]; rfl) (fun _ hk => hk.elim)).1
                    rw [Int.toNat_natCast, show (l1 ++ [((0 : Int), S1)]).set l1.length (1, S1) = l1 ++ [(1, S1)] from by simp, show (l1 ++ [((0 : Int), S1)]).length = l1.length + 1 from by simp] at h
                    exact h)
                  have HB2 := Aside0.mk (below_set (j := l1.length * 257) (v := .int .i64 1) HT.out.1 hg)
                  clear hM hcc hfz hct hc1
                  go_wp2_with fail
                  go_roundg d
                  case measure => omega
                  case rel =>
                    refine ⟨a + 1, l1 ++ [(1, S1)], by congr 1, ?_, ?_, by omega, by simp at hla ⊢; omega, by omega, ⟨⟨HB2.out, by rw [show (l1 ++ [((0 : Int), S1)]).length = l1.length + 1 from by simp]; exact Kd.R_mono HR2.out (fun _ _ => trivial), fun x hx => ?_⟩, fun h => by omega, ?_⟩⟩
                    · rw [List.map_append, List.map_singleton]; exact congrArg Value.bool (starB_many (l1.map RTd) S1).1.symm
                    · rw [List.map_append, List.map_singleton]; exact congrArg Value.bool (starB_many (l1.map RTd) S1).2.symm
                    · rcases List.mem_append.1 hx with hx | hx
                      · exact HT.out.2.2.2.2 x (List.mem_append_left _ hx)
                      · rw [List.mem_singleton.1 hx]; exact (show (0 : Int) ≤ 1 ∧ (1 : Int) ≤ 5 by decide)
                    · rw [HN.out.2, HNX.out, List.map_append, List.map_singleton, ← HL1.out]; rfl
              · skip
                by_cases e42 : x = 42
                · have hbt : bB = true := by
                    cases bB with
                    | true => rfl
                    | false => exact absurd ⟨e42, rfl⟩ hC
                  subst hbt
                  have HNX := Aside0.mk (nx_bare (p := p) (a := a) (HX.out.trans e42) HSB.out.2)
                  clear hC
                  subst e42
                  go_wp2
                  go_meet
                  case rel => exact ⟨(0, fun j => j == (42 : Int).toNat), a + 1, by congr 1, by omega, by omega, ⟨HT.out, .inl rfl, by rw [HNX.out]; rfl⟩⟩
                by_cases e36 : x = 36 ∧ a + 1 = p.length
                · obtain ⟨e36, en⟩ := e36
                  have HNX := Aside0.mk (nx_back (l := l.map RTd) (HX.out.trans e36) en)
                  have en2 : ((a : Int) == (p.length : Int) - 1) = true := by rw [beq_iff_eq]; omega
                  have f0 : W.frozen? ⟨T, 0, none⟩ = false := blk_frozen HT.out.2.2.1 0
                  have c0 : W.cell? ⟨T, 0, none⟩ = some (.int .i64 0) := (blk_cell HT.out.2.2.1 0).trans rfl
                  clear hC e42 en
                  subst e36
                  go_wp2
                  go_meet
                  case rel => exact ⟨(3, fun j => j == (36 : Int).toNat), a + 1, by congr 1, by omega, by omega, ⟨HT.out.kind 3, .inr (.inl rfl), by rw [HNX.out]; rfl⟩⟩
                have e42b : (x == 42) = false := beq_eq_false_iff_ne.mpr e42
                by_cases e46 : x = 46
                · have HNX := Aside0.mk (nx_dot (l := l.map RTd) (HX.out.trans e46))
                  clear hC e42 e36 e42b
                  subst e46
                  go_wp2_with (first
                    | (go_at_call 72; refine (rall_calls _).mono ?_; rintro e w2 ⟨rfl, hx⟩; have HT2 := Aside0.mk (HT.out.mv hx); clear hx)
                    | ((with_reducible refine gate_ (.store 109 (.tmp 76) (.tmp 75)) rfl ?_); refine wpList_store_mid rfl 109 (.tmp 76) (.tmp 75) rfl T 1 (bset fun j => decide (j < 256)) rfl rfl (th_there (k := 0) HT2.out.2.2.1 _) (szset' _) (bset_all _) ?_))
                  go_meet
                  case rel => exact ⟨(0, fun j => decide (j < 256)), a + 1, by congr 1, by omega, by omega, ⟨HT2.out.set _, .inl rfl, by rw [HNX.out]; rfl⟩⟩
                by_cases e91 : x = 91
                · have HNX := Aside0.mk (nx_set (l := l.map RTd) (HX.out.trans e91))
                  have hge := brkV_ge p (a + 1) (-1)
                  have hbl := brkV_le (p := p) (a := a + 1) (-1) (by omega)
                  have hfa := nextV_fault p a (l.map RTd)
                  rw [HNX.out] at hfa
                  clear hC e42 e36 e42b e46
                  subst e91
                  have hsc := fun W' (h : Below w.heap.size w W') => rset_calls (c := c) (a := a + 1) (Kd.C_below HR.out.1 h) ⟨by omega, by omega⟩ hle HR.out.2
                  generalize brkV p (a + 1) (-1) = r at HNX hsc hge hbl hfa
                  obtain ⟨S, b, f⟩ := r
                  simp only at HNX hsc hge hbl hfa
                  have HSC := Aside0.mk hsc
                  clear hsc
                  rw [show ((a + 1 : Nat) : Int) = (a : Int) + 1 from by omega] at HSC
                  have z := zset'
                  by_cases hf : 0 ≤ f
                  · have hfd : decide (0 ≤ f) = true := decide_eq_true hf
                    have HF := Aside0.mk (show compileV p = (none, f, 110) by
                      have h := comp_fault (d := d) lt (by rw [HNX.out]) hf
                      unfold compileV
                      rw [if_neg HL.out, HN.out.2, h, if_pos (show f ≥ 0 by omega)])
                    clear hf
                    go_wp2_with (first
                      | (go_at_call 73; refine (HSC.out _ HT.out.1).mono ?_; rintro e w2 ⟨rfl, hx⟩; have HT2 := Aside0.mk (HT.out.mv hx); clear hx)
                      | ((with_reducible refine gate_ (.store 109 (.tmp 12) (.tmp 85)) rfl ?_); refine wpList_store_row rfl 109 (.tmp 12) (.tmp 85) rfl _ (bset S) rfl rfl _ _ (blk_new _ _) (szset' _) (by rw [bset_size, bset_size]) (bset_all _) ?_))
                    refine bodyPost_ret (v := .tuple #[.slice none 0 0, .int .i64 f, .int .i64 110]) (by simp [results, Tryd.results53, go_sem]) rfl ?_
                    rw [HF.out]
                    exact ⟨_, [], rfl, ⟨below_setRow (below_alloc HT2.out.1 _) HT2.out.1.size _, Kd.R_nil _ _ _ _ _, fun x hx => by cases hx⟩, by simp, fun pl h => by cases h⟩
                  · have hfd : decide (0 ≤ f) = false := decide_eq_false hf
                    obtain rfl : f = -1 := by omega
                    clear hf hfa
                    go_wp2_with (first
                      | (go_at_call 73; refine (HSC.out _ HT.out.1).mono ?_; rintro e w2 ⟨rfl, hx⟩; have HT2 := Aside0.mk (HT.out.mv hx); clear hx)
                      | ((with_reducible refine gate_ (.store 109 (.tmp 12) (.tmp 85)) rfl ?_); refine wpList_store_row rfl 109 (.tmp 12) (.tmp 85) rfl _ (bset S) rfl rfl _ _ (blk_new _ _) (szset' _) (by rw [bset_size, bset_size]) (bset_all _) ?_; have HT3 := Aside0.mk (HT2.out.row (.cells (bset fun _ => false) 109) (bset S)))
                      | ((with_reducible refine gate_ (.load 109 (.tmp 12)) rfl ?_); refine wpList_load_row rfl 109 (.tmp 12) rfl _ rfl _ _ _ _ (row_blk (cs' := bset S) (blk_new _ _)) Tryd.underlying109 rfl (szset' _) ?_)
                      | ((with_reducible refine gate_ (.store 109 (.tmp 93) (.tmp 91)) rfl ?_); refine wpList_store_mid rfl 109 (.tmp 93) (.tmp 91) rfl T 1 (bset S) rfl rfl (th_there (k := 0) HT3.out.2.2.1 _) (szset' _) (bset_all _) ?_))
                    go_meet
                    case rel => exact ⟨(0, S), b, rfl, hbl, by omega, ⟨HT3.out.set _, .inl rfl, HNX.out⟩⟩
                by_cases e92 : x = 92
                · have HNX := Aside0.mk (nx_mask (l := l.map RTd) (HX.out.trans e92))
                  clear hC e42 e36 e42b e46 e91
                  subst e92
                  by_cases hend : p.length ≤ a + 1
                  · have en : ((a : Int) + 1 == (p.length : Int)) = true := by rw [beq_iff_eq]; omega
                    have HF := Aside0.mk (show compileV p = (none, (a : Int), 110) by
                      have h := comp_fault (d := d) (f := (a : Int)) lt (by rw [HNX.out, if_pos hend]) (by omega)
                      unfold compileV
                      rw [if_neg HL.out, HN.out.2, h, if_pos (show (a : Int) ≥ 0 by omega)])
                    clear hend
                    go_wp2
                    refine bodyPost_ret (v := .tuple #[.slice none 0 0, .int .i64 a, .int .i64 110]) (by simp [results, Tryd.results53, go_sem]) rfl ?_
                    rw [HF.out]
                    exact ⟨_, [], rfl, ⟨HT.out.1, Kd.R_nil _ _ _ _ _, fun x hx => by cases hx⟩, by simp, fun pl h => by cases h⟩
                  · have en : ((a : Int) + 1 == (p.length : Int)) = false := beq_eq_false_iff_ne.mpr (by omega)
                    have l1 : a + 1 < p.length := by omega
                    have HB1 := fun {ov : Value} {l : List RT} {T : Nat} {y : RT} {wl : World} (h : TW w ov l T y wl) => h.byte1 HR.out.1 l1
                    have hu1 := HR.out.2 ((a : Int) + 1)
                    have HNX := Aside0.mk (HNX.out.trans (if_neg hend))
                    generalize rd p ((a : Int) + 1) = x1 at HB1 hu1 HNX
                    have HB2 := Aside0.mk (@HB1)
                    clear HB1
                    have hb0 := HB2.out HT.out
                    have q3 : (0 ≤ (a : Int) + 1) = True := eq_true (by omega)
                    have q4 : ((a : Int) + 1 < (p.length : Int)) = True := eq_true (by omega)
                    have t1 : ((a : Int) + 1).toNat = a + 1 := by omega
                    clear hend
                    by_cases e60 : x1 = 60
                    · have HNX := Aside0.mk (HNX.out.trans (if_pos e60))
                      subst e60
                      go_wp2_with (first
                        | (go_at_call 71; refine (rone_calls _ hu1 _).mono ?_; rintro e w2 ⟨rfl, hx⟩; have HT2 := Aside0.mk (HT.out.mv hx); clear hx)
                        | ((with_reducible refine gate_ (.store 109 (.tmp 109) (.tmp 108)) rfl ?_); refine wpList_store_mid rfl 109 (.tmp 109) (.tmp 108) rfl T 1 (bset fun j => j == (60 : Int).toNat) rfl rfl (th_there (k := 0) HT2.out.2.2.1 _) (szset' _) (bset_all _) ?_; have HT3 := Aside0.mk (HT2.out.set (fun j => j == (60 : Int).toNat)); generalize (w2.setCells T 1 (bset (fun j => j == (60 : Int).toNat)).toList) = W3 at HT3 ⊢; have hb1 := HB2.out HT3.out; have c0 : W3.cell? ⟨T, 0, none⟩ = some (.int .i64 0) := HT3.out.c0; have f0 := HT3.out.f0; have hb2 := HB2.out (HT3.out.kind 4))
                          | ((with_reducible refine gate_ (.store 3 (.tmp 118) (.const (.int .i64 4))) rfl ?_); refine wpl_st rfl 3 (.tmp 118) (.const (.int .i64 4)) rfl ⟨T, 0, none⟩ (.int .i64 4) rfl rfl (st_int c0 f0) ?_)
                          | ((with_reducible refine gate_ (.load 5 (.tmp 115)) rfl ?_); refine wpl_ld rfl 5 (.tmp 115) rfl ⟨ad.block, ad.off + (a + 1), none⟩ (.int .u8 60) rfl (ld_u8 hb1) ?_)
                          | ((with_reducible refine gate_ (.load 5 (.tmp 122)) rfl ?_); refine wpl_ld rfl 5 (.tmp 122) rfl ⟨ad.block, ad.off + (a + 1), none⟩ (.int .u8 60) rfl (ld_u8 hb2) ?_))
                      go_meet
                      case rel => exact ⟨(4, fun j => j == (60 : Int).toNat), a + 2, by congr 1, by omega, by omega, ⟨HT3.out.kind 4, by simp, HNX.out⟩⟩
                    · have e60b : (x1 == 60) = false := beq_eq_false_iff_ne.mpr e60
                      by_cases e62 : x1 = 62
                      · have HNX := Aside0.mk ((HNX.out.trans (if_neg e60)).trans (if_pos e62))
                        clear e60
                        subst e62
                        go_wp2_with (first
                          | (go_at_call 71; refine (rone_calls _ hu1 _).mono ?_; rintro e w2 ⟨rfl, hx⟩; have HT2 := Aside0.mk (HT.out.mv hx); clear hx)
                          | ((with_reducible refine gate_ (.store 109 (.tmp 109) (.tmp 108)) rfl ?_); refine wpList_store_mid rfl 109 (.tmp 109) (.tmp 108) rfl T 1 (bset fun j => j == (62 : Int).toNat) rfl rfl (th_there (k := 0) HT2.out.2.2.1 _) (szset' _) (bset_all _) ?_; have HT3 := Aside0.mk (HT2.out.set (fun j => j == (62 : Int).toNat)); generalize (w2.setCells T 1 (bset (fun j => j == (62 : Int).toNat)).toList) = W3 at HT3 ⊢; have hb1 := HB2.out HT3.out; have c0 : W3.cell? ⟨T, 0, none⟩ = some (.int .i64 0) := HT3.out.c0; have f0 := HT3.out.f0)
                          | ((with_reducible refine gate_ (.store 3 (.tmp 125) (.const (.int .i64 5))) rfl ?_); refine wpl_st rfl 3 (.tmp 125) (.const (.int .i64 5)) rfl ⟨T, 0, none⟩ (.int .i64 5) rfl rfl (st_int c0 f0) ?_)
                          | ((with_reducible refine gate_ (.load 5 (.tmp 115)) rfl ?_); refine wpl_ld rfl 5 (.tmp 115) rfl ⟨ad.block, ad.off + (a + 1), none⟩ (.int .u8 62) rfl (ld_u8 hb1) ?_)
                          | ((with_reducible refine gate_ (.load 5 (.tmp 122)) rfl ?_); refine wpl_ld rfl 5 (.tmp 122) rfl ⟨ad.block, ad.off + (a + 1), none⟩ (.int .u8 62) rfl (ld_u8 hb1) ?_))
                        go_meet
                        case rel => exact ⟨(5, fun j => j == (62 : Int).toNat), a + 2, by congr 1, by omega, by omega, ⟨HT3.out.kind 5, by simp, HNX.out⟩⟩
                      · have e62b : (x1 == 62) = false := beq_eq_false_iff_ne.mpr e62
                        have HNX := Aside0.mk ((HNX.out.trans (if_neg e60)).trans (if_neg e62))
                        clear e60 e62
                        go_wp2_with (first
                          | (go_at_call 71; refine (rone_calls _ hu1 _).mono ?_; rintro e w2 ⟨rfl, hx⟩; have HT2 := Aside0.mk (HT.out.mv hx); clear hx)
                          | ((with_reducible refine gate_ (.store 109 (.tmp 109) (.tmp 108)) rfl ?_); refine wpList_store_mid rfl 109 (.tmp 109) (.tmp 108) rfl T 1 (bset fun j => j == x1.toNat) rfl rfl (th_there (k := 0) HT2.out.2.2.1 _) (szset' _) (bset_all _) ?_; have HT3 := Aside0.mk (HT2.out.set (fun j => j == x1.toNat)); generalize (w2.setCells T 1 (bset (fun j => j == x1.toNat)).toList) = W3 at HT3 ⊢; have hb1 := HB2.out HT3.out)
                          | ((with_reducible refine gate_ (.load 5 (.tmp 115)) rfl ?_); refine wpl_ld rfl 5 (.tmp 115) rfl ⟨ad.block, ad.off + (a + 1), none⟩ (.int .u8 x1) rfl (ld_u8 hb1) ?_)
                          | ((with_reducible refine gate_ (.load 5 (.tmp 122)) rfl ?_); refine wpl_ld rfl 5 (.tmp 122) rfl ⟨ad.block, ad.off + (a + 1), none⟩ (.int .u8 x1) rfl (ld_u8 hb1) ?_))
                        go_meet
                        case rel => exact ⟨(0, fun j => j == x1.toNat), a + 2, by congr 1, by omega, by omega, ⟨HT3.out, .inl rfl, HNX.out⟩⟩
                have HNX := Aside0.mk (nx_byte (p := p) (a := a) (l := l.map RTd) (fun h => HN.out.1 h (by omega)) (by rw [HX.out]; exact e36) (by rw [HX.out]; exact e46) (by rw [HX.out]; exact e91) (by rw [HX.out]; exact e92) (by rw [HX.out]; exact e42))
                have e46b : (x == 46) = false := beq_eq_false_iff_ne.mpr e46
                have e91b : (x == 91) = false := beq_eq_false_iff_ne.mpr e91
                have e92b : (x == 92) = false := beq_eq_false_iff_ne.mpr e92
                by_cases e6 : x = 36
                · have en2 : ((a : Int) == (p.length : Int) - 1) = false := beq_eq_false_iff_ne.mpr (by have : ¬ a + 1 = p.length := fun h => e36 ⟨e6, h⟩; omega)
                  clear hC e42 e36 e46 e91 e92
                  subst e6
                  go_wp2
                  go_meet
                  case rel => exact ⟨(0, fun j => j == (36 : Int).toNat), a + 1, by congr 1, by omega, by omega, ⟨HT.out, .inl rfl, by rw [HNX.out, HX.out]; rfl⟩⟩
                · have e36b : (x == 36) = false := beq_eq_false_iff_ne.mpr e6
                  clear hC e42 e36 e46 e91 e92 e6
                  go_wp2
                  go_meet
                  case rel => exact ⟨(0, fun j => j == x.toNat), a + 1, by congr 1, by omega, by omega, ⟨HT.out, .inl rfl, by rw [HNX.out, HX.out]; rfl⟩⟩
            case rest => as_aux_lemma =>
              obtain ⟨y, a', rfl, ha'1, ha'2, HY⟩ := hcut
              clear HT HX hbyte hxr HSB
              have hTl := blk_lt HY.out.1.2.2.1
              have hbs := HY.out.1.1.size
              have HC := Aside0.mk (comp_step (d := d) lt HY.out.2.2)
              go_wp2_with (first
                | ((with_reducible refine gate_ (.load 111 (.tmp 10)) rfl ?_); refine wpList_load_row rfl 111 (.tmp 10) rfl T rfl _ (tcells y) _ _ HY.out.1.2.2.1 Tryd.underlying111 rfl (szth' _) ?_)
                | ((with_reducible refine gate_ (.buildSlice 87 1 #[(0, .tmp 127)]) rfl ?_); refine wpl_thing rfl (.tmp 127) rfl y rfl ?_)
                | (at_builtin; refine Kd.R_append kR (w0 := w) w.heap.size rfl (.tmp 126) (.tmp 128) 87 111 (.agg (tcells (0, fun _ => false))) 264 rfl Tryd.underlying87 infoR (by rfl) (by decide) (by omega) u5 l y (tcl y) (fun k => k ≠ T) (fun _ => False) rfl rfl (kR_M _ _ _ _) (fun _ hk => hk.elim) (fun k hk => by omega) HY.out.1.2.1 HY.out.1.1 hbs (by omega) ?_; intro v1 w3 hR1 hB1 hG1 hat; have BT := blk_grown HY.out.1.2.2.1 hG1 (fun e => HY.out.1.2.1.1 T e.symm rfl); have c0 : w3.cell? ⟨T, 0, none⟩ = some (.int .i64 y.1) := (blk_cell BT 0).trans rfl; have HG := Aside0.mk (And.intro hB1 hR1); clear hR1 hB1 hG1 hat BT)
                | ((with_reducible refine gate_ (.load 3 (.tmp 130)) rfl ?_); refine wpl_ld rfl 3 (.tmp 130) rfl ⟨T, 0, none⟩ (.int .i64 y.1) rfl (ld_int c0) ?_))
              go_roundg d
              case measure => omega
              case rel =>
                have hs := starB_snoc (l.map RTd) y HY.out.2.1
                refine ⟨a', l ++ [y], rfl, ?_, ?_, ha'1, by simp; omega, by omega, ⟨⟨HG.out.1, Kd.R_mono HG.out.2 (fun _ _ => trivial), fun x hx => ?_⟩, fun h => by omega, ?_⟩⟩
                · rw [List.map_append, List.map_singleton, hs.1]
                · rw [List.map_append, List.map_singleton, hs.2]
                · rcases List.mem_append.1 hx with hx | hx
                  · exact HY.out.1.2.2.2.2 x hx
                  · rw [List.mem_singleton.1 hx]
                    have := HY.out.2.1
                    omega
                · rw [HN.out.2, HC.out, List.map_append, List.map_singleton]
          · have q0 : decide ((a : Int) < (p.length : Int)) = false := decide_eq_false (by omega)
            have HE := Aside0.mk (show compileV p = (some (l.map RTd), 0, 0) by unfold compileV; rw [if_neg HL.out, HA.out.2.2, compL_end lt]; exact if_neg (show ¬ ((-1 : Int) ≥ 0) by decide))
            go_wp2
            refine bodyPost_ret (v := .tuple #[u5, .int .i64 0, .int .i64 0]) (by simp [results, Tryd.results53, go_sem]) rfl ?_
            rw [HE.out]
            exact ⟨_, l, rfl, HA.out.1, by omega, fun pl h => by injection h⟩
end Go.Proofs.YtdhdngoeaneanaaDoor.PT
