/-
  Texts of one proof in one file (wip/some.py): PT15, RT11.
  Conditions: none.
-/
import Derived.Test.YtlbijhlbllolhaaPT14
import Derived.Test.YtlbijhlbllolhaaRT10
section
namespace Go.Proofs.Ytlbijhlbllolhaa.PT
open Go.RowKit Go.Proofs.YtlbijhlbllolhaaW.PrintWords Go.Proofs.YtlbijhlbllolhaaW.PrintMore
set_option linter.unusedVariables false
theorem take_same {xs ys : List (Int × Int)} {i : Nat} (h : xs.take i = ys.take i) (hl : xs.length = ys.length) (hi : i < xs.length) (he : xs.getD i (0, 0) = ys.getD i (0, 0)) : xs.take (i + 1) = ys.take (i + 1) := by
  rw [List.take_add_one, List.take_add_one, h]
  rw [List.getD_eq_getElem?_getD, List.getD_eq_getElem?_getD, List.getElem?_eq_getElem hi, List.getElem?_eq_getElem (show i < ys.length by omega)] at he
  simp only [Option.getD_some] at he
  rw [List.getElem?_eq_getElem hi, List.getElem?_eq_getElem (show i < ys.length by omega), he]
set_option maxHeartbeats 2000000 in
set_option maxRecDepth 100000 in
theorem same_calls {w : World} {A B : Option Addr} {c c' : Nat} {xs ys : List (Int × Int)} (h1 : kP.C w A xs.length xs) (h2 : kP.C w B ys.length ys) (b1 : xs.length ≤ 1048600) (b2 : ys.length ≤ 1048600) :
    Calls Try.prog 15 #[.slice A xs.length c, .slice B ys.length c'] w fun e w' => e = .returned (.bool (decide (xs = ys))) ∧ Below w.heap.size w w' := by
  by_cases hl : xs.length = ys.length
  · have HR := Aside0.mk (And.intro h1 h2)
    have hd0 : ((xs.length : Int) == (ys.length : Int)) = true := by simp [hl]
    clear h1 h2
    go_enter Try.func15, Try.ntmps15
    go_wp2
    go_loopw [5] (fun v wl => ∃ i : Nat, i ≤ xs.length ∧ v = .int .i64 i ∧ Aside0 (Below w.heap.size w wl ∧ xs.take i = ys.take i)) (fun v _ => xs.length - (intOf v).toNat)
    case atStart => exact ⟨0, by omega, rfl, ⟨Below.refl _ _, by simp⟩⟩
    case round =>
      obtain ⟨i, hi, rfl, HI⟩ := hrel
      by_cases lt : i < xs.length
      · have hd1 : decide ((i : Int) < (xs.length : Int)) = true := decide_eq_true (by omega)
        obtain ⟨ad, rfl, ca, cb⟩ := kP_at (Kd.C_below HR.out.1 HI.out.1) lt
        obtain ⟨be, rfl, cc, cd⟩ := kP_at (Kd.C_below HR.out.2 HI.out.1) (show i < ys.length by omega)
        have HT := Aside0.mk (fun he => take_same HI.out.2 hl lt he)
        have HN := Aside0.mk (show xs.getD i (0, 0) ≠ ys.getD i (0, 0) → xs ≠ ys from fun h e => h (by rw [e]))
        generalize xs.getD i (0, 0) = x at ca cb HT HN
        generalize ys.getD i (0, 0) = y at cc cd HT HN
        obtain ⟨x1, x2⟩ := x
        obtain ⟨y1, y2⟩ := y
        simp only at ca cb cc cd
        have q1 : (0 ≤ (i : Int)) = True := eq_true (by omega)
        have q2 : ((i : Int) < (xs.length : Int)) = True := eq_true (by omega)
        have q3 : ((i : Int) < (ys.length : Int)) = True := eq_true (by omega)
        have qe := eq2
        have HLn := Aside0.mk hl
        clear hl
        by_cases hab : x1 = y1 ∧ x2 = y2
        · obtain ⟨rfl, rfl⟩ := hab
          have d1 : (x1 == x1) = true := by simp
          have d2 : (x2 == x2) = true := by simp
          go_wp2
          go_region
          go_wp2
          go_roundw
          case rel => exact ⟨i + 1, by omega, by congr 1, ⟨below_drew HI.out.1, HT.out trivial⟩⟩
          case measure => simp [intOf]; omega
        · have d1 : ((x1 == y1) && (x2 == y2)) = false := by
            simp only [Bool.and_eq_false_iff, beq_eq_false_iff_ne]
            by_cases h : x1 = y1
            · exact .inr (fun e => hab ⟨h, e⟩)
            · exact .inl h
          have HZ := Aside0.mk (HN.out (fun e => hab (by injection e with e1 e2; exact ⟨e1, e2⟩)))
          clear hab
          go_wp2
          go_region
          go_wp2
          refine bodyPost_ret (v := .bool false) (by simp [results, Try.results15, go_sem]) rfl ⟨?_, below_drew HI.out.1⟩
          rw [decide_eq_false HZ.out]
      · have hd1 : decide ((i : Int) < (xs.length : Int)) = false := decide_eq_false (by omega)
        have HZ := Aside0.mk (show xs = ys by
          have h := HI.out.2
          rwa [List.take_of_length_le (by omega), List.take_of_length_le (by omega)] at h)
        go_wp2
        refine bodyPost_ret (v := .bool true) (by simp [results, Try.results15, go_sem]) rfl ⟨?_, HI.out.1⟩
        rw [decide_eq_true HZ.out]
  · have hd0 : ((xs.length : Int) == (ys.length : Int)) = false := beq_eq_false_iff_ne.mpr (by omega)
    have hne : xs ≠ ys := fun h => hl (by rw [h])
    go_enter Try.func15, Try.ntmps15
    go_wp2
    refine bodyPost_ret (v := .bool false) (by simp [results, Try.results15, go_sem]) rfl ⟨?_, Below.refl _ _⟩
    rw [decide_eq_false hne]
end Go.Proofs.Ytlbijhlbllolhaa.PT
end
section
namespace Go.Proofs.Ytlbijhlbllolhaa.PT
open Go.RowKit Go.Proofs.YtlbijhlbllolhaaW.PrintWords Go.Proofs.YtlbijhlbllolhaaW.PrintMore
set_option linter.unusedVariables false
/-- What the reference's All comes to. -/
def rallV (p line : List Int) : List (Int × Int) := match (compileV p).1 with
  | some pl => allV line pl
  | none => []
theorem TH.over {w wl w1 : World} {ov v : Value} {l : List RT} {xs : List (Int × Int)} {b0 : Nat} {ok : Nat → Prop} (h : TH w ov l wl) (hR : kP.R 41 wl b0 ok v xs) (hg : wl.grownBy w1 v.ownBlock) (hb : Below w.heap.size w w1) : TH w ov l w1 :=
  ⟨hb, Kd.R_over' h.2.1 (Kd.R_typed hR) (by decide) hg, h.2.2⟩
set_option maxHeartbeats 4000000 in
set_option maxRecDepth 100000 in
theorem rAll_calls {w : World} {A0 : Option Addr} {c0 : Nat} {p : List Int} {A : Option Addr} {c : Nat} {line : List Int} (hr0 : Kd.C (Kd.int .u8) w A0 p.length p) (hu0 : ∀ i, 0 ≤ rd p i ∧ rd p i ≤ 255)
    (hr : Kd.C (Kd.int .u8) w A line.length line) (hc : line.length ≤ c) (hn : line.length ≤ 1048576) (hu : ∀ i, 0 ≤ rd line i ∧ rd line i ≤ 255) :
    Calls Try.prog 14 #[.slice A0 p.length c0, .slice A line.length c] w fun e w' => ∃ v, e = .returned v ∧ Below w.heap.size w w' ∧ kP.R 41 w' w.heap.size (fun _ => True) v (rallV p line) := by
  have HT := Aside0.mk (rthings_calls (c := c0) hr0 hu0)
  have HS : ∀ (w' : World) (A1 : Option Addr) (c1 : Nat) (l : List RT) (pl : List PTh) (f : Int), TH w (.slice A1 l.length c1) l w' → l.length ≤ 257 → l.map RTd = pl → Aside0 (Calls Try.prog 20 #[.slice A1 l.length c1, .slice A line.length c, .int .i64 f] w' fun e w'' => e = .returned (.tuple #[.int .i64 (findV line pl f).1, .int .i64 (findV line pl f).2.1, .bool (findV line pl f).2.2]) ∧ Below w'.heap.size w' w'') := by
    intro w' A1 c1 l pl f h hl hpl
    have h1 := rsearch_calls (c1 := c1) (f := f) (Kd.R_reads' h.2.1).2.2 h.2.2 (by omega) (Kd.C_below hr h.1) hc hn hu
    rw [hpl, search_find] at h1
    exact ⟨h1⟩
  clear hr0 hu0 hr hu
  rcases compileV_or p with ⟨pl, hcv⟩ | ⟨a, e, hcv, he⟩
  · have HV := Aside0.mk (show rallV p line = [] ++ allE (endsV line pl) (line.length + 2) ((0 : Nat) : Int) by unfold rallV; rw [hcv]; rfl)
    rw [hcv] at HT
    clear hcv
    generalize rallV p line = out at HV ⊢
    go_enter Try.func14, Try.ntmps14
    go_wp2_with (go_at_call 17; refine HT.out.mono ?_; rintro e w' ⟨v, l, rfl, hx, hl, hpl⟩; obtain ⟨A1, c1, rfl⟩ := Kd.R_slice hx.2.1; have H1 := Aside0.mk (And.intro hx (And.intro hl (hpl pl rfl))); clear hx hl hpl)
    clear HT
    go_loopw [8, 9] (fun v8 v9 wl => ∃ (k d : Nat) (acc : List (Int × Int)), k ≤ line.length + 1 ∧ line.length + 1 < k + d ∧ v9 = .int .i64 k ∧ acc.length ≤ k ∧ Aside0 (TH w (.slice A1 l.length c1) l wl ∧ kP.R 41 wl w.heap.size (fun _ => True) v8 acc ∧ out = acc ++ allE (endsV line pl) d (k : Int))) (fun _ v9 _ => line.length + 1 - (intOf v9).toNat)
    case atStart => exact ⟨0, line.length + 2, [], by omega, by omega, rfl, by simp, ⟨H1.out.1, Kd.R_nil _ _ _ _ _, HV.out⟩⟩
    case round =>
      obtain ⟨k, d, acc, hk, hd, rfl, hal, HL⟩ := hrel
      clear HV
      obtain ⟨d, rfl⟩ : ∃ d', d = d' + 1 := ⟨d - 1, by omega⟩
      have HST := all_step (line := line) (pl := pl) (d := d) hk
      by_cases lt : k ≤ line.length
      · have q0 : decide (k ≤ line.length) = true := decide_eq_true lt
        have HQ := HS wr A1 c1 l pl k HL.out.1 H1.out.2.1 H1.out.2.2
        rcases HST with ⟨e1, e2⟩ | ⟨a, b, e1, e2, h1, h2, h3⟩
        · have HO := Aside0.mk (show out = acc by rw [HL.out.2.2, e1, List.append_nil])
          rw [e2] at HQ
          clear e1 e2 lt
          go_wp2_with (go_at_call 20; (with_reducible refine HQ.out.mono ?_); rintro e w5 ⟨rfl, hx⟩; have H5 := Aside0.mk hx; clear hx)
          refine bodyPost_ret (v := u8) (by simp [results, Try.results14, go_sem]) rfl ⟨u8, rfl, below_step HL.out.1.1 H5.out, ?_⟩
          rw [HO.out]
          exact Kd.R_below HL.out.2.1 H5.out
        · have HO := Aside0.mk (show out = acc ++ [((a : Int), (b : Int))] ++ allE (endsV line pl) d ((max b (a + 1) : Nat) : Int) by rw [HL.out.2.2, e1]; simp)
          rw [e2] at HQ
          clear e1 e2 lt
          have hab : (((a : Int) == (b : Int)) = true ∧ Aside0 (a = b)) ∨ (((a : Int) == (b : Int)) = false ∧ Aside0 (a ≠ b)) := by
            by_cases e : a = b
            · exact .inl ⟨by simp [e], ⟨e⟩⟩
            · exact .inr ⟨beq_eq_false_iff_ne.mpr (by omega), ⟨e⟩⟩
          rcases hab with ⟨hab, HAB⟩ | ⟨hab, HAB⟩
          all_goals
            go_wp2_with (first
              | (go_at_call 20; (with_reducible refine HQ.out.mono ?_); rintro e w5 ⟨rfl, hx⟩; have H5 := Aside0.mk (And.intro (HL.out.1.mv hx) (Kd.R_below HL.out.2.1 hx)); clear hx)
              | (at_builtin; refine Kd.R_append kP (w0 := w) w.heap.size rfl (.tmp 37) (.tmp 41) 37 41 (.agg #[.int .i64 0, .int .i64 0]) 16 rfl Try.underlying37 infoP rfl (by decide) (by omega) u8 acc _ [.int .i64 _, .int .i64 _] (fun _ => True) (fun _ => False) rfl rfl (kP_M _ _ _ _ _) (fun _ hk => hk.elim) (fun _ _ => trivial) H5.out.2 H5.out.1.1 H5.out.1.1.size (by omega) ?_; intro v6 w6 hR hB hG hat; have H6 := Aside0.mk (And.intro (H5.out.1.over H5.out.2 hG hB) hR); clear hR hB hG hat))
            go_roundw
            case rel => exact ⟨max b (a + 1), d, _, by omega, by omega, by have := HAB.out; congr 1; omega, by simp only [List.length_append, List.length_singleton]; omega, ⟨H6.out.1, H6.out.2, HO.out⟩⟩
            case measure => have := HAB.out; simp [intOf]; omega
      · have q0 : decide (k ≤ line.length) = false := decide_eq_false lt
        have HO := Aside0.mk (show out = acc by
          rcases HST with ⟨e1, e2⟩ | ⟨a, b, e1, e2, h1, h2, h3⟩
          · rw [HL.out.2.2, e1, List.append_nil]
          · omega)
        clear HST lt
        go_wp2
        refine bodyPost_ret (v := u8) (by simp [results, Try.results14, go_sem]) rfl ⟨u8, rfl, HL.out.1.1, ?_⟩
        rw [HO.out]
        exact HL.out.2.1
  · have HV := Aside0.mk (show rallV p line = [] by unfold rallV; rw [hcv])
    rw [hcv] at HT
    clear hcv HS
    rcases he with rfl | rfl
    all_goals
      go_enter Try.func14, Try.ntmps14
      go_wp2_with (go_at_call 17; refine HT.out.mono ?_; rintro e w' ⟨v, l, rfl, hx, _, _⟩; have H1 := Aside0.mk hx.1; clear hx)
      go_loopw [8, 9] (fun v8 v9 wl => v8 = .slice none 0 0 ∧ v9 = .int .i64 0 ∧ Aside0 (Below w.heap.size w wl)) (fun _ _ _ => 0)
      case atStart => exact ⟨rfl, rfl, H1⟩
      case round =>
        obtain ⟨rfl, rfl, HL⟩ := hrel
        go_wp2
        refine bodyPost_ret (v := .slice none 0 0) (by simp [results, Try.results14, go_sem]) rfl ⟨_, rfl, HL.out, ?_⟩
        rw [HV.out]
        exact Kd.R_nil _ _ _ _ _
end Go.Proofs.Ytlbijhlbllolhaa.PT
end
