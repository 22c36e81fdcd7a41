/-
  Texts of one proof in one file (wip/some.py): X36, X37, X41, X45, X46, RT6, RT7, RT8, RT9, RT10, HQ0, HT6, HT7, XS, WalkHuntNexts.
  Conditions: none.
-/
import Derived.Test.YtffpkldphkmjmaaDoorX0
import Derived.Test.YtffpkldphkmjmaaDoorX40
import Derived.Test.YtffpkldphkmjmaaDoorRTM
import Derived.Deep.RegionLaw
import Derived.Test.YtffpkldphkmjmaaDoorXO
section
-- Written by wip/xprint.py over the kit's print.py: the Lean function of each Go function, and the proof that the Go text comes to it.
namespace Go.Proofs.YtffpkldphkmjmaaDoor.X
open Go.RowKit Go.Proofs.YtffpkldphkmjmaaDoorW.PrintWords Go.Proofs.YtffpkldphkmjmaaDoorW.PrintLast Go.Proofs.YtffpkldphkmjmaaDoorW.PrintMore
attribute [local go_sem] max2_int min2_int max_two min_two max_three min_three max_four min_four   -- for this text's walks alone
set_option linter.unusedVariables false
set_option linter.unusedSimpArgs false

/-! ### quoinref05_Split: function 40 -/
def quoinref05_Split.l0 : Nat → List Int → List (List Int) → Int → Int → Option ((List (List Int)))
  | 0, _, _, _, _ => none
  | k + 1, x0, x3, x4, x5 => if x5 ≤ (x0.length : Int) then (if x5 = (x0.length : Int) then ((some (([] : List Int) : List Int)).bind fun y110 => (if 0 ≤ x4 then (if x4 ≤ x5 then (if y110.length + ((x0.take (x5 : Int).toNat).drop (x4 : Int).toNat).length < 140737488355328 then (if x3.length < 5864062014805 then (quoinref05_Split.l0 k x0 (x3 ++ [(y110 ++ ((x0.take (x5 : Int).toNat).drop (x4 : Int).toNat))]) (wrap64 (x5 + 1)) (wrap64 (x5 + 1))) else (none)) else (none)) else (none)) else (none))) else (if 0 ≤ x5 then (if x5 < (x0.length : Int) then (if (rd x0 x5) = 10 then ((some (([] : List Int) : List Int)).bind fun y121 => (if 0 ≤ x4 then (if x4 ≤ x5 then (if y121.length + ((x0.take (x5 : Int).toNat).drop (x4 : Int).toNat).length < 140737488355328 then (if x3.length < 5864062014805 then (quoinref05_Split.l0 k x0 (x3 ++ [(y121 ++ ((x0.take (x5 : Int).toNat).drop (x4 : Int).toNat))]) (wrap64 (x5 + 1)) (wrap64 (x5 + 1))) else (none)) else (none)) else (none)) else (none))) else (quoinref05_Split.l0 k x0 x3 x4 (wrap64 (x5 + 1)))) else (none)) else (none))) else (some x3)
def quoinref05_Split.f (k : Nat) (l0 : List Int) : Option ((List (List Int))) := quoinref05_Split.l0 k l0 ([] : List (List Int)) 0 0
theorem quoinref05_Split.mono_l : ∀ k, (∀ y0 y1 y2 y3, LeO (quoinref05_Split.l0 k y0 y1 y2 y3) (quoinref05_Split.l0 (k + 1) y0 y1 y2 y3))
  | 0 => fun _ _ _ _ r h => by simp [quoinref05_Split.l0] at h
  | k + 1 => by
    have ih0 := quoinref05_Split.mono_l k
    · intro y0 y1 y2 y3
      unfold quoinref05_Split.l0
      repeat' first
      | (with_reducible exact ih0 _ _ _ _)
      | (with_reducible exact LeO.refl _)
      | (with_reducible exact LeO.none _)
      | (with_reducible refine LeO.ite ?_ ?_)
      | (with_reducible refine LeO.bind ?_ (fun _ => ?_))
      | exact ih0 _ _ _ _
      | exact LeO.none _
      | refine LeO.ite ?_ ?_
      | refine LeO.bind ?_ (fun _ => ?_)
theorem quoinref05_Split.mono : ∀ a0 k, LeO (quoinref05_Split.f k a0) (quoinref05_Split.f (k + 1) a0) := by
  intro a0 k
  have ih0 := quoinref05_Split.mono_l k
  unfold quoinref05_Split.f
  repeat' first
      | (with_reducible exact ih0 _ _ _ _)
      | (with_reducible exact LeO.refl _)
      | (with_reducible exact LeO.none _)
      | (with_reducible refine LeO.ite ?_ ?_)
      | (with_reducible refine LeO.bind ?_ (fun _ => ?_))
      | exact ih0 _ _ _ _
      | exact LeO.none _
      | refine LeO.ite ?_ ?_
      | refine LeO.bind ?_ (fun _ => ?_)
set_option maxHeartbeats 8000000 in
set_option maxRecDepth 100000 in
theorem quoinref05_Split.calls (k : Nat) (A0 : Option Addr) (c0 : Nat) (l0 : List Int) (r : List (List Int)) (w : World) (hr0 : Kd.C (Kd.int .u8) w A0 l0.length l0) (hc0 : l0.length ≤ c0) (h : quoinref05_Split.f k l0 = some r) :
    Calls Tryd.prog 40 #[.slice A0 l0.length c0] w fun e w' => ∃ v0_ : Value, e = .returned (v0_) ∧ Kd.S (Kd.slice 5 (Kd.int .u8)) 22 w' w.heap.size (fun _ => True) v0_ r ∧ Below w.heap.size w w' := by
  have HR0 := Aside0.mk hr0
  have HC0 := Aside0.mk hc0
  clear hr0 hc0
  have HB := Aside0.mk (Below.refl w.heap.size w)
  have H : (quoinref05_Split.l0 k l0 ([] : List (List Int)) 0 0) = some r := h
  clear h
  have H' := Aside0.mk H
  clear H
  go_enter Tryd.func40, Tryd.ntmps40
  go_wp2
  go_loopg [3, 4, 5] k (fun kq v3 v4 v5 w' => ∃ (x3_1 : List (List Int)) (x4_1 : Int) (x5_1 : Int), v4 = .int .i64 x4_1 ∧ v5 = .int .i64 x5_1 ∧ Aside0 (quoinref05_Split.l0 kq l0 x3_1 x4_1 x5_1 = some r) ∧ Aside0 (kq ≤ k) ∧ Aside0 (Kd.S (Kd.slice 5 (Kd.int .u8)) 22 w' w.heap.size (fun _ => True) v3 x3_1) ∧ Aside0 (Below w.heap.size w w'))
  case atStart => exact ⟨(([] : List (List Int))), (0), (0), (by first | rfl | (simp; done) | (simp [*]; done)), (by first | rfl | (simp; done) | (simp [*]; done)), H', ⟨Nat.le_refl _⟩, ⟨by first | exact Kd.S_nil _ _ _ _ _ | exact Kd.N_nil _ _ _ _ _ | exact Kd.V_nil _ _ _ _ _ | exact Kd.Q_nil _ _ _ _ _ | exact Kd.R_nil _ _ _ _ _⟩, ⟨by repeat (first | (with_reducible first | exact HB.out | apply below_alloc | apply pw_below_drewN | apply below_drew1) | exact HB.out)⟩⟩
  case round =>
    clear H'
    obtain ⟨x3_1, x4_1, x5_1, rfl, rfl, HA, HK1, HO_3, HB⟩ := hrel
    cases gk with
    | zero => exact absurd HA.out (by simp [quoinref05_Split.l0])
    | succ k1 =>
      have H := HA.out
      clear HA
      simp only [quoinref05_Split.l0] at H
      by_cases c2 : x5_1 ≤ (l0.length : Int)
      · rw [if_pos c2] at H
        have c2b0 : decide (x5_1 ≤ (l0.length : Int)) = true := decide_eq_true c2
        clear c2
        by_cases c3 : x5_1 = (l0.length : Int)
        · rw [if_pos c3] at H
          have c3b0 : (x5_1 == (l0.length : Int)) = true := beq_iff_eq.mpr c3
          have c3b1 : (x5_1 != (l0.length : Int)) = false := bne_eq_false_iff_eq.mpr c3
          clear c3
          obtain ⟨y110, hy110⟩ : ∃ y_ : List Int, y_ = (([] : List Int)) := ⟨_, rfl⟩
          replace H : (if 0 ≤ x4_1 then (if x4_1 ≤ x5_1 then (if y110.length + ((l0.take (x5_1 : Int).toNat).drop (x4_1 : Int).toNat).length < 140737488355328 then (if x3_1.length < 5864062014805 then (quoinref05_Split.l0 k1 l0 (x3_1 ++ [(y110 ++ ((l0.take (x5_1 : Int).toNat).drop (x4_1 : Int).toNat))]) (wrap64 (x5_1 + 1)) (wrap64 (x5_1 + 1))) else (none)) else (none)) else (none)) else (none)) = some r := by first | (rw [hy110]; with_reducible exact H) | (have H2_ := (Option.bind_some _ _).symm.trans H; rw [hy110]; with_reducible exact H2_) | (have H2_ := (Option.bind_some _ _).symm.trans H; with_reducible exact H2_) | with_reducible exact H | (rw [hy110]; exact H) | exact H
          have Ny110 := Aside0.mk hy110
          clear hy110
          by_cases c4 : 0 ≤ x4_1
          · rw [if_pos c4] at H
            have c4b0 := eq_true c4
            have c4b1 : decide (0 ≤ x4_1) = true := decide_eq_true c4
            clear c4
            by_cases c5 : x4_1 ≤ x5_1
            · rw [if_pos c5] at H
              have c5b0 := eq_true c5
              have c5b1 : decide (x4_1 ≤ x5_1) = true := decide_eq_true c5
              clear c5
              have c6b0 := eq_true (of_decide_eq_true (by first | (with_reducible assumption) | assumption) : x5_1 ≤ (l0.length : Int))
              by_cases c7 : y110.length + ((l0.take (x5_1 : Int).toNat).drop (x4_1 : Int).toNat).length < 140737488355328
              · rw [if_pos c7] at H
                have LMc7 := Aside0.mk c7
                clear c7
                obtain ⟨y114, hy114⟩ : ∃ y_ : List Int, y_ = (y110 ++ ((l0.take (x5_1 : Int).toNat).drop (x4_1 : Int).toNat)) := ⟨_, rfl⟩
                replace H : (if x3_1.length < 5864062014805 then (quoinref05_Split.l0 k1 l0 (x3_1 ++ [y114]) (wrap64 (x5_1 + 1)) (wrap64 (x5_1 + 1))) else (none)) = some r := by first | (rw [hy114]; with_reducible exact H) | (have H2_ := (Option.bind_some _ _).symm.trans H; rw [hy114]; with_reducible exact H2_) | (have H2_ := (Option.bind_some _ _).symm.trans H; with_reducible exact H2_) | with_reducible exact H | (rw [hy114]; exact H) | exact H
                have Ny114 := Aside0.mk hy114
                clear hy114
                by_cases c8 : x3_1.length < 5864062014805
                · rw [if_pos c8] at H
                  have LMc8 := Aside0.mk c8
                  clear c8
                  obtain ⟨y117, hy117⟩ : ∃ y_ : List (List Int), y_ = (x3_1 ++ [y114]) := ⟨_, rfl⟩
                  replace H : (quoinref05_Split.l0 k1 l0 y117 (wrap64 (x5_1 + 1)) (wrap64 (x5_1 + 1))) = some r := by first | (rw [hy117]; with_reducible exact H) | (have H2_ := (Option.bind_some _ _).symm.trans H; rw [hy117]; with_reducible exact H2_) | (have H2_ := (Option.bind_some _ _).symm.trans H; with_reducible exact H2_) | with_reducible exact H | (rw [hy117]; exact H) | exact H
                  have Ny117 := Aside0.mk hy117
                  clear hy117
                  have H' := Aside0.mk H
                  clear H
                  go_wp2_with (first | ((with_reducible refine gate_dst (N := 24) rfl ?_); refine Kd.R_lit (Kd.int .u8) _ 5 ?hg (N := 24) ?hd (xs := ([] : List Int)) (inner := []) (ok := fun _ => True) (okp := fun _ => True) ?hr ?hp (fun _ hk => hk) trivial (Below.refl _ _) (Nat.le_refl _) (by simp) ?_; (case hd => rfl); (case hg => rfl); (case hr => first | (go_simp; done) | (go_simp; rfl)); (case hp => exact (Reps.none _ _)); intro v111 w9 ho10 hb hg_ hnew_; clear hg_ hnew_; (first | rw [← Ny110.out] at ho10 | (simp only [Int.reduceToNat] at ho10; rw [← Ny110.out] at ho10)); have n0_ := Aside0.mk (Kd.S_elder' (by (with_reducible repeat (first | apply Kd.S_alloc | apply Kd.S_drewN | apply Kd.S_drew)); exact HO_3.out) (Kd.R_base ho10) hb); have n1_ := Aside0.mk (Kd.R_lower ho10 (below_size (by repeat (first | (with_reducible first | exact HB.out | apply below_alloc | apply pw_below_drewN | apply below_drew1) | exact HB.out)))); have n2_ := Aside0.mk (below_step (by repeat (first | (with_reducible first | exact HB.out | apply below_alloc | apply pw_below_drewN | apply below_drew1) | exact HB.out)) hb); clear HO_3; clear HB; have HO_3 := n0_; have HO112 := n1_; have HB := n2_; clear n0_ n1_ n2_; clear hb ho10; obtain ⟨i011, hi011, _, hsz11, _⟩ := info_parts info5; obtain ⟨A11, hcut11, hA11, hC11⟩ := print_mid_of (P := Tryd.prog) (Value.int .u8) 0 22 5 .i64 .i64 Tryd.underlying22 hi011 hsz11 A0 c0 l0 x4_1 x5_1 (of_decide_eq_true (by first | (with_reducible assumption) | assumption)) (by first | omega | exact of_decide_eq_true (by first | (with_reducible assumption) | assumption)) (of_decide_eq_true (by first | (with_reducible assumption) | assumption)) HC0.out; have HR113 := Aside0.mk (Kd.C_of_reads (h1 := fun _ => rfl) (hA11 _ (Kd.reads_of_C HR0.out))); have HC113 := Aside0.mk hC11; clear hA11 hC11 hi011 hsz11) | ((with_reducible refine gate_builtin (b := .append) (xs := #[.tmp 24, .tmp 28]) rfl ?_); at_builtin; refine Kd.R_append_rows (Kd.int .u8) (w0 := w) w.heap.size rfl (.tmp 24) (.tmp 28) 22 5 (.int .u8 0) 1 rfl Tryd.underlying22 info5 rfl (by decide) (by omega) v111 y110 ((l0.take (x5_1 : Int).toNat).drop (x4_1 : Int).toNat) _ _ _ (fun _ => True) (fun _ => False) rfl rfl ?aO ?aR (fun _ _ h => h) (fun _ h => h.elim) ?aF ?aB ?aS ?aL ?_; (case aR => first | (rw [← show ((l0.take (x5_1 : Int).toNat).drop (x4_1 : Int).toNat).length = (x5_1.toNat - x4_1.toNat) from (by rw [List.length_drop, List.length_take]; have h_ : (x5_1 : Int) ≤ (l0.length : Int) := of_decide_eq_true (by first | (with_reducible assumption) | assumption); omega)]; repeat (first | exact (Kd.C_below HR113.out HB.out) | (with_reducible refine Kd.C_alloc ?_ _) | (with_reducible refine Kd.C_drewN ?_ _) | (with_reducible refine Kd.C_drew ?_))) | (repeat (first | exact (Kd.C_below HR113.out HB.out) | (with_reducible refine Kd.C_alloc ?_ _) | (with_reducible refine Kd.C_drewN ?_ _) | (with_reducible refine Kd.C_drew ?_)))); (case aB => exact (by repeat (first | (with_reducible first | exact HB.out | apply below_alloc | apply pw_below_drewN | apply below_drew1) | exact HB.out))); (case aF => exact (fun _ _ => trivial)); (case aO => exact (by (with_reducible repeat (first | apply Kd.R_alloc | apply Kd.R_drewN | apply Kd.R_drew)); exact HO112.out)); (case aS => exact (below_size (by repeat (first | (with_reducible first | exact HB.out | apply below_alloc | apply pw_below_drewN | apply below_drew1) | exact HB.out)))); (case aL => have := LMc7.out; have hlx_ := (show ((l0.take (x5_1 : Int).toNat).drop (x4_1 : Int).toNat).length = (x5_1.toNat - x4_1.toNat) from (by rw [List.length_drop, List.length_take]; have h_ : (x5_1 : Int) ≤ (l0.length : Int) := of_decide_eq_true (by first | (with_reducible assumption) | assumption); omega)); omega); intro v115 w12 ho hb hg hat; rw [← Ny114.out] at ho; have n0_ := Aside0.mk (Kd.S_after (ok := (fun _ => True)) (by (with_reducible repeat (first | apply Kd.S_alloc | apply Kd.S_drewN | apply Kd.S_drew)); exact HO_3.out) hg hat); have n1_ := Aside0.mk (hb); have n2_ := Aside0.mk (ho); clear HO_3; clear HB; clear HO112; have HO_3 := n0_; have HB := n1_; have HO116 := n2_; clear n0_ n1_ n2_; clear ho hb hg hat; obtain ⟨Ao14, co14, eo14⟩ := Kd.R_slice HO116.out; subst eo14) | ((with_reducible refine gate_builtin (b := .append) (xs := #[.tmp 30, .tmp 32]) rfl ?_); at_builtin; refine Kd.S_append (Kd.slice 5 (Kd.int .u8)) (w0 := w) w.heap.size rfl (.tmp 30) (.tmp 32) 45 22 (.slice none 0 0) 24 rfl Tryd.underlying45 info22 rfl (by decide) (by omega) u3 x3_1 y114 [.slice Ao14 y114.length co14] (fun _ => True) (fun k_ => some k_ = (.slice Ao14 y114.length co14 : Value).ownBlock) rfl rfl ?aP (fun k_ hk_ => ((Kd.R_mono (ok' := fun k_ => ((fun _ => True)) k_ ∧ some k_ ≠ (u3 : Value).ownBlock) (Kd.R_apart' (HO116.out) (Kd.S_typed HO_3.out) (by decide)) (fun k_ hk => ⟨trivial, hk.2⟩))).1 k_ hk_.symm) ?aF ?aO ?aB ?aS ?aL ?_; (case aP => exact Kd.M_row (Kd.R_mono (Kd.R_tight rfl (Kd.R_mono (ok' := fun k_ => ((fun _ => True)) k_ ∧ some k_ ≠ (u3 : Value).ownBlock) (Kd.R_apart' (HO116.out) (Kd.S_typed HO_3.out) (by decide)) (fun k_ hk => ⟨trivial, hk.2⟩))) (fun _ h_ => h_))); (case aB => exact (by repeat (first | (with_reducible first | exact HB.out | apply below_alloc | apply pw_below_drewN | apply below_drew1) | exact HB.out))); (case aF => exact (fun _ _ => trivial)); (case aO => exact (by (with_reducible repeat (first | apply Kd.S_alloc | apply Kd.S_drewN | apply Kd.S_drew)); exact Kd.S_mono HO_3.out (fun k_ hk => ⟨trivial, fun e_ => hk.2 e_⟩))); (case aS => exact (below_size (by repeat (first | (with_reducible first | exact HB.out | apply below_alloc | apply pw_below_drewN | apply below_drew1) | exact HB.out)))); (case aL => have := LMc8.out; omega); intro v118 w13 ho hb hg hat; rw [← Ny117.out] at ho; have n0_ := Aside0.mk (hb); have n1_ := Aside0.mk (ho); clear HB; clear HO_3; clear HO116; have HB := n0_; have HO119 := n1_; clear n0_ n1_; clear ho hb hg hat))
                  go_roundg k1
                  case measure => have := HK1.out; omega
                  case rel => exact ⟨(y117), (wrap64 (x5_1 + 1)), (wrap64 (x5_1 + 1)), (by first | rfl | (simp; done) | (simp [*]; done)), (by first | rfl | (simp; done) | (simp [*]; done)), H', ⟨by have := HK1.out; omega⟩, ⟨by (with_reducible repeat (first | apply Kd.S_alloc | apply Kd.S_drewN | apply Kd.S_drew)); exact HO119.out⟩, ⟨by repeat (first | (with_reducible first | exact HB.out | apply below_alloc | apply pw_below_drewN | apply below_drew1) | exact HB.out)⟩⟩
                · rw [if_neg c8] at H
                  exact absurd H (by simp)
              · rw [if_neg c7] at H
                exact absurd H (by simp)
            · rw [if_neg c5] at H
              exact absurd H (by simp)
          · rw [if_neg c4] at H
            exact absurd H (by simp)
        · rw [if_neg c3] at H
          have c3b0 : (x5_1 == (l0.length : Int)) = false := beq_eq_false_iff_ne.mpr c3
          have c3b1 : (x5_1 != (l0.length : Int)) = true := bne_iff_ne.mpr c3
          by_cases c15 : 0 ≤ x5_1
          · rw [if_pos c15] at H
            have c15b0 : decide (0 ≤ x5_1) = true := decide_eq_true c15
            clear c15
            by_cases c16 : x5_1 < (l0.length : Int)
            · rw [if_pos c16] at H
              have c16b0 : decide (x5_1 < (l0.length : Int)) = true := decide_eq_true c16
              clear c16
              by_cases c17 : (rd l0 x5_1) = 10
              · rw [if_pos c17] at H
                have c17b0 : ((rd l0 x5_1) == 10) = true := beq_iff_eq.mpr c17
                have c17b1 : ((rd l0 x5_1) != 10) = false := bne_eq_false_iff_eq.mpr c17
                clear c17
                obtain ⟨y121, hy121⟩ : ∃ y_ : List Int, y_ = (([] : List Int)) := ⟨_, rfl⟩
                replace H : (if 0 ≤ x4_1 then (if x4_1 ≤ x5_1 then (if y121.length + ((l0.take (x5_1 : Int).toNat).drop (x4_1 : Int).toNat).length < 140737488355328 then (if x3_1.length < 5864062014805 then (quoinref05_Split.l0 k1 l0 (x3_1 ++ [(y121 ++ ((l0.take (x5_1 : Int).toNat).drop (x4_1 : Int).toNat))]) (wrap64 (x5_1 + 1)) (wrap64 (x5_1 + 1))) else (none)) else (none)) else (none)) else (none)) = some r := by first | (rw [hy121]; with_reducible exact H) | (have H2_ := (Option.bind_some _ _).symm.trans H; rw [hy121]; with_reducible exact H2_) | (have H2_ := (Option.bind_some _ _).symm.trans H; with_reducible exact H2_) | with_reducible exact H | (rw [hy121]; exact H) | exact H
                have Ny121 := Aside0.mk hy121
                clear hy121
                by_cases c18 : 0 ≤ x4_1
                · rw [if_pos c18] at H
                  have c18b0 := eq_true c18
                  have c18b1 : decide (0 ≤ x4_1) = true := decide_eq_true c18
                  clear c18
                  by_cases c19 : x4_1 ≤ x5_1
                  · rw [if_pos c19] at H
                    have c19b0 := eq_true c19
                    have c19b1 : decide (x4_1 ≤ x5_1) = true := decide_eq_true c19
                    clear c19
                    have c20b0 := eq_true (of_decide_eq_true (by first | (with_reducible assumption) | assumption) : x5_1 ≤ (l0.length : Int))
                    by_cases c21 : y121.length + ((l0.take (x5_1 : Int).toNat).drop (x4_1 : Int).toNat).length < 140737488355328
                    · rw [if_pos c21] at H
                      have LMc21 := Aside0.mk c21
                      clear c21
                      obtain ⟨y125, hy125⟩ : ∃ y_ : List Int, y_ = (y121 ++ ((l0.take (x5_1 : Int).toNat).drop (x4_1 : Int).toNat)) := ⟨_, rfl⟩
                      replace H : (if x3_1.length < 5864062014805 then (quoinref05_Split.l0 k1 l0 (x3_1 ++ [y125]) (wrap64 (x5_1 + 1)) (wrap64 (x5_1 + 1))) else (none)) = some r := by first | (rw [hy125]; with_reducible exact H) | (have H2_ := (Option.bind_some _ _).symm.trans H; rw [hy125]; with_reducible exact H2_) | (have H2_ := (Option.bind_some _ _).symm.trans H; with_reducible exact H2_) | with_reducible exact H | (rw [hy125]; exact H) | exact H
                      have Ny125 := Aside0.mk hy125
                      clear hy125
                      by_cases c22 : x3_1.length < 5864062014805
                      · rw [if_pos c22] at H
                        have LMc22 := Aside0.mk c22
                        clear c22
                        obtain ⟨y128, hy128⟩ : ∃ y_ : List (List Int), y_ = (x3_1 ++ [y125]) := ⟨_, rfl⟩
                        replace H : (quoinref05_Split.l0 k1 l0 y128 (wrap64 (x5_1 + 1)) (wrap64 (x5_1 + 1))) = some r := by first | (rw [hy128]; with_reducible exact H) | (have H2_ := (Option.bind_some _ _).symm.trans H; rw [hy128]; with_reducible exact H2_) | (have H2_ := (Option.bind_some _ _).symm.trans H; with_reducible exact H2_) | with_reducible exact H | (rw [hy128]; exact H) | exact H
                        have Ny128 := Aside0.mk hy128
                        clear hy128
                        have H' := Aside0.mk H
                        clear H
                        have p120 : 0 ≤ (x5_1 : Int) := of_decide_eq_true (by first | (with_reducible assumption) | assumption)
                        have q120 : x5_1 < (l0.length : Int) := of_decide_eq_true (by first | (with_reducible assumption) | assumption)
                        obtain ⟨ad120, e120, hx120_0⟩ := Kd.at_int HR0.out x5_1 p120 q120
                        cases e120
                        replace hx120_0 := (HB.out.cell (World.block_lt_of_cell? w _ hx120_0)).trans hx120_0
                        replace p120 := eq_true p120
                        replace q120 := eq_true q120
                        go_wp2_with (first | ((with_reducible refine gate_dst (N := 24) rfl ?_); refine Kd.R_lit (Kd.int .u8) _ 5 ?hg (N := 24) ?hd (xs := ([] : List Int)) (inner := []) (ok := fun _ => True) (okp := fun _ => True) ?hr ?hp (fun _ hk => hk) trivial (Below.refl _ _) (Nat.le_refl _) (by simp) ?_; (case hd => rfl); (case hg => rfl); (case hr => first | (go_simp; done) | (go_simp; rfl)); (case hp => exact (Reps.none _ _)); intro v122 w23 ho24 hb hg_ hnew_; clear hg_ hnew_; (first | rw [← Ny121.out] at ho24 | (simp only [Int.reduceToNat] at ho24; rw [← Ny121.out] at ho24)); have n0_ := Aside0.mk (Kd.S_elder' (by (with_reducible repeat (first | apply Kd.S_alloc | apply Kd.S_drewN | apply Kd.S_drew)); exact HO_3.out) (Kd.R_base ho24) hb); have n1_ := Aside0.mk (Kd.R_lower ho24 (below_size (by repeat (first | (with_reducible first | exact HB.out | apply below_alloc | apply pw_below_drewN | apply below_drew1) | exact HB.out)))); have n2_ := Aside0.mk (below_step (by repeat (first | (with_reducible first | exact HB.out | apply below_alloc | apply pw_below_drewN | apply below_drew1) | exact HB.out)) hb); clear HO_3; clear HB; have HO_3 := n0_; have HO123 := n1_; have HB := n2_; clear n0_ n1_ n2_; clear hb ho24; obtain ⟨i025, hi025, _, hsz25, _⟩ := info_parts info5; obtain ⟨A25, hcut25, hA25, hC25⟩ := print_mid_of (P := Tryd.prog) (Value.int .u8) 0 22 5 .i64 .i64 Tryd.underlying22 hi025 hsz25 (some ad120) c0 l0 x4_1 x5_1 (of_decide_eq_true (by first | (with_reducible assumption) | assumption)) (by first | omega | exact of_decide_eq_true (by first | (with_reducible assumption) | assumption)) (of_decide_eq_true (by first | (with_reducible assumption) | assumption)) HC0.out; have HR124 := Aside0.mk (Kd.C_of_reads (h1 := fun _ => rfl) (hA25 _ (Kd.reads_of_C HR0.out))); have HC124 := Aside0.mk hC25; clear hA25 hC25 hi025 hsz25) | ((with_reducible refine gate_builtin (b := .append) (xs := #[.tmp 24, .tmp 28]) rfl ?_); at_builtin; refine Kd.R_append_rows (Kd.int .u8) (w0 := w) w.heap.size rfl (.tmp 24) (.tmp 28) 22 5 (.int .u8 0) 1 rfl Tryd.underlying22 info5 rfl (by decide) (by omega) v122 y121 ((l0.take (x5_1 : Int).toNat).drop (x4_1 : Int).toNat) _ _ _ (fun _ => True) (fun _ => False) rfl rfl ?aO ?aR (fun _ _ h => h) (fun _ h => h.elim) ?aF ?aB ?aS ?aL ?_; (case aR => first | (rw [← show ((l0.take (x5_1 : Int).toNat).drop (x4_1 : Int).toNat).length = (x5_1.toNat - x4_1.toNat) from (by rw [List.length_drop, List.length_take]; have h_ : (x5_1 : Int) ≤ (l0.length : Int) := of_decide_eq_true (by first | (with_reducible assumption) | assumption); omega)]; repeat (first | exact (Kd.C_below HR124.out HB.out) | (with_reducible refine Kd.C_alloc ?_ _) | (with_reducible refine Kd.C_drewN ?_ _) | (with_reducible refine Kd.C_drew ?_))) | (repeat (first | exact (Kd.C_below HR124.out HB.out) | (with_reducible refine Kd.C_alloc ?_ _) | (with_reducible refine Kd.C_drewN ?_ _) | (with_reducible refine Kd.C_drew ?_)))); (case aB => exact (by repeat (first | (with_reducible first | exact HB.out | apply below_alloc | apply pw_below_drewN | apply below_drew1) | exact HB.out))); (case aF => exact (fun _ _ => trivial)); (case aO => exact (by (with_reducible repeat (first | apply Kd.R_alloc | apply Kd.R_drewN | apply Kd.R_drew)); exact HO123.out)); (case aS => exact (below_size (by repeat (first | (with_reducible first | exact HB.out | apply below_alloc | apply pw_below_drewN | apply below_drew1) | exact HB.out)))); (case aL => have := LMc21.out; have hlx_ := (show ((l0.take (x5_1 : Int).toNat).drop (x4_1 : Int).toNat).length = (x5_1.toNat - x4_1.toNat) from (by rw [List.length_drop, List.length_take]; have h_ : (x5_1 : Int) ≤ (l0.length : Int) := of_decide_eq_true (by first | (with_reducible assumption) | assumption); omega)); omega); intro v126 w26 ho hb hg hat; rw [← Ny125.out] at ho; have n0_ := Aside0.mk (Kd.S_after (ok := (fun _ => True)) (by (with_reducible repeat (first | apply Kd.S_alloc | apply Kd.S_drewN | apply Kd.S_drew)); exact HO_3.out) hg hat); have n1_ := Aside0.mk (hb); have n2_ := Aside0.mk (ho); clear HO_3; clear HB; clear HO123; have HO_3 := n0_; have HB := n1_; have HO127 := n2_; clear n0_ n1_ n2_; clear ho hb hg hat; obtain ⟨Ao28, co28, eo28⟩ := Kd.R_slice HO127.out; subst eo28) | ((with_reducible refine gate_builtin (b := .append) (xs := #[.tmp 30, .tmp 32]) rfl ?_); at_builtin; refine Kd.S_append (Kd.slice 5 (Kd.int .u8)) (w0 := w) w.heap.size rfl (.tmp 30) (.tmp 32) 45 22 (.slice none 0 0) 24 rfl Tryd.underlying45 info22 rfl (by decide) (by omega) u3 x3_1 y125 [.slice Ao28 y125.length co28] (fun _ => True) (fun k_ => some k_ = (.slice Ao28 y125.length co28 : Value).ownBlock) rfl rfl ?aP (fun k_ hk_ => ((Kd.R_mono (ok' := fun k_ => ((fun _ => True)) k_ ∧ some k_ ≠ (u3 : Value).ownBlock) (Kd.R_apart' (HO127.out) (Kd.S_typed HO_3.out) (by decide)) (fun k_ hk => ⟨trivial, hk.2⟩))).1 k_ hk_.symm) ?aF ?aO ?aB ?aS ?aL ?_; (case aP => exact Kd.M_row (Kd.R_mono (Kd.R_tight rfl (Kd.R_mono (ok' := fun k_ => ((fun _ => True)) k_ ∧ some k_ ≠ (u3 : Value).ownBlock) (Kd.R_apart' (HO127.out) (Kd.S_typed HO_3.out) (by decide)) (fun k_ hk => ⟨trivial, hk.2⟩))) (fun _ h_ => h_))); (case aB => exact (by repeat (first | (with_reducible first | exact HB.out | apply below_alloc | apply pw_below_drewN | apply below_drew1) | exact HB.out))); (case aF => exact (fun _ _ => trivial)); (case aO => exact (by (with_reducible repeat (first | apply Kd.S_alloc | apply Kd.S_drewN | apply Kd.S_drew)); exact Kd.S_mono HO_3.out (fun k_ hk => ⟨trivial, fun e_ => hk.2 e_⟩))); (case aS => exact (below_size (by repeat (first | (with_reducible first | exact HB.out | apply below_alloc | apply pw_below_drewN | apply below_drew1) | exact HB.out)))); (case aL => have := LMc22.out; omega); intro v129 w27 ho hb hg hat; rw [← Ny128.out] at ho; have n0_ := Aside0.mk (hb); have n1_ := Aside0.mk (ho); clear HB; clear HO_3; clear HO127; have HB := n0_; have HO130 := n1_; clear n0_ n1_; clear ho hb hg hat))
                        go_roundg k1
                        case measure => have := HK1.out; omega
                        case rel => exact ⟨(y128), (wrap64 (x5_1 + 1)), (wrap64 (x5_1 + 1)), (by first | rfl | (simp; done) | (simp [*]; done)), (by first | rfl | (simp; done) | (simp [*]; done)), H', ⟨by have := HK1.out; omega⟩, ⟨by (with_reducible repeat (first | apply Kd.S_alloc | apply Kd.S_drewN | apply Kd.S_drew)); exact HO130.out⟩, ⟨by repeat (first | (with_reducible first | exact HB.out | apply below_alloc | apply pw_below_drewN | apply below_drew1) | exact HB.out)⟩⟩
                      · rw [if_neg c22] at H
                        exact absurd H (by simp)
                    · rw [if_neg c21] at H
                      exact absurd H (by simp)
                  · rw [if_neg c19] at H
                    exact absurd H (by simp)
                · rw [if_neg c18] at H
                  exact absurd H (by simp)
              · rw [if_neg c17] at H
                have c17b0 : ((rd l0 x5_1) == 10) = false := beq_eq_false_iff_ne.mpr c17
                have c17b1 : ((rd l0 x5_1) != 10) = true := bne_iff_ne.mpr c17
                have H' := Aside0.mk H
                clear H
                have p120 : 0 ≤ (x5_1 : Int) := of_decide_eq_true (by first | (with_reducible assumption) | assumption)
                have q120 : x5_1 < (l0.length : Int) := of_decide_eq_true (by first | (with_reducible assumption) | assumption)
                obtain ⟨ad120, e120, hx120_0⟩ := Kd.at_int HR0.out x5_1 p120 q120
                cases e120
                replace hx120_0 := (HB.out.cell (World.block_lt_of_cell? w _ hx120_0)).trans hx120_0
                replace p120 := eq_true p120
                replace q120 := eq_true q120
                go_wp2
                go_roundg k1
                case measure => have := HK1.out; omega
                case rel => exact ⟨(x3_1), (x4_1), (wrap64 (x5_1 + 1)), (by first | rfl | (simp; done) | (simp [*]; done)), (by first | rfl | (simp; done) | (simp [*]; done)), H', ⟨by have := HK1.out; omega⟩, ⟨by (with_reducible repeat (first | apply Kd.S_alloc | apply Kd.S_drewN | apply Kd.S_drew)); exact HO_3.out⟩, ⟨by repeat (first | (with_reducible first | exact HB.out | apply below_alloc | apply pw_below_drewN | apply below_drew1) | exact HB.out)⟩⟩
            · rw [if_neg c16] at H
              exact absurd H (by simp)
          · rw [if_neg c15] at H
            exact absurd H (by simp)
      · rw [if_neg c2] at H
        have c2b0 : decide (x5_1 ≤ (l0.length : Int)) = false := decide_eq_false c2
        clear c2
        obtain rfl := Option.some.inj H
        go_wp2
        go_ret
        exact ⟨_, by first | rfl | (simp [errW_none, errW_some] <;> rfl) | (simp [*, errW_none, errW_some] <;> rfl), by (with_reducible repeat (first | apply Kd.S_alloc | apply Kd.S_drewN | apply Kd.S_drew)); exact HO_3.out, by repeat (first | (with_reducible first | exact HB.out | apply below_alloc | apply pw_below_drewN | apply below_drew1) | exact HB.out)⟩

end Go.Proofs.YtffpkldphkmjmaaDoor.X
end
section
-- Written by wip/xprint.py over the kit's print.py: the Lean function of each Go function, and the proof that the Go text comes to it.
namespace Go.Proofs.YtffpkldphkmjmaaDoor.X
open Go.RowKit Go.Proofs.YtffpkldphkmjmaaDoorW.PrintWords Go.Proofs.YtffpkldphkmjmaaDoorW.PrintLast Go.Proofs.YtffpkldphkmjmaaDoorW.PrintMore
attribute [local go_sem] max2_int min2_int max_two min_two max_three min_three max_four min_four   -- for this text's walks alone
set_option linter.unusedVariables false
set_option linter.unusedSimpArgs false

/-! ### quoinref11_least: function 75 -/
def quoinref11_least.f (a0 : Int) (a1 : Int) : Option (Int) := if a0 < 0 then (some a1) else (if a1 ≥ 0 then (if a1 < a0 then (some a1) else (some a0)) else (some a0))
set_option maxHeartbeats 8000000 in
set_option maxRecDepth 100000 in
theorem quoinref11_least.calls (a0 : Int) (a1 : Int) (r : Int) (w : World) (h : quoinref11_least.f a0 a1 = some r) :
    Calls Tryd.prog 75 #[.int .i64 a0, .int .i64 a1] w fun e w' => e = .returned (.int .i64 r) ∧ Drawn0 w w' := by
  have H : (if a0 < 0 then (some a1) else (if a1 ≥ 0 then (if a1 < a0 then (some a1) else (some a0)) else (some a0))) = some r := h
  clear h
  by_cases c3 : a0 < 0
  · rw [if_pos c3] at H
    have c3b0 : decide (a0 < 0) = true := decide_eq_true c3
    clear c3
    obtain rfl := Option.some.inj H
    go_enter Tryd.func75, Tryd.ntmps75
    go_wp2
    go_ret
    exact ⟨by first | rfl | (simp; done) | (simp [*]; done), by repeat (first | exact Drawn0.refl _ | apply Drawn0.step)⟩
  · rw [if_neg c3] at H
    have c3b0 : decide (a0 < 0) = false := decide_eq_false c3
    clear c3
    by_cases c4 : a1 ≥ 0
    · rw [if_pos c4] at H
      have c4b0 : decide (0 ≤ a1) = true := decide_eq_true c4
      clear c4
      by_cases c5 : a1 < a0
      · rw [if_pos c5] at H
        have c5b0 : decide (a1 < a0) = true := decide_eq_true c5
        clear c5
        obtain rfl := Option.some.inj H
        go_enter Tryd.func75, Tryd.ntmps75
        go_wp2
        go_ret
        exact ⟨by first | rfl | (simp; done) | (simp [*]; done), by repeat (first | exact Drawn0.refl _ | apply Drawn0.step)⟩
      · rw [if_neg c5] at H
        have c5b0 : decide (a1 < a0) = false := decide_eq_false c5
        clear c5
        obtain rfl := Option.some.inj H
        go_enter Tryd.func75, Tryd.ntmps75
        go_wp2
        go_ret
        exact ⟨by first | rfl | (simp; done) | (simp [*]; done), by repeat (first | exact Drawn0.refl _ | apply Drawn0.step)⟩
    · rw [if_neg c4] at H
      have c4b0 : decide (0 ≤ a1) = false := decide_eq_false c4
      clear c4
      obtain rfl := Option.some.inj H
      go_enter Tryd.func75, Tryd.ntmps75
      go_wp2
      go_ret
      exact ⟨by first | rfl | (simp; done) | (simp [*]; done), by repeat (first | exact Drawn0.refl _ | apply Drawn0.step)⟩

end Go.Proofs.YtffpkldphkmjmaaDoor.X
end
section
-- Written by wip/xprint.py over the kit's print.py: the Lean function of each Go function, and the proof that the Go text comes to it.
namespace Go.Proofs.YtffpkldphkmjmaaDoor.X
open Go.RowKit Go.Proofs.YtffpkldphkmjmaaDoorW.PrintWords Go.Proofs.YtffpkldphkmjmaaDoorW.PrintLast Go.Proofs.YtffpkldphkmjmaaDoorW.PrintMore
attribute [local go_sem] max2_int min2_int max_two min_two max_three min_three max_four min_four   -- for this text's walks alone
set_option linter.unusedVariables false
set_option linter.unusedSimpArgs false

/-! ### quoinref11_word: function 88 -/
def quoinref11_word.f (k : Nat) (l0 : List Int) (a1 : Int) : Option (Bool) := if a1 ≥ 0 then (if a1 < (l0.length : Int) then (if 0 ≤ a1 then ((quoinref06_Of.f k (rd l0 a1) false).bind fun t134 => (some (t134 == 2))) else (none)) else (some false)) else (some false)
theorem quoinref11_word.mono : ∀ a0 a1 k, LeO (quoinref11_word.f k a0 a1) (quoinref11_word.f (k + 1) a0 a1) := by
  intro a0 a1 k
  unfold quoinref11_word.f
  repeat' first
      | (with_reducible exact quoinref06_Of.mono _ _ _)
      | (with_reducible exact LeO.refl _)
      | (with_reducible exact LeO.none _)
      | (with_reducible refine LeO.ite ?_ ?_)
      | (with_reducible refine LeO.bind ?_ (fun _ => ?_))
      | exact quoinref06_Of.mono _ _ _
      | exact LeO.none _
      | refine LeO.ite ?_ ?_
      | refine LeO.bind ?_ (fun _ => ?_)
set_option maxHeartbeats 8000000 in
set_option maxRecDepth 100000 in
theorem quoinref11_word.calls (k : Nat) (A0 : Option Addr) (c0 : Nat) (l0 : List Int) (a1 : Int) (r : Bool) (w : World) (hr0 : Kd.C (Kd.int .u8) w A0 l0.length l0) (hc0 : l0.length ≤ c0) (h : quoinref11_word.f k l0 a1 = some r) :
    Calls Tryd.prog 88 #[.slice A0 l0.length c0, .int .i64 a1] w fun e w' => e = .returned (.bool r) ∧ Drawn0 w w' := by
  have HR0 := Aside0.mk hr0
  have HC0 := Aside0.mk hc0
  clear hr0 hc0
  have H : (if a1 ≥ 0 then (if a1 < (l0.length : Int) then (if 0 ≤ a1 then ((quoinref06_Of.f k (rd l0 a1) false).bind fun t134 => (some (t134 == 2))) else (none)) else (some false)) else (some false)) = some r := h
  clear h
  by_cases c3 : a1 ≥ 0
  · rw [if_pos c3] at H
    have c3b0 : decide (0 ≤ a1) = true := decide_eq_true c3
    clear c3
    by_cases c4 : a1 < (l0.length : Int)
    · rw [if_pos c4] at H
      have c4b0 : decide (a1 < (l0.length : Int)) = true := decide_eq_true c4
      clear c4
      by_cases c5 : 0 ≤ a1
      · rw [if_pos c5] at H
        have c5b0 : decide (0 ≤ a1) = true := decide_eq_true c5
        clear c5
        replace H := Option.bind_eq_some_iff.mp H
        obtain ⟨t134, A60, H⟩ := H
        replace H : (some (t134 == 2)) = some r := H
        have A6 := Aside0.mk A60
        clear A60
        obtain rfl := Option.some.inj H
        have p133 : 0 ≤ (a1 : Int) := of_decide_eq_true (by first | (with_reducible assumption) | assumption)
        have q133 : a1 < (l0.length : Int) := of_decide_eq_true (by first | (with_reducible assumption) | assumption)
        obtain ⟨ad133, e133, hx133_0⟩ := Kd.at_int HR0.out a1 p133 q133
        cases e133
        replace p133 := eq_true p133
        replace q133 := eq_true q133
        go_enter Tryd.func88, Tryd.ntmps88
        go_wp2_with (first | (go_at_call 27; (with_reducible refine (quoinref06_Of.calls k (rd l0 a1) false t134 _ A6.out).mono ?_); rintro e w' ⟨rfl, ⟨nd, rfl⟩⟩))
        go_ret
        exact ⟨by first | rfl | (simp; done) | (simp [*]; done), by repeat (first | exact Drawn0.refl _ | apply Drawn0.step)⟩
      · rw [if_neg c5] at H
        exact absurd H (by simp)
    · rw [if_neg c4] at H
      have c4b0 : decide (a1 < (l0.length : Int)) = false := decide_eq_false c4
      clear c4
      obtain rfl := Option.some.inj H
      go_enter Tryd.func88, Tryd.ntmps88
      go_wp2
      go_ret
      exact ⟨by first | rfl | (simp; done) | (simp [*]; done), by repeat (first | exact Drawn0.refl _ | apply Drawn0.step)⟩
  · rw [if_neg c3] at H
    have c3b0 : decide (0 ≤ a1) = false := decide_eq_false c3
    clear c3
    obtain rfl := Option.some.inj H
    go_enter Tryd.func88, Tryd.ntmps88
    go_wp2
    go_ret
    exact ⟨by first | rfl | (simp; done) | (simp [*]; done), by repeat (first | exact Drawn0.refl _ | apply Drawn0.step)⟩

end Go.Proofs.YtffpkldphkmjmaaDoor.X
end
section
-- Written by wip/xprint.py over the kit's print.py: the Lean function of each Go function, and the proof that the Go text comes to it.
namespace Go.Proofs.YtffpkldphkmjmaaDoor.X
open Go.RowKit Go.Proofs.YtffpkldphkmjmaaDoorW.PrintWords Go.Proofs.YtffpkldphkmjmaaDoorW.PrintLast Go.Proofs.YtffpkldphkmjmaaDoorW.PrintMore
attribute [local go_sem] max2_int min2_int max_two min_two max_three min_three max_four min_four   -- for this text's walks alone
set_option linter.unusedVariables false
set_option linter.unusedSimpArgs false

/-! ### quoinref05_begin: function 66 -/
def quoinref05_begin.l0 : Nat → List Int → Int → Option (Int)
  | 0, _, _ => none
  | k + 1, x0, x1 => if x1 > 0 then (if 0 ≤ (wrap64 (x1 - 1)) then (if (wrap64 (x1 - 1)) < (x0.length : Int) then (if (rd x0 (wrap64 (x1 - 1))) = 10 then (some x1) else (quoinref05_begin.l0 k x0 (wrap64 (x1 - 1)))) else (none)) else (none)) else (some x1)
def quoinref05_begin.f (k : Nat) (l0 : List Int) (a1 : Int) : Option (Int) := quoinref05_begin.l0 k l0 a1
theorem quoinref05_begin.mono_l : ∀ k, (∀ y0 y1, LeO (quoinref05_begin.l0 k y0 y1) (quoinref05_begin.l0 (k + 1) y0 y1))
  | 0 => fun _ _ r h => by simp [quoinref05_begin.l0] at h
  | k + 1 => by
    have ih0 := quoinref05_begin.mono_l k
    · intro y0 y1
      unfold quoinref05_begin.l0
      repeat' first
      | (with_reducible exact ih0 _ _)
      | (with_reducible exact LeO.refl _)
      | (with_reducible exact LeO.none _)
      | (with_reducible refine LeO.ite ?_ ?_)
      | (with_reducible refine LeO.bind ?_ (fun _ => ?_))
      | exact ih0 _ _
      | exact LeO.none _
      | refine LeO.ite ?_ ?_
      | refine LeO.bind ?_ (fun _ => ?_)
theorem quoinref05_begin.mono : ∀ a0 a1 k, LeO (quoinref05_begin.f k a0 a1) (quoinref05_begin.f (k + 1) a0 a1) := by
  intro a0 a1 k
  have ih0 := quoinref05_begin.mono_l k
  unfold quoinref05_begin.f
  repeat' first
      | (with_reducible exact ih0 _ _)
      | (with_reducible exact LeO.refl _)
      | (with_reducible exact LeO.none _)
      | (with_reducible refine LeO.ite ?_ ?_)
      | (with_reducible refine LeO.bind ?_ (fun _ => ?_))
      | exact ih0 _ _
      | exact LeO.none _
      | refine LeO.ite ?_ ?_
      | refine LeO.bind ?_ (fun _ => ?_)
set_option maxHeartbeats 8000000 in
set_option maxRecDepth 100000 in
theorem quoinref05_begin.calls (k : Nat) (A0 : Option Addr) (c0 : Nat) (l0 : List Int) (a1 : Int) (r : Int) (w : World) (hr0 : Kd.C (Kd.int .u8) w A0 l0.length l0) (hc0 : l0.length ≤ c0) (h : quoinref05_begin.f k l0 a1 = some r) :
    Calls Tryd.prog 66 #[.slice A0 l0.length c0, .int .i64 a1] w fun e w' => e = .returned (.int .i64 r) ∧ Drawn0 w w' := by
  have HR0 := Aside0.mk hr0
  have HC0 := Aside0.mk hc0
  clear hr0 hc0
  have H : (quoinref05_begin.l0 k l0 a1) = some r := h
  clear h
  have H' := Aside0.mk H
  clear H
  go_enter Tryd.func66, Tryd.ntmps66
  go_wp2
  go_loopg [1] k (fun kq v1 w' => ∃ (x1_1 : Int), v1 = .int .i64 x1_1 ∧ Aside0 (quoinref05_begin.l0 kq l0 x1_1 = some r) ∧ Aside0 (kq ≤ k) ∧ Drawn0 w w')
  case atStart => exact ⟨(a1), (by first | rfl | (simp; done) | (simp [*]; done)), H', ⟨Nat.le_refl _⟩, by repeat (first | exact Drawn0.refl _ | apply Drawn0.step)⟩
  case round =>
    clear H'
    try clear p2
    obtain ⟨x1_1, rfl, HA, HK1, ⟨m1, rfl⟩⟩ := hrel
    cases gk with
    | zero => exact absurd HA.out (by simp [quoinref05_begin.l0])
    | succ k1 =>
      have H := HA.out
      clear HA
      simp only [quoinref05_begin.l0] at H
      by_cases c3 : x1_1 > 0
      · rw [if_pos c3] at H
        have c3b0 : decide (0 < x1_1) = true := decide_eq_true c3
        clear c3
        obtain ⟨ji4, hji4⟩ : ∃ j_ : Int, (wrap64 (x1_1 - 1)) = j_ := ⟨_, rfl⟩
        replace H : (if 0 ≤ (ji4) then (if (ji4) < (l0.length : Int) then (if (rd l0 (ji4)) = 10 then (some x1_1) else (quoinref05_begin.l0 k1 l0 ji4)) else (none)) else (none)) = some r := by first | (rw [hji4] at H; exact H) | (simp only [hji4] at H ⊢; exact H)
        have hji4w : (IntKind.i64.wrap (x1_1 - 1)) = ji4 := (i64_w _).trans hji4
        by_cases c5 : 0 ≤ (ji4)
        · rw [if_pos c5] at H
          have c5b0 : decide (0 ≤ (ji4)) = true := decide_eq_true c5
          clear c5
          by_cases c6 : (ji4) < (l0.length : Int)
          · rw [if_pos c6] at H
            have c6b0 : decide ((ji4) < (l0.length : Int)) = true := decide_eq_true c6
            clear c6
            by_cases c7 : (rd l0 (ji4)) = 10
            · rw [if_pos c7] at H
              have c7b0 : ((rd l0 (ji4)) == 10) = true := beq_iff_eq.mpr c7
              have c7b1 : ((rd l0 (ji4)) != 10) = false := bne_eq_false_iff_eq.mpr c7
              clear c7
              obtain rfl := Option.some.inj H
              have p135 : 0 ≤ ((ji4) : Int) := of_decide_eq_true (by first | (with_reducible assumption) | assumption)
              have q135 : (ji4) < (l0.length : Int) := of_decide_eq_true (by first | (with_reducible assumption) | assumption)
              obtain ⟨ad135, e135, hx135_0⟩ := Kd.at_int HR0.out (ji4) p135 q135
              cases e135
              replace p135 := eq_true p135
              replace q135 := eq_true q135
              go_wp2
              go_ret
              exact ⟨by first | rfl | (simp; done) | (simp only [← hji4] <;> (first | rfl | simp)) | (simp [*]; done), by repeat (first | exact Drawn0.refl _ | apply Drawn0.step)⟩
            · rw [if_neg c7] at H
              have c7b0 : ((rd l0 (ji4)) == 10) = false := beq_eq_false_iff_ne.mpr c7
              have c7b1 : ((rd l0 (ji4)) != 10) = true := bne_iff_ne.mpr c7
              have H' := Aside0.mk H
              clear H
              have p135 : 0 ≤ ((ji4) : Int) := of_decide_eq_true (by first | (with_reducible assumption) | assumption)
              have q135 : (ji4) < (l0.length : Int) := of_decide_eq_true (by first | (with_reducible assumption) | assumption)
              obtain ⟨ad135, e135, hx135_0⟩ := Kd.at_int HR0.out (ji4) p135 q135
              cases e135
              replace p135 := eq_true p135
              replace q135 := eq_true q135
              go_wp2
              go_roundg k1
              case measure => have := HK1.out; omega
              case rel => exact ⟨(ji4), (by first | rfl | (simp; done) | (simp only [← hji4] <;> (first | rfl | simp)) | (simp [*]; done)), H', ⟨by have := HK1.out; omega⟩, by repeat (first | exact Drawn0.refl _ | apply Drawn0.step)⟩
          · rw [if_neg c6] at H
            exact absurd H (by simp)
        · rw [if_neg c5] at H
          exact absurd H (by simp)
      · rw [if_neg c3] at H
        have c3b0 : decide (0 < x1_1) = false := decide_eq_false c3
        clear c3
        obtain rfl := Option.some.inj H
        go_wp2
        go_ret
        exact ⟨by first | rfl | (simp; done) | (simp [*]; done), by repeat (first | exact Drawn0.refl _ | apply Drawn0.step)⟩

end Go.Proofs.YtffpkldphkmjmaaDoor.X
end
section
-- Written by wip/xprint.py over the kit's print.py: the Lean function of each Go function, and the proof that the Go text comes to it.
namespace Go.Proofs.YtffpkldphkmjmaaDoor.X
open Go.RowKit Go.Proofs.YtffpkldphkmjmaaDoorW.PrintWords Go.Proofs.YtffpkldphkmjmaaDoorW.PrintLast Go.Proofs.YtffpkldphkmjmaaDoorW.PrintMore
attribute [local go_sem] max2_int min2_int max_two min_two max_three min_three max_four min_four   -- for this text's walks alone
set_option linter.unusedVariables false
set_option linter.unusedSimpArgs false

/-! ### quoinref05_Rest: function 42 -/
def quoinref05_Rest.f (k : Nat) (l0 : List Int) (a1 : Int) : Option (Int) := if (mn (mx a1 0) (l0.length : Int)) < (l0.length : Int) then (if 0 ≤ (mn (mx a1 0) (l0.length : Int)) then (if (rd l0 (mn (mx a1 0) (l0.length : Int))) = 10 then ((quoinref05_begin.f k l0 (mn (mx a1 0) (l0.length : Int))).bind fun t137 => (if (mn (mx a1 0) (l0.length : Int)) = t137 then (some (mn (mx a1 0) (l0.length : Int))) else (some (wrap64 ((mn (mx a1 0) (l0.length : Int)) - 1))))) else (some (mn (mx a1 0) (l0.length : Int)))) else (none)) else ((quoinref05_begin.f k l0 (mn (mx a1 0) (l0.length : Int))).bind fun t138 => (if (mn (mx a1 0) (l0.length : Int)) = t138 then (some (mn (mx a1 0) (l0.length : Int))) else (some (wrap64 ((mn (mx a1 0) (l0.length : Int)) - 1)))))
theorem quoinref05_Rest.mono : ∀ a0 a1 k, LeO (quoinref05_Rest.f k a0 a1) (quoinref05_Rest.f (k + 1) a0 a1) := by
  intro a0 a1 k
  unfold quoinref05_Rest.f
  repeat' first
      | (with_reducible exact quoinref05_begin.mono _ _ _)
      | (with_reducible exact LeO.refl _)
      | (with_reducible exact LeO.none _)
      | (with_reducible refine LeO.ite ?_ ?_)
      | (with_reducible refine LeO.bind ?_ (fun _ => ?_))
      | exact quoinref05_begin.mono _ _ _
      | exact LeO.none _
      | refine LeO.ite ?_ ?_
      | refine LeO.bind ?_ (fun _ => ?_)
set_option maxHeartbeats 8000000 in
set_option maxRecDepth 100000 in
theorem quoinref05_Rest.calls (k : Nat) (A0 : Option Addr) (c0 : Nat) (l0 : List Int) (a1 : Int) (r : Int) (w : World) (hr0 : Kd.C (Kd.int .u8) w A0 l0.length l0) (hc0 : l0.length ≤ c0) (h : quoinref05_Rest.f k l0 a1 = some r) :
    Calls Tryd.prog 42 #[.slice A0 l0.length c0, .int .i64 a1] w fun e w' => e = .returned (.int .i64 r) ∧ Below w.heap.size w w' := by
  have HR0 := Aside0.mk hr0
  have HC0 := Aside0.mk hc0
  clear hr0 hc0
  have HB := Aside0.mk (Below.refl w.heap.size w)
  have H : (if (mn (mx a1 0) (l0.length : Int)) < (l0.length : Int) then (if 0 ≤ (mn (mx a1 0) (l0.length : Int)) then (if (rd l0 (mn (mx a1 0) (l0.length : Int))) = 10 then ((quoinref05_begin.f k l0 (mn (mx a1 0) (l0.length : Int))).bind fun t137 => (if (mn (mx a1 0) (l0.length : Int)) = t137 then (some (mn (mx a1 0) (l0.length : Int))) else (some (wrap64 ((mn (mx a1 0) (l0.length : Int)) - 1))))) else (some (mn (mx a1 0) (l0.length : Int)))) else (none)) else ((quoinref05_begin.f k l0 (mn (mx a1 0) (l0.length : Int))).bind fun t138 => (if (mn (mx a1 0) (l0.length : Int)) = t138 then (some (mn (mx a1 0) (l0.length : Int))) else (some (wrap64 ((mn (mx a1 0) (l0.length : Int)) - 1)))))) = some r := h
  clear h
  obtain ⟨ji3, hji3⟩ : ∃ j_ : Int, (mx a1 0) = j_ := ⟨_, rfl⟩
  replace H : (if (mn (ji3) (l0.length : Int)) < (l0.length : Int) then (if 0 ≤ (mn (ji3) (l0.length : Int)) then (if (rd l0 (mn (ji3) (l0.length : Int))) = 10 then ((quoinref05_begin.f k l0 (mn (ji3) (l0.length : Int))).bind fun t137 => (if (mn (ji3) (l0.length : Int)) = t137 then (some (mn (ji3) (l0.length : Int))) else (some (wrap64 ((mn (ji3) (l0.length : Int)) - 1))))) else (some (mn (ji3) (l0.length : Int)))) else (none)) else ((quoinref05_begin.f k l0 (mn (ji3) (l0.length : Int))).bind fun t138 => (if (mn (ji3) (l0.length : Int)) = t138 then (some (mn (ji3) (l0.length : Int))) else (some (wrap64 ((mn (ji3) (l0.length : Int)) - 1)))))) = some r := by first | (rw [hji3] at H; exact H) | (simp only [hji3] at H ⊢; exact H)
  (try (have hji3l : 0 ≤ ji3 := by (rw [← hji3]; unfold mx; (repeat' split) <;> omega)))
  (try (have hji3m : 0 ≤ ji3 := by omega))
  have hji3_ : (if a1 < 0 then 0 else a1) = ji3 := hji3
  obtain ⟨ji4, hji4⟩ : ∃ j_ : Int, (mn (ji3) (l0.length : Int)) = j_ := ⟨_, rfl⟩
  replace H : (if (ji4) < (l0.length : Int) then (if 0 ≤ (ji4) then (if (rd l0 (ji4)) = 10 then ((quoinref05_begin.f k l0 (ji4)).bind fun t137 => (if (ji4) = t137 then (some ji4) else (some (wrap64 ((ji4) - 1))))) else (some ji4)) else (none)) else ((quoinref05_begin.f k l0 (ji4)).bind fun t138 => (if (ji4) = t138 then (some ji4) else (some (wrap64 ((ji4) - 1)))))) = some r := by first | (rw [hji4] at H; exact H) | (simp only [hji4] at H ⊢; exact H)
  have hji4_ : (if (l0.length : Int) < (ji3) then (l0.length : Int) else (ji3)) = ji4 := hji4
  by_cases c5 : (ji4) < (l0.length : Int)
  · rw [if_pos c5] at H
    have c5b0 : decide ((ji4) < (l0.length : Int)) = true := decide_eq_true c5
    clear c5
    by_cases c6 : 0 ≤ (ji4)
    · rw [if_pos c6] at H
      have c6b0 : decide (0 ≤ (ji4)) = true := decide_eq_true c6
      clear c6
      by_cases c7 : (rd l0 (ji4)) = 10
      · rw [if_pos c7] at H
        have c7b0 : ((rd l0 (ji4)) == 10) = true := beq_iff_eq.mpr c7
        have c7b1 : ((rd l0 (ji4)) != 10) = false := bne_eq_false_iff_eq.mpr c7
        clear c7
        replace H := Option.bind_eq_some_iff.mp H
        obtain ⟨t137, A80, H⟩ := H
        replace H : (if (ji4) = t137 then (some ji4) else (some (wrap64 ((ji4) - 1)))) = some r := H
        have A8 := Aside0.mk A80
        clear A80
        by_cases c9 : (ji4) = t137
        · rw [if_pos c9] at H
          have c9b0 : ((ji4) == t137) = true := beq_iff_eq.mpr c9
          have c9b1 : ((ji4) != t137) = false := bne_eq_false_iff_eq.mpr c9
          clear c9
          obtain rfl := Option.some.inj H
          have p136 : 0 ≤ ((ji4) : Int) := of_decide_eq_true (by first | (with_reducible assumption) | assumption)
          have q136 : (ji4) < (l0.length : Int) := of_decide_eq_true (by first | (with_reducible assumption) | assumption)
          obtain ⟨ad136, e136, hx136_0⟩ := Kd.at_int HR0.out (ji4) p136 q136
          cases e136
          replace p136 := eq_true p136
          replace q136 := eq_true q136
          go_enter Tryd.func42, Tryd.ntmps42
          go_wp2_with (first | (go_at_call 66; (with_reducible refine (quoinref05_begin.calls k _ _ l0 ji4 t137 _ ?side1 ?side2 A8.out).mono ?_); (case side1 => repeat (first | exact HR0.out | (with_reducible refine Kd.C_alloc ?_ _) | (with_reducible refine Kd.C_drewN ?_ _) | (with_reducible refine Kd.C_drew ?_))); (case side2 => exact HC0.out); rintro e w' ⟨rfl, ⟨nd, rfl⟩⟩))
          go_ret
          exact ⟨by first | rfl | (simp [errW_none, errW_some] <;> rfl) | (simp only [← hji3, ← hji4]; first | rfl | (simp [errW_none, errW_some] <;> rfl)) | (simp [*, errW_none, errW_some] <;> rfl), by repeat (first | (with_reducible first | exact HB.out | apply below_alloc | apply pw_below_drewN | apply below_drew1) | exact HB.out)⟩
        · rw [if_neg c9] at H
          have c9b0 : ((ji4) == t137) = false := beq_eq_false_iff_ne.mpr c9
          have c9b1 : ((ji4) != t137) = true := bne_iff_ne.mpr c9
          obtain rfl := Option.some.inj H
          have p136 : 0 ≤ ((ji4) : Int) := of_decide_eq_true (by first | (with_reducible assumption) | assumption)
          have q136 : (ji4) < (l0.length : Int) := of_decide_eq_true (by first | (with_reducible assumption) | assumption)
          obtain ⟨ad136, e136, hx136_0⟩ := Kd.at_int HR0.out (ji4) p136 q136
          cases e136
          replace p136 := eq_true p136
          replace q136 := eq_true q136
          go_enter Tryd.func42, Tryd.ntmps42
          go_wp2_with (first | (go_at_call 66; (with_reducible refine (quoinref05_begin.calls k _ _ l0 ji4 t137 _ ?side1 ?side2 A8.out).mono ?_); (case side1 => repeat (first | exact HR0.out | (with_reducible refine Kd.C_alloc ?_ _) | (with_reducible refine Kd.C_drewN ?_ _) | (with_reducible refine Kd.C_drew ?_))); (case side2 => exact HC0.out); rintro e w' ⟨rfl, ⟨nd, rfl⟩⟩))
          go_ret
          exact ⟨by first | rfl | (simp [errW_none, errW_some] <;> rfl) | (simp only [← hji3, ← hji4]; first | rfl | (simp [errW_none, errW_some] <;> rfl)) | (simp [*, errW_none, errW_some] <;> rfl), by repeat (first | (with_reducible first | exact HB.out | apply below_alloc | apply pw_below_drewN | apply below_drew1) | exact HB.out)⟩
      · rw [if_neg c7] at H
        have c7b0 : ((rd l0 (ji4)) == 10) = false := beq_eq_false_iff_ne.mpr c7
        have c7b1 : ((rd l0 (ji4)) != 10) = true := bne_iff_ne.mpr c7
        obtain rfl := Option.some.inj H
        have p136 : 0 ≤ ((ji4) : Int) := of_decide_eq_true (by first | (with_reducible assumption) | assumption)
        have q136 : (ji4) < (l0.length : Int) := of_decide_eq_true (by first | (with_reducible assumption) | assumption)
        obtain ⟨ad136, e136, hx136_0⟩ := Kd.at_int HR0.out (ji4) p136 q136
        cases e136
        replace p136 := eq_true p136
        replace q136 := eq_true q136
        go_enter Tryd.func42, Tryd.ntmps42
        go_wp2
        go_ret
        exact ⟨by first | rfl | (simp [errW_none, errW_some] <;> rfl) | (simp only [← hji3, ← hji4]; first | rfl | (simp [errW_none, errW_some] <;> rfl)) | (simp [*, errW_none, errW_some] <;> rfl), by repeat (first | (with_reducible first | exact HB.out | apply below_alloc | apply pw_below_drewN | apply below_drew1) | exact HB.out)⟩
    · rw [if_neg c6] at H
      exact absurd H (by simp)
  · rw [if_neg c5] at H
    have c5b0 : decide ((ji4) < (l0.length : Int)) = false := decide_eq_false c5
    clear c5
    replace H := Option.bind_eq_some_iff.mp H
    obtain ⟨t138, A100, H⟩ := H
    replace H : (if (ji4) = t138 then (some ji4) else (some (wrap64 ((ji4) - 1)))) = some r := H
    have A10 := Aside0.mk A100
    clear A100
    by_cases c11 : (ji4) = t138
    · rw [if_pos c11] at H
      have c11b0 : ((ji4) == t138) = true := beq_iff_eq.mpr c11
      have c11b1 : ((ji4) != t138) = false := bne_eq_false_iff_eq.mpr c11
      clear c11
      obtain rfl := Option.some.inj H
      go_enter Tryd.func42, Tryd.ntmps42
      go_wp2_with (first | (go_at_call 66; (with_reducible refine (quoinref05_begin.calls k _ _ l0 ji4 t138 _ ?side1 ?side2 A10.out).mono ?_); (case side1 => repeat (first | exact HR0.out | (with_reducible refine Kd.C_alloc ?_ _) | (with_reducible refine Kd.C_drewN ?_ _) | (with_reducible refine Kd.C_drew ?_))); (case side2 => exact HC0.out); rintro e w' ⟨rfl, ⟨nd, rfl⟩⟩))
      go_ret
      exact ⟨by first | rfl | (simp [errW_none, errW_some] <;> rfl) | (simp only [← hji3, ← hji4]; first | rfl | (simp [errW_none, errW_some] <;> rfl)) | (simp [*, errW_none, errW_some] <;> rfl), by repeat (first | (with_reducible first | exact HB.out | apply below_alloc | apply pw_below_drewN | apply below_drew1) | exact HB.out)⟩
    · rw [if_neg c11] at H
      have c11b0 : ((ji4) == t138) = false := beq_eq_false_iff_ne.mpr c11
      have c11b1 : ((ji4) != t138) = true := bne_iff_ne.mpr c11
      obtain rfl := Option.some.inj H
      go_enter Tryd.func42, Tryd.ntmps42
      go_wp2_with (first | (go_at_call 66; (with_reducible refine (quoinref05_begin.calls k _ _ l0 ji4 t138 _ ?side1 ?side2 A10.out).mono ?_); (case side1 => repeat (first | exact HR0.out | (with_reducible refine Kd.C_alloc ?_ _) | (with_reducible refine Kd.C_drewN ?_ _) | (with_reducible refine Kd.C_drew ?_))); (case side2 => exact HC0.out); rintro e w' ⟨rfl, ⟨nd, rfl⟩⟩))
      go_ret
      exact ⟨by first | rfl | (simp [errW_none, errW_some] <;> rfl) | (simp only [← hji3, ← hji4]; first | rfl | (simp [errW_none, errW_some] <;> rfl)) | (simp [*, errW_none, errW_some] <;> rfl), by repeat (first | (with_reducible first | exact HB.out | apply below_alloc | apply pw_below_drewN | apply below_drew1) | exact HB.out)⟩

end Go.Proofs.YtffpkldphkmjmaaDoor.X
end
section
namespace Go.Proofs.YtffpkldphkmjmaaDoor.PT
open Go.RowKit Go.Proofs.YtffpkldphkmjmaaDoorW.PrintWords Go.Proofs.YtffpkldphkmjmaaDoorW.PrintMore
set_option linter.unusedVariables false
def leastV (a b : Int) : Int := if a < 0 then b else if b ≥ 0 then (if b < a then b else a) else a
/-- Does a thing let one pass that takes no byte? -/
def passB (line : List Int) : PTh → Int → Bool
  | .many _, _ => true
  | t, p => fW line t p
/-- The state of the inner loop. -/
structure SS where
  R : List Int
  a : Int
  b : Int
  ok : Bool
  live : Bool
def pass1 (line : List Int) (pl : List PTh) (p : Nat) (i : Nat) (s : SS) : SS :=
  if rd s.R (i : Int) < 0 then s
  else if s.ok = true ∧ rd s.R (i : Int) > s.a then { s with R := s.R.set i (-1) }
  else if i = pl.length then { s with a := rd s.R (i : Int), b := p, ok := true }
  else if passB line (pl.getD i .front) p = true then { s with R := s.R.set (i + 1) (leastV (rd s.R ((i : Int) + 1)) (rd s.R (i : Int))), live := true }
  else { s with live := true }
def passL (line : List Int) (pl : List PTh) (p : Nat) : Nat → Nat → SS → SS
  | 0, _, s => s
  | d + 1, i, s => passL line pl p d (i + 1) (pass1 line pl p i s)
/-- What a thing makes of a byte: where the next is (0: here, 1: behind), or none. -/
def eatB (line : List Int) (p : Nat) : PTh → Option Nat
  | .many S => if S (rd line (p : Int)).toNat = true then some 0 else none
  | .single S => if S (rd line (p : Int)).toNat = true then some 1 else none
  | _ => none
def eat1 (line : List Int) (pl : List PTh) (p : Nat) (R : List Int) (i : Nat) (N : List Int) : List Int :=
  if rd R (i : Int) < 0 then N
  else match eatB line p (pl.getD i .front) with
    | some k => N.set (i + k) (leastV (rd N ((i + k : Nat) : Int)) (rd R (i : Int)))
    | none => N
def eatL (line : List Int) (pl : List PTh) (p : Nat) (R : List Int) : Nat → Nat → List Int → List Int
  | 0, _, N => N
  | d + 1, i, N => eatL line pl p R d (i + 1) (eat1 line pl p R i N)
def outS (line : List Int) (pl : List PTh) (p : Nat) (R : List Int) (a b : Int) (ok : Bool) : SS :=
  passL line pl p (pl.length + 1) 0 ⟨if ok = true then R else R.set 0 (leastV (rd R 0) p), a, b, ok, false⟩
def outL (line : List Int) (pl : List PTh) : Nat → Nat → List Int → Int → Int → Bool → Int × Int × Bool
  | 0, _, _, a, b, ok => (a, b, ok)
  | d + 1, p, R, a, b, ok =>
    if p = line.length ∨ ((outS line pl p R a b ok).ok = true ∧ (outS line pl p R a b ok).live = false) then ((outS line pl p R a b ok).a, (outS line pl p R a b ok).b, (outS line pl p R a b ok).ok)
    else outL line pl d (p + 1) (eatL line pl p (outS line pl p R a b ok).R pl.length 0 (List.replicate (pl.length + 1) (-1))) (outS line pl p R a b ok).a (outS line pl p R a b ok).b (outS line pl p R a b ok).ok
def searchV (line : List Int) (pl : List PTh) (f : Int) : Int × Int × Bool :=
  if f < 0 ∨ f > line.length then (0, 0, false) else outL line pl (line.length + 1) f.toNat (List.replicate (pl.length + 1) (-1)) 0 0 false
/-! What the ends are, place by place. -/
def val (line : List Int) (pl : List PTh) (i p : Nat) : Int := rd (endsV line (pl.drop i)) (p : Int)
section
variable {line : List Int} {pl : List PTh}
theorem val_end {p : Nat} (hp : p ≤ line.length) : val line pl pl.length p = p := by
  unfold val
  rw [List.drop_eq_nil_of_le (Nat.le_refl _)]
  exact rd_gen _ (fun i : Nat => (i : Int)) (by omega)
theorem val_drop {i : Nat} (hi : i < pl.length) : endsV line (pl.drop i) = stepV line (pl.getD i .front) (endsV line (pl.drop (i + 1))) := by
  rw [List.drop_eq_getElem_cons hi, List.getD_eq_getElem?_getD, List.getElem?_eq_getElem hi]
  rfl
theorem val_single {i p : Nat} {S : Nat → Bool} (hi : i < pl.length) (ht : pl.getD i .front = .single S) (hp : p ≤ line.length) : val line pl i p = if p < line.length ∧ S (rd line (p : Int)).toNat = true then val line pl (i + 1) (p + 1) else -1 := by
  unfold val
  rw [val_drop hi, ht]
  exact rd_gen _ (fun i_1 : Nat => if i_1 < line.length ∧ S (rd line (i_1 : Int)).toNat = true then rd (endsV line (pl.drop (i + 1))) ((i_1 : Int) + 1) else -1) (by omega)
theorem mx_succ {S : Nat → Bool} {E : List Int} (d i : Nat) : mx line S E (d + 1) i = if S (rd line (i : Int)).toNat = true then max (rd E (i : Int)) (mx line S E d (i + 1)) else rd E (i : Int) := rfl
theorem val_many {i p : Nat} {S : Nat → Bool} (hi : i < pl.length) (ht : pl.getD i .front = .many S) (hp : p ≤ line.length) : val line pl i p = if p < line.length ∧ S (rd line (p : Int)).toNat = true then max (val line pl (i + 1) p) (val line pl i (p + 1)) else val line pl (i + 1) p := by
  have e : ∀ q : Nat, q ≤ line.length → val line pl i q = mx line S (endsV line (pl.drop (i + 1))) (line.length - q) q := by
    intro q hq
    unfold val
    rw [val_drop hi, ht]
    exact rd_gen _ (fun j : Nat => mx line S (endsV line (pl.drop (i + 1))) (line.length - j) j) (by omega)
  rw [e p hp]
  by_cases h : p < line.length
  · rw [e (p + 1) (by omega)]
    obtain ⟨d, hd⟩ : ∃ d, line.length - p = d + 1 := ⟨line.length - p - 1, by omega⟩
    rw [hd, show line.length - (p + 1) = d from by omega]
    rw [mx_succ]
    by_cases hs : S (rd line (p : Int)).toNat = true
    · rw [if_pos hs, if_pos ⟨h, hs⟩]
      rfl
    · rw [if_neg hs, if_neg (fun h2 => hs h2.2)]
      rfl
  · rw [if_neg (fun h2 => h h2.1), show line.length - p = 0 from by omega]
    rfl
theorem val_test {i p : Nat} (hi : i < pl.length) (h1 : ∀ S, pl.getD i .front ≠ .single S) (h2 : ∀ S, pl.getD i .front ≠ .many S) (hp : p ≤ line.length) : val line pl i p = if fW line (pl.getD i .front) p = true then val line pl (i + 1) p else -1 := by
  unfold val
  rw [val_drop hi]
  generalize pl.getD i .front = t at h1 h2
  have hm : stepV line t (endsV line (pl.drop (i + 1))) = mask (endsV line (pl.drop (i + 1))) (fW line t) line.length := by
    cases t with
    | single S => exact absurd rfl (h1 S)
    | many S => exact absurd rfl (h2 S)
    | _ => rfl
  rw [hm, mask_rd (by omega)]
theorem val_rng {i p : Nat} (hp : p ≤ line.length) : val line pl i p = -1 ∨ ((p : Int) ≤ val line pl i p ∧ val line pl i p ≤ line.length) := (endsV_fine line (pl.drop i)).2 p hp
/-! Soundness: what a state holds leads to a match. -/
def Snd (line : List Int) (pl : List PTh) (f p : Nat) (R : List Int) : Prop := R.length = pl.length + 1 ∧ ∀ i, i ≤ pl.length → 0 ≤ rd R (i : Int) → (f : Int) ≤ rd R (i : Int) ∧ rd R (i : Int) ≤ p ∧ val line pl i p ≤ val line pl 0 (rd R (i : Int)).toNat
theorem rd_set' {R : List Int} {k i : Nat} {v : Int} (hk : k < R.length) : rd (R.set k v) (i : Int) = if i = k then v else rd R (i : Int) := by
  rw [rd_set R (i := k) (i : Int) v (by omega) hk]
  by_cases e : i = k
  · rw [if_pos (by omega), if_pos e]
  · rw [if_neg (by omega), if_neg e]
theorem rd_rep {m i : Nat} (hi : i < m) : rd (List.replicate m (-1)) (i : Int) = -1 := by
  unfold rd
  rw [Int.toNat_natCast, List.getD_eq_getElem?_getD]
  simp [hi]
theorem least_two (a b : Int) : leastV a b = a ∨ leastV a b = b := by
  unfold leastV
  split
  · exact .inr rfl
  · split
    · split
      · exact .inr rfl
      · exact .inl rfl
    · exact .inl rfl
theorem least_le {a b : Int} (hb : 0 ≤ b) : 0 ≤ leastV a b ∧ leastV a b ≤ b ∧ (0 ≤ a → leastV a b ≤ a) := by
  unfold leastV
  by_cases h1 : a < 0
  · rw [if_pos h1]; omega
  · rw [if_neg h1, if_pos (show b ≥ 0 from hb)]
    by_cases h2 : b < a
    · rw [if_pos h2]; omega
    · rw [if_neg h2]; omega
theorem Snd.put {f p : Nat} {R : List Int} (h : Snd line pl f p R) {k : Nat} {v : Int} (hk : k ≤ pl.length) (hv : 0 ≤ v → (f : Int) ≤ v ∧ v ≤ p ∧ val line pl k p ≤ val line pl 0 v.toNat) : Snd line pl f p (R.set k v) := by
  refine ⟨by rw [List.length_set]; exact h.1, fun i hi h0 => ?_⟩
  rw [rd_set' (by have := h.1; omega)] at h0 ⊢
  by_cases e : i = k
  · rw [if_pos e] at h0 ⊢
    subst e
    exact hv h0
  · rw [if_neg e] at h0 ⊢
    exact h.2 i hi h0
theorem Snd.least {f p : Nat} {R : List Int} (h : Snd line pl f p R) {k : Nat} {v : Int} (hk : k ≤ pl.length) (h0 : 0 ≤ v) (hv : (f : Int) ≤ v ∧ v ≤ p ∧ val line pl k p ≤ val line pl 0 v.toNat) : Snd line pl f p (R.set k (leastV (rd R (k : Int)) v)) := by
  refine h.put hk (fun h1 => ?_)
  rcases least_two (rd R (k : Int)) v with e | e
  · rw [e] at h1 ⊢; exact h.2 k hk h1
  · rw [e]; exact hv
theorem pass_le {i p : Nat} (hi : i < pl.length) (hp : p ≤ line.length) (h : passB line (pl.getD i .front) p = true) : val line pl (i + 1) p ≤ val line pl i p := by
  cases ht : pl.getD i .front with
  | single S => rw [ht] at h; cases h
  | many S =>
    rw [val_many hi ht hp]
    split <;> omega
  | _ =>
    rw [val_test hi (by rw [ht]; simp) (by rw [ht]; simp) hp]
    rw [if_pos (by rw [ht] at h ⊢; exact h)]
    exact Int.le_refl _
theorem eat_le {i p k : Nat} (hi : i < pl.length) (hp : p < line.length) (h : eatB line p (pl.getD i .front) = some k) : val line pl (i + k) (p + 1) ≤ val line pl i p ∧ k ≤ 1 := by
  cases ht : pl.getD i .front with
  | single S =>
    rw [ht] at h
    unfold eatB at h
    by_cases hs : S (rd line (p : Int)).toNat = true
    · simp only [if_pos hs, Option.some.injEq] at h
      subst h
      rw [val_single hi ht (by omega), if_pos ⟨hp, hs⟩]
      exact ⟨Int.le_refl _, Nat.le_refl _⟩
    · simp [hs] at h
  | many S =>
    rw [ht] at h
    unfold eatB at h
    by_cases hs : S (rd line (p : Int)).toNat = true
    · simp only [if_pos hs, Option.some.injEq] at h
      subst h
      have e := val_many (line := line) (pl := pl) hi ht (p := p) (by omega)
      rw [if_pos ⟨hp, hs⟩] at e
      rw [e, Nat.add_zero]
      exact ⟨Int.le_max_right _ _, Nat.zero_le _⟩
    · simp [hs] at h
  | _ => rw [ht] at h; cases h
/-- What the outer state knows. -/
def Out (line : List Int) (pl : List PTh) (f p : Nat) (a b : Int) (ok : Bool) : Prop := (ok = true → (f : Int) ≤ a ∧ a ≤ p ∧ 0 ≤ val line pl 0 a.toNat) ∧ (ok = false → a = 0 ∧ b = 0)
theorem pass1_snd {f p i : Nat} {s : SS} (hp : p ≤ line.length) (hi : i ≤ pl.length) (h : Snd line pl f p s.R) (ho : Out line pl f p s.a s.b s.ok) : Snd line pl f p (pass1 line pl p i s).R ∧ Out line pl f p (pass1 line pl p i s).a (pass1 line pl p i s).b (pass1 line pl p i s).ok := by
  unfold pass1
  split
  · exact ⟨h, ho⟩
  · rename_i h0
    have hs := h.2 i hi (by omega)
    split
    · exact ⟨h.put hi (fun h1 => absurd h1 (by decide)), ho⟩
    · split
      · rename_i e
        subst e
        refine ⟨h, fun _ => ⟨hs.1, hs.2.1, ?_⟩, fun h1 => by cases h1⟩
        have := hs.2.2
        rw [val_end hp] at this
        show 0 ≤ val line pl 0 (rd s.R (pl.length : Int)).toNat
        omega
      · split
        · rename_i e hb
          refine ⟨?_, ho⟩
          have h2 := h.least (k := i + 1) (v := rd s.R (i : Int)) (by omega) (by omega) ⟨hs.1, hs.2.1, Int.le_trans (pass_le (by omega) hp hb) hs.2.2⟩
          rwa [show ((i + 1 : Nat) : Int) = (i : Int) + 1 from by omega] at h2
        · exact ⟨h, ho⟩
theorem eat1_snd {f p i : Nat} {R N : List Int} (hp : p < line.length) (hi : i < pl.length) (h : Snd line pl f p R) (hn : Snd line pl f (p + 1) N) : Snd line pl f (p + 1) (eat1 line pl p R i N) := by
  unfold eat1
  split
  · exact hn
  · rename_i h0
    have hs := h.2 i (by omega) (by omega)
    split
    · rename_i k hk
      obtain ⟨h1, h2⟩ := eat_le hi hp hk
      exact hn.least (by omega) (by omega) ⟨hs.1, by omega, Int.le_trans h1 hs.2.2⟩
    · exact hn
theorem rep_snd {f p m : Nat} (hm : m = pl.length + 1) : Snd line pl f p (List.replicate m (-1)) := by
  subst hm
  refine ⟨by simp, fun i hi h0 => ?_⟩
  rw [rd_rep (by omega)] at h0
  exact absurd h0 (by decide)
end
end Go.Proofs.YtffpkldphkmjmaaDoor.PT
end
section
namespace Go.Proofs.YtffpkldphkmjmaaDoor.PT
open Go.RowKit Go.Proofs.YtffpkldphkmjmaaDoorW.PrintWords Go.Proofs.YtffpkldphkmjmaaDoorW.PrintMore
set_option linter.unusedVariables false
/-- The match that is to be found. -/
structure Tgt (line : List Int) (pl : List PTh) (f s : Nat) (e : Int) : Prop where
  ge : f ≤ s
  le : s ≤ line.length
  at_ : val line pl 0 s = e
  pos : 0 ≤ e
  least : ∀ q : Nat, f ≤ q → q < s → val line pl 0 q < 0
section
variable {line : List Int} {pl : List PTh} {f s : Nat} {e : Int}
theorem Tgt.se (t : Tgt line pl f s e) : (s : Int) ≤ e ∧ e ≤ line.length := by
  have h1 := val_rng (line := line) (pl := pl) (i := 0) t.le
  have h2 := t.at_
  have h3 := t.pos
  omega
theorem Tgt.key (t : Tgt line pl f s e) {p i : Nat} {R : List Int} (h : Snd line pl f p R) (hi : i ≤ pl.length) (h0 : 0 ≤ rd R (i : Int)) (hv : 0 ≤ val line pl i p) : (s : Int) ≤ rd R (i : Int) := by
  obtain ⟨h1, h2, h3⟩ := h.2 i hi h0
  by_cases lt : rd R (i : Int) < s
  · have := t.least (rd R (i : Int)).toNat (by omega) (by omega)
    omega
  · omega
theorem Tgt.out (t : Tgt line pl f s e) {p : Nat} {a b : Int} {ok : Bool} (h : Out line pl f p a b ok) (hk : ok = true) : (s : Int) ≤ a := by
  obtain ⟨h1, h2, h3⟩ := h.1 hk
  by_cases lt : a < s
  · have := t.least a.toNat (by omega) (by omega)
    omega
  · omega
/-- The thread, in the inner loop. -/
def CP (line : List Int) (pl : List PTh) (s : Nat) (e : Int) (p i : Nat) (t : SS) : Prop :=
  (∃ j, i ≤ j ∧ j ≤ pl.length ∧ rd t.R (j : Int) = s ∧ val line pl j p = e) ∨ (e = p ∧ t.ok = true ∧ t.a = s ∧ t.b = e) ∨
  (∃ j k, j < i ∧ j < pl.length ∧ rd t.R (j : Int) = s ∧ t.live = true ∧ eatB line p (pl.getD j .front) = some k ∧ p < line.length ∧ val line pl (j + k) (p + 1) = e)
theorem least_thread (t : Tgt line pl f s e) {p k : Nat} {R : List Int} {v : Int} (hn : Snd line pl f p (R.set k (leastV (rd R (k : Int)) v))) (hl : R.length = pl.length + 1) (hk : k ≤ pl.length) (h0 : 0 ≤ v) (hs : (0 ≤ rd R (k : Int) ∧ rd R (k : Int) = s) ∨ v = s) (hv : val line pl k p = e) : rd (R.set k (leastV (rd R (k : Int)) v)) (k : Int) = s := by
  have e1 : rd (R.set k (leastV (rd R (k : Int)) v)) (k : Int) = leastV (rd R (k : Int)) v := by rw [rd_set' (by omega), if_pos rfl]
  have h1 := least_le (a := rd R (k : Int)) h0
  have h2 := t.key hn hk (by rw [e1]; exact h1.1) (by rw [hv]; exact t.pos)
  rw [e1] at h2 ⊢
  rcases hs with ⟨h3, h4⟩ | h3
  · have := h1.2.2 h3
    omega
  · omega
theorem pass1_cp (t : Tgt line pl f s e) {p i : Nat} {w : SS} (hp : p ≤ line.length) (hi : i ≤ pl.length) (h : Snd line pl f p w.R) (ho : Out line pl f p w.a w.b w.ok) (hc : CP line pl s e p i w) : CP line pl s e p (i + 1) (pass1 line pl p i w) := by
  obtain ⟨hsn, hou⟩ := pass1_snd hp hi h ho
  have hlen := h.1
  unfold pass1 at hsn hou ⊢
  by_cases h0 : rd w.R (i : Int) < 0
  · rw [if_pos h0] at hsn hou ⊢
    rcases hc with ⟨j, h1, h2, h3, h4⟩ | hc | ⟨j, k, h1, h2⟩
    · by_cases ej : j = i
      · subst ej; omega
      · exact .inl ⟨j, by omega, h2, h3, h4⟩
    · exact .inr (.inl hc)
    · exact .inr (.inr ⟨j, k, by omega, h2⟩)
  rw [if_neg h0] at hsn hou ⊢
  by_cases hpr : w.ok = true ∧ rd w.R (i : Int) > w.a
  · rw [if_pos hpr] at hsn hou ⊢
    have hb := t.out ho hpr.1
    rcases hc with ⟨j, h1, h2, h3, h4⟩ | hc | ⟨j, k, h1, h2, h3, h4⟩
    · by_cases ej : j = i
      · subst ej; omega
      · exact .inl ⟨j, by omega, h2, by rw [rd_set' (by omega), if_neg ej]; exact h3, h4⟩
    · exact .inr (.inl hc)
    · exact .inr (.inr ⟨j, k, by omega, h2, by rw [rd_set' (by omega), if_neg (by omega)]; exact h3, h4⟩)
  rw [if_neg hpr] at hsn hou ⊢
  by_cases hm : i = pl.length
  · rw [if_pos hm] at hsn hou ⊢
    subst hm
    have hv := val_end (line := line) (pl := pl) hp
    have hr := h.2 pl.length (Nat.le_refl _) (by omega)
    rcases hc with ⟨j, h1, h2, h3, h4⟩ | ⟨h1, h2, h3, h4⟩ | ⟨j, k, h1, h2⟩
    · obtain rfl : j = pl.length := by omega
      exact .inr (.inl ⟨by omega, rfl, h3, by show (p : Int) = e; omega⟩)
    · have h5 := t.key h (Nat.le_refl _) (by omega) (by omega)
      refine .inr (.inl ⟨h1, rfl, ?_, by show (p : Int) = e; omega⟩)
      show rd w.R (pl.length : Int) = s
      have : ¬ rd w.R (pl.length : Int) > w.a := fun h6 => hpr ⟨h2, h6⟩
      omega
    · exact .inr (.inr ⟨j, k, by omega, h2⟩)
  rw [if_neg hm] at hsn hou ⊢
  have him : i < pl.length := by omega
  by_cases hb : passB line (pl.getD i .front) p = true
  · rw [if_pos hb] at hsn hou ⊢
    rw [show ((i : Int) + 1) = ((i + 1 : Nat) : Int) from by omega] at hsn ⊢
    have hle := pass_le (line := line) (pl := pl) him hp hb
    rcases hc with ⟨j, h1, h2, h3, h4⟩ | hc | ⟨j, k, h1, h2, h3, h4, h5⟩
    · by_cases ej : j = i
      · subst ej
        have fwd : val line pl (j + 1) p = e → CP line pl s e p (j + 1) { w with R := w.R.set (j + 1) (leastV (rd w.R ((j + 1 : Nat) : Int)) (rd w.R (j : Int))), live := true } := fun hv =>
          .inl ⟨j + 1, Nat.le_refl _, by omega, least_thread t hsn hlen (by omega) (by omega) (.inr h3) hv, hv⟩
        cases ht : pl.getD j .front with
        | single S => rw [ht] at hb; cases hb
        | many S =>
          have hv := val_many (line := line) (pl := pl) him ht hp
          rw [h4] at hv
          by_cases hS : p < line.length ∧ S (rd line (p : Int)).toNat = true
          · rw [if_pos hS] at hv
            by_cases hx : val line pl (j + 1) p = e
            · exact fwd hx
            · refine .inr (.inr ⟨j, 0, by omega, him, by show rd (w.R.set _ _) _ = _; rw [rd_set' (by omega), if_neg (by omega)]; exact h3, rfl, ?_, hS.1, ?_⟩)
              · rw [ht]; unfold eatB; simp only [if_pos hS.2]
              · show val line pl j (p + 1) = e
                omega
          · rw [if_neg hS] at hv
            exact fwd hv.symm
        | _ =>
          have hv := val_test (line := line) (pl := pl) him (by rw [ht]; simp) (by rw [ht]; simp) hp
          rw [if_pos (by rw [ht] at hb ⊢; exact hb), h4] at hv
          exact fwd hv.symm
      · by_cases ej1 : j = i + 1
        · subst ej1
          exact .inl ⟨i + 1, Nat.le_refl _, h2, least_thread t hsn hlen (by omega) (by omega) (.inl ⟨by omega, h3⟩) h4, h4⟩
        · exact .inl ⟨j, by omega, h2, by show rd (w.R.set _ _) _ = _; rw [rd_set' (by omega), if_neg (by omega)]; exact h3, h4⟩
    · exact .inr (.inl hc)
    · exact .inr (.inr ⟨j, k, by omega, h2, by show rd (w.R.set _ _) _ = _; rw [rd_set' (by omega), if_neg (by omega)]; exact h3, rfl, h5⟩)
  · rw [if_neg hb] at hsn hou ⊢
    rcases hc with ⟨j, h1, h2, h3, h4⟩ | hc | ⟨j, k, h1, h2, h3, h4, h5⟩
    · by_cases ej : j = i
      · subst ej
        cases ht : pl.getD j .front with
        | single S =>
          have hv := val_single (line := line) (pl := pl) him ht hp
          rw [h4] at hv
          by_cases hS : p < line.length ∧ S (rd line (p : Int)).toNat = true
          · rw [if_pos hS] at hv
            exact .inr (.inr ⟨j, 1, by omega, him, h3, rfl, by rw [ht]; unfold eatB; simp only [if_pos hS.2], hS.1, hv.symm⟩)
          · rw [if_neg hS] at hv
            have := t.pos
            omega
        | many S => rw [ht] at hb; exact absurd rfl hb
        | _ =>
          have hv := val_test (line := line) (pl := pl) him (by rw [ht]; simp) (by rw [ht]; simp) hp
          rw [if_neg (by rw [ht] at hb ⊢; exact hb), h4] at hv
          have := t.pos
          omega
      · exact .inl ⟨j, by omega, h2, h3, h4⟩
    · exact .inr (.inl hc)
    · exact .inr (.inr ⟨j, k, by omega, h2, h3, rfl, h5⟩)
/-- The match was found: it stays. -/
def DN (s : Nat) (e : Int) (w : SS) : Prop := w.ok = true ∧ w.a = s ∧ w.b = e
theorem pass1_dn (t : Tgt line pl f s e) {p i : Nat} {w : SS} (hp : p ≤ line.length) (hi : i ≤ pl.length) (hpe : e < p) (h : Snd line pl f p w.R) (hd : DN s e w) : DN s e (pass1 line pl p i w) := by
  unfold pass1
  by_cases h0 : rd w.R (i : Int) < 0
  · rw [if_pos h0]; exact hd
  rw [if_neg h0]
  by_cases hpr : w.ok = true ∧ rd w.R (i : Int) > w.a
  · rw [if_pos hpr]; exact hd
  rw [if_neg hpr]
  by_cases hm : i = pl.length
  · subst hm
    have hv := val_end (line := line) (pl := pl) hp
    have hr := h.2 pl.length (Nat.le_refl _) (by omega)
    have h5 := t.key h (Nat.le_refl _) (by omega) (by omega)
    have h6 : ¬ rd w.R (pl.length : Int) > w.a := fun h6 => hpr ⟨hd.1, h6⟩
    have h7 : rd w.R (pl.length : Int) = s := by have := hd.2.1; omega
    rw [h7, Int.toNat_natCast, t.at_] at hr
    omega
  · rw [if_neg hm]
    split <;> exact hd
theorem passL_snd {p : Nat} (hp : p ≤ line.length) : ∀ (d i : Nat) (w : SS), i + d = pl.length + 1 → Snd line pl f p w.R → Out line pl f p w.a w.b w.ok → Snd line pl f p (passL line pl p d i w).R ∧ Out line pl f p (passL line pl p d i w).a (passL line pl p d i w).b (passL line pl p d i w).ok := by
  intro d
  induction d with
  | zero => intro i w _ h ho; exact ⟨h, ho⟩
  | succ d ih =>
    intro i w hd h ho
    obtain ⟨h1, h2⟩ := pass1_snd hp (show i ≤ pl.length by omega) h ho
    exact ih (i + 1) _ (by omega) h1 h2
theorem passL_cp (t : Tgt line pl f s e) {p : Nat} (hp : p ≤ line.length) : ∀ (d i : Nat) (w : SS), i + d = pl.length + 1 → Snd line pl f p w.R → Out line pl f p w.a w.b w.ok → CP line pl s e p i w → CP line pl s e p (pl.length + 1) (passL line pl p d i w) := by
  intro d
  induction d with
  | zero =>
    intro i w hd h ho hc
    obtain rfl : i = pl.length + 1 := by omega
    exact hc
  | succ d ih =>
    intro i w hd h ho hc
    obtain ⟨h1, h2⟩ := pass1_snd hp (show i ≤ pl.length by omega) h ho
    exact ih (i + 1) _ (by omega) h1 h2 (pass1_cp t hp (by omega) h ho hc)
theorem passL_dn (t : Tgt line pl f s e) {p : Nat} (hp : p ≤ line.length) (hpe : e < p) : ∀ (d i : Nat) (w : SS), i + d = pl.length + 1 → Snd line pl f p w.R → Out line pl f p w.a w.b w.ok → DN s e w → DN s e (passL line pl p d i w) := by
  intro d
  induction d with
  | zero => intro i w hd h ho hc; exact hc
  | succ d ih =>
    intro i w hd h ho hc
    obtain ⟨h1, h2⟩ := pass1_snd hp (show i ≤ pl.length by omega) h ho
    exact ih (i + 1) _ (by omega) h1 h2 (pass1_dn t hp (by omega) hpe h hc)
theorem eatL_snd {p : Nat} {R : List Int} (hp : p < line.length) (h : Snd line pl f p R) : ∀ (d i : Nat) (N : List Int), i + d = pl.length → Snd line pl f (p + 1) N → Snd line pl f (p + 1) (eatL line pl p R d i N) := by
  intro d
  induction d with
  | zero => intro i N _ hn; exact hn
  | succ d ih => intro i N hd hn; exact ih (i + 1) _ (by omega) (eat1_snd hp (by omega) h hn)
theorem eat1_keep (t : Tgt line pl f s e) {p i j : Nat} {R N : List Int} (hp : p < line.length) (hi : i < pl.length) (h : Snd line pl f p R) (hn : Snd line pl f (p + 1) N) (hj : j ≤ pl.length) (h1 : rd N (j : Int) = s) (h2 : val line pl j (p + 1) = e) : rd (eat1 line pl p R i N) (j : Int) = s := by
  have hsn := eat1_snd hp hi h hn
  have hlen := hn.1
  unfold eat1 at hsn ⊢
  by_cases h0 : rd R (i : Int) < 0
  · rw [if_pos h0]; exact h1
  rw [if_neg h0] at hsn ⊢
  cases hk : eatB line p (pl.getD i .front) with
  | none => exact h1
  | some k =>
    rw [hk] at hsn
    have hk2 := (eat_le hi hp hk).2
    show rd (N.set (i + k) _) (j : Int) = s
    by_cases ej : j = i + k
    · subst ej
      exact least_thread t hsn hlen hj (by omega) (.inl ⟨by omega, h1⟩) h2
    · rw [rd_set' (by omega), if_neg ej]; exact h1
theorem eatL_keep (t : Tgt line pl f s e) {p : Nat} {R : List Int} (hp : p < line.length) (h : Snd line pl f p R) {j : Nat} (hj : j ≤ pl.length) (h2 : val line pl j (p + 1) = e) : ∀ (d i : Nat) (N : List Int), i + d = pl.length → Snd line pl f (p + 1) N → rd N (j : Int) = s → rd (eatL line pl p R d i N) (j : Int) = s := by
  intro d
  induction d with
  | zero => intro i N _ hn h1; exact h1
  | succ d ih => intro i N hd hn h1; exact ih (i + 1) _ (by omega) (eat1_snd hp (by omega) h hn) (eat1_keep t hp (by omega) h hn hj h1 h2)
theorem eatL_thread (t : Tgt line pl f s e) {p : Nat} {R : List Int} (hp : p < line.length) (h : Snd line pl f p R) {j k : Nat} (hj : j < pl.length) (h1 : rd R (j : Int) = s) (hk : eatB line p (pl.getD j .front) = some k) (h2 : val line pl (j + k) (p + 1) = e) : ∀ (d i : Nat) (N : List Int), i + d = pl.length → i ≤ j → Snd line pl f (p + 1) N → rd (eatL line pl p R d i N) ((j + k : Nat) : Int) = s := by
  intro d
  induction d with
  | zero => intro i N hd hij _; omega
  | succ d ih =>
    intro i N hd hij hn
    have hsn := eat1_snd hp (show i < pl.length by omega) h hn
    by_cases ej : i = j
    · subst ej
      have hk2 := (eat_le hj hp hk).2
      refine eatL_keep t hp h (by omega) h2 d (i + 1) _ (by omega) hsn ?_
      unfold eat1 at hsn ⊢
      rw [if_neg (by omega)] at hsn ⊢
      rw [hk] at hsn ⊢
      exact least_thread t hsn hn.1 (by omega) (by omega) (.inr h1) h2
    · exact ih (i + 1) _ (by omega) (by omega) hsn
/-- One round of the outer loop. -/
theorem outS_snd {p : Nat} {R : List Int} {a b : Int} {ok : Bool} (hf : f ≤ p) (hp : p ≤ line.length) (h : Snd line pl f p R) (ho : Out line pl f p a b ok) : Snd line pl f p (outS line pl p R a b ok).R ∧ Out line pl f p (outS line pl p R a b ok).a (outS line pl p R a b ok).b (outS line pl p R a b ok).ok := by
  unfold outS
  refine passL_snd hp _ _ _ (by omega) ?_ ho
  show Snd line pl f p (if ok = true then R else R.set 0 (leastV (rd R 0) p))
  split
  · exact h
  · exact h.least (k := 0) (v := (p : Int)) (by omega) (by omega) ⟨by omega, Int.le_refl _, by rw [Int.toNat_natCast]; exact Int.le_refl _⟩
theorem Snd.next {p : Nat} {a b : Int} {ok : Bool} (ho : Out line pl f p a b ok) : Out line pl f (p + 1) a b ok := ⟨fun h => by have := ho.1 h; omega, ho.2⟩
theorem outL_none (hno : ∀ q : Nat, f ≤ q → q ≤ line.length → val line pl 0 q < 0) : ∀ (d p : Nat) (R : List Int) (a b : Int) (ok : Bool), f ≤ p → p ≤ line.length → Snd line pl f p R → Out line pl f p a b ok → outL line pl d p R a b ok = (0, 0, false) := by
  have no : ∀ (p : Nat) (a b : Int) (ok : Bool), p ≤ line.length → Out line pl f p a b ok → a = 0 ∧ b = 0 ∧ ok = false := by
    intro p a b ok hp ho
    cases ok with
    | true =>
      have h1 := ho.1 rfl
      have := hno a.toNat (by omega) (by omega)
      omega
    | false => exact ⟨(ho.2 rfl).1, (ho.2 rfl).2, rfl⟩
  intro d
  induction d with
  | zero =>
    intro p R a b ok hf hp h ho
    obtain ⟨rfl, rfl, rfl⟩ := no p a b ok hp ho
    rfl
  | succ d ih =>
    intro p R a b ok hf hp h ho
    obtain ⟨h1, h2⟩ := outS_snd hf hp h ho
    obtain ⟨e1, e2, e3⟩ := no p _ _ _ hp h2
    unfold outL
    split
    · rw [e1, e2, e3]
    · rename_i hc
      exact ih (p + 1) _ _ _ _ (by omega) (by omega) (eatL_snd (by omega) h1 _ _ _ (by omega) (rep_snd rfl)) (Snd.next h2)
theorem outL_some (t : Tgt line pl f s e) : ∀ (d p : Nat) (R : List Int) (a b : Int) (ok : Bool), f ≤ p → p ≤ line.length → line.length < p + d → Snd line pl f p R → Out line pl f p a b ok → (ok = true → a < p) →
    ((s : Int) < p → (p : Int) ≤ e → ∃ j, j ≤ pl.length ∧ rd R (j : Int) = s ∧ val line pl j p = e) → (e < p → ok = true ∧ a = s ∧ b = e) → outL line pl d p R a b ok = ((s : Int), e, true) := by
  have hse := t.se
  intro d
  induction d with
  | zero => intro p R a b ok hf hp hd; omega
  | succ d ih =>
    intro p R a b ok hf hp hd h ho hap ht hdn
    obtain ⟨h1, h2⟩ := outS_snd hf hp h ho
    have hR0 : Snd line pl f p (if ok = true then R else R.set 0 (leastV (rd R 0) p)) := by
      split
      · exact h
      · exact h.least (k := 0) (v := (p : Int)) (by omega) (by omega) ⟨by omega, Int.le_refl _, by rw [Int.toNat_natCast]; exact Int.le_refl _⟩
    unfold outL
    by_cases c1 : p < s
    · -- ahead of the match
      have hok : (outS line pl p R a b ok).ok = false := by
        cases hk : (outS line pl p R a b ok).ok with
        | false => rfl
        | true =>
          have h3 := t.out h2 hk
          have h4 := h2.1 hk
          omega
      rw [if_neg (fun hx => hx.elim (fun hx => by omega) (fun hx => by rw [hok] at hx; cases hx.1))]
      refine ih (p + 1) _ _ _ _ (by omega) (by omega) (by omega) (eatL_snd (by omega) h1 _ _ _ (by omega) (rep_snd rfl)) (Snd.next h2) (fun hk => by rw [hok] at hk; cases hk) (fun hx _ => by omega) (fun hx => by omega)
    by_cases c2 : (p : Int) ≤ e
    · -- within it
      have hc0 : CP line pl s e p 0 ⟨if ok = true then R else R.set 0 (leastV (rd R 0) p), a, b, ok, false⟩ := by
        refine .inl ?_
        by_cases c3 : p = s
        · subst c3
          have hok : ok = false := by
            cases ok with
            | false => rfl
            | true =>
              have := t.out ho rfl
              have := hap rfl
              omega
          subst hok
          refine ⟨0, Nat.le_refl _, Nat.zero_le _, ?_, t.at_⟩
          exact least_thread t (k := 0) (v := (p : Int)) hR0 h.1 (by omega) (by omega) (.inr rfl) t.at_
        · obtain ⟨j, h3, h4, h5⟩ := ht (by omega) c2
          refine ⟨j, Nat.zero_le _, h3, ?_, h5⟩
          cases ok with
          | true => exact h4
          | false =>
            by_cases ej : j = 0
            · subst ej
              exact least_thread t (k := 0) (v := (p : Int)) hR0 h.1 (by omega) (by omega) (.inl ⟨by omega, h4⟩) h5
            · show rd (R.set 0 _) (j : Int) = s
              rw [rd_set' (by have := h.1; omega), if_neg ej]
              exact h4
      have hc := passL_cp t hp (pl.length + 1) 0 _ (by omega) hR0 ho hc0
      change CP line pl s e p (pl.length + 1) (outS line pl p R a b ok) at hc
      generalize outS line pl p R a b ok = w at hc h1 h2
      rcases hc with ⟨j, hj1, hj2, _⟩ | ⟨he, hk, ha, hb⟩ | ⟨j, k, _, hj, hr, hlv, hk, hpn, hv⟩
      · omega
      · split
        · rw [ha, hb, hk]
        · rename_i hx
          refine ih (p + 1) _ _ _ _ (by omega) (by omega) (by omega) (eatL_snd (by omega) h1 _ _ _ (by omega) (rep_snd rfl)) (Snd.next h2) (fun _ => by have := h2.1 hk; omega) (fun _ hx => by omega) (fun _ => ⟨hk, ha, hb⟩)
      · rw [if_neg (fun hx => hx.elim (fun hx => by omega) (fun hx => by rw [hlv] at hx; cases hx.2))]
        have hk2 := (eat_le hj hpn hk).2
        refine ih (p + 1) _ _ _ _ (by omega) (by omega) (by omega) (eatL_snd hpn h1 _ _ _ (by omega) (rep_snd rfl)) (Snd.next h2) (fun hx => by have := h2.1 hx; omega) (fun _ _ => ⟨j + k, by omega, eatL_thread t hpn h1 hj hr hk hv _ _ _ (by omega) (by omega) (rep_snd rfl), hv⟩) (fun hx => ?_)
        have := val_rng (line := line) (pl := pl) (i := j + k) (p := p + 1) (by omega)
        have := t.pos
        omega
    · -- behind it
      have hd0 := hdn (by omega)
      have hd1 := passL_dn t hp (by omega) (pl.length + 1) 0 ⟨if ok = true then R else R.set 0 (leastV (rd R 0) p), a, b, ok, false⟩ (by omega) hR0 ho hd0
      change DN s e (outS line pl p R a b ok) at hd1
      generalize outS line pl p R a b ok = w at hd1 h1 h2
      obtain ⟨hk, ha, hb⟩ := hd1
      split
      · rw [ha, hb, hk]
      · refine ih (p + 1) _ _ _ _ (by omega) (by omega) (by omega) (eatL_snd (by omega) h1 _ _ _ (by omega) (rep_snd rfl)) (Snd.next h2) (fun _ => by have := h2.1 hk; omega) (fun _ hx => by omega) (fun _ => ⟨hk, ha, hb⟩)
/-- The reference's search is Find. -/
theorem search_find (line : List Int) (pl : List PTh) (f : Int) : searchV line pl f = findV line pl f := by
  unfold searchV
  by_cases hf : f < 0 ∨ f > (line.length : Int)
  · rw [if_pos hf]
    unfold findV
    rw [if_pos hf]
  · rw [if_neg hf]
    have hsp := find_spec line pl f
    have h0 : Out line pl f.toNat f.toNat 0 0 false := ⟨(fun h => by cases h), (fun _ => ⟨rfl, rfl⟩)⟩
    have hval : ∀ q : Nat, val line pl 0 q = rd (endsV line pl) (q : Int) := fun q => rfl
    cases hk : (findV line pl f).2.2 with
    | false =>
      obtain ⟨e1, e2⟩ := hsp.2 hk
      rw [e1]
      exact outL_none (f := f.toNat) (fun q h1 h2 => by rw [hval]; exact e2 (by omega) q (by omega) (by omega)) _ _ _ _ _ _ (Nat.le_refl _) (by omega) (rep_snd rfl) h0
    | true =>
      obtain ⟨h1, h2, h3, h4, h5, h6⟩ := hsp.1 hk
      obtain ⟨s, hs⟩ : ∃ s : Nat, (findV line pl f).1 = (s : Int) := ⟨(findV line pl f).1.toNat, by omega⟩
      have ht : Tgt line pl f.toNat s (findV line pl f).2.1 := ⟨by omega, by omega, by rw [hval, h5, hs], by omega, fun q g1 g2 => by rw [hval]; exact h6 q (by omega) (by omega)⟩
      rw [outL_some ht _ _ _ _ _ _ (Nat.le_refl _) (by omega) (by omega) (rep_snd rfl) h0 (fun h => by cases h) (fun h => by omega) (fun h => by have := ht.se; omega)]
      exact Prod.ext hs.symm (Prod.ext rfl hk.symm)
end
end Go.Proofs.YtffpkldphkmjmaaDoor.PT
end
section
namespace Go.Proofs.YtffpkldphkmjmaaDoor.PT
open Go.RowKit Go.Proofs.YtffpkldphkmjmaaDoorW.PrintWords Go.Proofs.YtffpkldphkmjmaaDoorW.PrintMore
set_option linter.unusedVariables false
set_option maxRecDepth 100000
theorem ref_all (b : Int) (h : 0 ≤ b ∧ b ≤ 255) : ∃ r, X.quoinref06_Of.f 1 b false = some r ∧ (r == 2) = (X.class_Of.f 1 b false == some 2) := by
  obtain ⟨k, rfl⟩ := Int.eq_ofNat_of_zero_le h.1
  have h3 : ∀ k : Fin 256, (X.quoinref06_Of.f 1 (k.val : Int) false).isSome = true ∧ ((X.quoinref06_Of.f 1 (k.val : Int) false == some 2) = (X.class_Of.f 1 (k.val : Int) false == some 2)) := by decide +kernel
  obtain ⟨h4, h5⟩ := h3 ⟨k, by omega⟩
  obtain ⟨r, hr⟩ := Option.isSome_iff_exists.1 h4
  refine ⟨r, hr, ?_⟩
  simp only at hr h5
  rw [hr] at h5
  rw [← h5]
  rfl
theorem rword_plain {w : World} {A : Option Addr} {c : Nat} {line : List Int} (hr : Kd.C (Kd.int .u8) w A line.length line) (hc : line.length ≤ c) (hu : ∀ i, 0 ≤ rd line i ∧ rd line i ≤ 255) (i : Int) :
    Calls Tryd.prog 88 #[.slice A line.length c, .int .i64 i] w fun e w' => e = .returned (.bool (isW line i)) ∧ Drawn0 w w' := by
  refine X.quoinref11_word.calls 1 A c line i _ w hr hc ?_
  unfold X.quoinref11_word.f isW
  obtain ⟨r, hr, hr2⟩ := ref_all (rd line i) (hu i)
  by_cases h0 : i ≥ 0
  · rw [if_pos h0, decide_eq_true (show 0 ≤ i from h0)]
    by_cases h1 : i < (line.length : Int)
    · rw [if_pos h1, if_pos (show 0 ≤ i from h0), decide_eq_true h1, hr]
      simp only [Option.bind_some, Bool.true_and]
      rw [hr2]
    · rw [if_neg h1, decide_eq_false h1]; rfl
  · rw [if_neg h0, decide_eq_false (show ¬ 0 ≤ i from h0)]; rfl
theorem least_calls (a b : Int) (w : World) : Calls Tryd.prog 75 #[.int .i64 a, .int .i64 b] w fun e w' => e = .returned (.int .i64 (leastV a b)) ∧ Drawn0 w w' := by
  refine X.quoinref11_least.calls a b _ w ?_
  unfold X.quoinref11_least.f leastV
  split
  · rfl
  · split
    · split <;> rfl
    · rfl
/-- A thing of the reference lets pass. -/
def rpassB (line : List Int) (x : RT) (p : Int) : Bool := passB line (RTd x) p
set_option maxHeartbeats 2000000 in
set_option maxRecDepth 100000 in
theorem rpasses_calls {w : World} {A : Option Addr} {c : Nat} {line : List Int} (hr : Kd.C (Kd.int .u8) w A line.length line) (hc : line.length ≤ c) (hu : ∀ i, 0 ≤ rd line i ∧ rd line i ≤ 255) (x : RT) (hx : 0 ≤ x.1 ∧ x.1 ≤ 5) (p : Int) (hp : 0 ≤ p ∧ p ≤ 1048576) :
    Calls Tryd.prog 76 #[.agg (tcells x), .slice A line.length c, .int .i64 p] w fun e w' => e = .returned (.bool (passB line (RTd x) p)) ∧ Below w.heap.size w w' := by
  obtain ⟨k, S⟩ := x
  simp only at hx
  have HW : ∀ (W : World) (q : Int), Below w.heap.size w W → Aside0 _ := fun W q h => Aside0.mk (rword_plain (c := c) (Kd.C_below hr h) hc hu q)
  clear hr hu
  have hb := below_alloc (Below.refl w.heap.size w) (.cells (tcells (k, S)) 103)
  have hb0 := blk_new w (.cells (tcells (k, S)) 103)
  have HB := Aside0.mk hb
  have ck : (w.alloc (.cells (tcells (k, S)) 103)).cell? ⟨w.heap.size, 0, none⟩ = some (.int .i64 k) := (blk_cell hb0 0).trans rfl
  clear hb hb0
  by_cases e1 : k = 1
  · subst e1
    go_enter Tryd.func76, Tryd.ntmps76
    go_wp2_with fail
    exact bodyPost_ret (v := .bool true) (by simp [results, Tryd.results76, go_sem]) rfl ⟨rfl, HB.out⟩
  by_cases e2 : k = 2
  · subst e2
    have HP := Aside0.mk (show passB line (RTd (2, S)) p = (p == 0) from rfl)
    go_enter Tryd.func76, Tryd.ntmps76
    go_wp2_with fail
    exact bodyPost_ret (v := .bool (p == 0)) (by simp [results, Tryd.results76, go_sem]) rfl ⟨by rw [HP.out], HB.out⟩
  by_cases e3 : k = 3
  · subst e3
    have HP := Aside0.mk (show passB line (RTd (3, S)) p = (p == (line.length : Int)) from rfl)
    go_enter Tryd.func76, Tryd.ntmps76
    go_wp2_with fail
    exact bodyPost_ret (v := .bool (p == (line.length : Int))) (by simp [results, Tryd.results76, go_sem]) rfl ⟨by rw [HP.out], HB.out⟩
  by_cases e4 : k = 4
  · subst e4
    have HP := Aside0.mk (show passB line (RTd (4, S)) p = (isW line p && !isW line (p - 1)) from rfl)
    have HW1 := fun W h => HW W p h
    have HW2 := fun W h => HW W (p - 1) h
    clear HW
    cases h1 : isW line p
    case false =>
      rw [h1] at HP
      simp only [h1] at HW1
      clear h1
      go_enter Tryd.func76, Tryd.ntmps76
      go_wp2_with (go_at_call 88; first | ((with_reducible refine (HW1 _ HB.out).out.mono ?_); rintro e w' ⟨rfl, ⟨nd, rfl⟩⟩; have HB2 := Aside0.mk (pw_below_drewN HB.out nd)))
      exact bodyPost_ret (v := .bool false) (by simp [results, Tryd.results76, go_sem]) rfl ⟨by rw [HP.out]; simp, HB2.out⟩
    case true =>
      rw [h1] at HP
      simp only [h1] at HW1
      clear h1
      cases h2 : isW line (p - 1)
      all_goals
        rw [h2] at HP
        simp only [h2] at HW2
        clear h2
        go_enter Tryd.func76, Tryd.ntmps76
        go_wp2_with (go_at_call 88; first | ((with_reducible refine (HW1 _ HB.out).out.mono ?_); rintro e w' ⟨rfl, ⟨nd, rfl⟩⟩; have HB2 := Aside0.mk (pw_below_drewN HB.out nd)) | ((with_reducible refine (HW2 _ HB2.out).out.mono ?_); rintro e w' ⟨rfl, ⟨nd2, rfl⟩⟩))
        first
          | exact bodyPost_ret (v := .bool true) (by simp [results, Tryd.results76, go_sem]) rfl ⟨by rw [HP.out]; rfl, pw_below_drewN HB.out _⟩
          | exact bodyPost_ret (v := .bool false) (by simp [results, Tryd.results76, go_sem]) rfl ⟨by rw [HP.out]; rfl, pw_below_drewN HB.out _⟩
  by_cases e5 : k = 5
  · subst e5
    have HP := Aside0.mk (show passB line (RTd (5, S)) p = (isW line (p - 1) && !isW line p) from rfl)
    have HW1 := fun W h => HW W p h
    have HW2 := fun W h => HW W (p - 1) h
    clear HW
    cases h1 : isW line p
    case false =>
      rw [h1] at HP
      simp only [h1] at HW1
      clear h1
      cases h2 : isW line (p - 1)
      all_goals
        rw [h2] at HP
        simp only [h2] at HW2
        clear h2
        go_enter Tryd.func76, Tryd.ntmps76
        go_wp2_with (go_at_call 88; first | ((with_reducible refine (HW1 _ HB.out).out.mono ?_); rintro e w' ⟨rfl, ⟨nd, rfl⟩⟩; have HB2 := Aside0.mk (pw_below_drewN HB.out nd)) | ((with_reducible refine (HW2 _ HB2.out).out.mono ?_); rintro e w' ⟨rfl, ⟨nd2, rfl⟩⟩))
        first
          | exact bodyPost_ret (v := .bool true) (by simp [results, Tryd.results76, go_sem]) rfl ⟨by rw [HP.out]; rfl, pw_below_drewN HB.out _⟩
          | exact bodyPost_ret (v := .bool false) (by simp [results, Tryd.results76, go_sem]) rfl ⟨by rw [HP.out]; rfl, pw_below_drewN HB.out _⟩
    case true =>
      rw [h1] at HP
      simp only [h1] at HW1
      clear h1
      go_enter Tryd.func76, Tryd.ntmps76
      go_wp2_with (go_at_call 88; first | ((with_reducible refine (HW1 _ HB.out).out.mono ?_); rintro e w' ⟨rfl, ⟨nd, rfl⟩⟩; have HB2 := Aside0.mk (pw_below_drewN HB.out nd)))
      exact bodyPost_ret (v := .bool false) (by simp [results, Tryd.results76, go_sem]) rfl ⟨by rw [HP.out]; simp, HB2.out⟩
  obtain rfl : k = 0 := by omega
  have HP := Aside0.mk (show passB line (RTd (0, S)) p = false from rfl)
  go_enter Tryd.func76, Tryd.ntmps76
  go_wp2_with fail
  exact bodyPost_ret (v := .bool false) (by simp [results, Tryd.results76, go_sem]) rfl ⟨by rw [HP.out], HB.out⟩
/-- A thing out of its row. -/
theorem ld_thing {w : World} {ad : Addr} {n : Nat} {l : List RT} (h : kR.C w (some ad) n l) {i : Nat} (hi : i < n) (z : RT) : (Instr.loadAt 103 (.pointer (some (ad.add (i * 257))))).run Tryd.prog w = .ok (.agg (tcells (l.getD i z))) w := by
  obtain ⟨ad', cs, e, hc, hk, hcc⟩ := Kd.C_get h z (i : Int) (by omega) (by omega)
  injection e with e
  subst e
  rw [Int.toNat_natCast] at hk hcc
  have hk2 : cs = tcl (l.getD i z) := hk
  subst hk2
  have hl : (loadCells (ad.add (i * 257)) 257).run Tryd.prog w = .ok (tcells (l.getD i z)) w := by
    have h1 := run_loadCells_list (P := Tryd.prog) w (ad.add (i * 257)) (tcl (l.getD i z)) (fun j v hv => by
      rw [add_add]
      exact hcc j v hv)
    rwa [tcl_len] at h1
  have hagg : (isAgg 103).run Tryd.prog w = .ok true w := by kernel_rfl
  have hsz : (sizeOf 103).run Tryd.prog w = .ok 257 w := by kernel_rfl
  simp only [Instr.loadAt, Instr.sureAddr, Sem.run_bind, Sem.run_pure, Result.andThen_ok, loadVar, hagg, if_true, hsz]
  rw [hl]
  rfl
theorem th_cells {w : World} {ad : Addr} {n : Nat} {l : List RT} (h : kR.C w (some ad) n l) {i : Nat} (hi : i < n) (z : RT) : w.cell? (ad.add (i * 257)) = some (.int .i64 (l.getD i z).1) ∧ ∀ b : Nat, b < 256 → w.cell? (ad.add (i * 257 + 1 + b)) = some (.bool ((l.getD i z).2 b)) := by
  obtain ⟨ad', cs, e, hc, hk, hcc⟩ := Kd.C_get h z (i : Int) (by omega) (by omega)
  injection e with e
  subst e
  rw [Int.toNat_natCast] at hk hcc
  have hk2 : cs = tcl (l.getD i z) := hk
  subst hk2
  have hcc2 : ∀ j u, (tcl (l.getD i z))[j]? = some u → w.cell? (ad.add (i * 257 + j)) = some u := hcc
  have h0 := hcc2 0 (.int .i64 (l.getD i z).1) (by rw [tcl]; exact List.getElem?_cons_zero)
  rw [Nat.add_zero] at h0
  refine ⟨h0, fun b hb => ?_⟩
  rw [Nat.add_assoc, Nat.add_comm 1 b]
  refine hcc2 (b + 1) _ ?_
  rw [tcl, List.getElem?_cons_succ, Array.getElem?_toList]
  exact bset_get hb
end Go.Proofs.YtffpkldphkmjmaaDoor.PT
end
section
namespace Go.Proofs.YtffpkldphkmjmaaDoor.PT
open Go.RowKit Go.Proofs.YtffpkldphkmjmaaDoorW.PrintWords Go.Proofs.YtffpkldphkmjmaaDoorW.PrintMore Go.Proofs.YtffpkldphkmjmaaDoorW.PrintLast
set_option linter.unusedVariables false
set_option maxRecDepth 100000
set_option linter.unusedSimpArgs false
/-- A row of places in block g. -/
def SX (w : World) (g : Nat) (R : List Int) (wl : World) : Prop := Below w.heap.size w wl ∧ w.heap.size ≤ g ∧ wl.heap[g]? = some (.cells (iv R) 3 (0, 0))
section
variable {w wl : World} {g : Nat} {R : List Int}
theorem SX.mv (h : SX w g R wl) {w' : World} (hb : Below wl.heap.size wl w') : SX w g R w' := ⟨below_step h.1 hb, h.2.1, blk_below h.2.2 hb⟩
theorem SX.drew (h : SX w g R wl) (n : Nat) : SX w g R (wl.drewN n) := ⟨pw_below_drewN h.1 n, h.2.1, blk_drewN h.2.2 n⟩
theorem SX.put (h : SX w g R wl) (k : Nat) (v : Int) : SX w g (R.set k v) (wl.setCell ⟨g, k, none⟩ (.int .i64 v)) := by
  have h1 := blk_put h.2.2 k (.int .i64 v) rfl
  rw [iv_set] at h1
  exact ⟨below_set h.1 h.2.1, h.2.1, h1⟩
theorem SX.far (h : SX w g R wl) {q : Nat} (hq : q ≠ g) (hw : w.heap.size ≤ q) (k : Nat) (v : Value) : SX w g R (wl.setCell ⟨q, k, none⟩ v) := ⟨below_set h.1 hw, h.2.1, blk_far h.2.2 (fun e => hq e.symm) v⟩
theorem SX.cell (h : SX w g R wl) {k : Nat} (hk : k < R.length) : wl.cell? ⟨g, k, none⟩ = some (.int .i64 (rd R (k : Int))) := (blk_cell h.2.2 k).trans (iv_get hk)
theorem SX.fz (h : SX w g R wl) (k : Nat) : wl.frozen? ⟨g, k, none⟩ = false := blk_frozen h.2.2 k
theorem SX.made (h : Below w.heap.size w wl) (m : Nat) : SX w wl.heap.size (List.replicate m 0) (wl.alloc (.cells (madeCells #[.int .i64 0] m) 3)) := by
  rw [iv_made]
  exact ⟨below_alloc h _, h.size, blk_new _ _⟩
end
theorem mk_ints (m : Nat) (hm : m ≤ 1000) : ∀ W : World, (Instr.makeSlice 47 (.int .i64 (m : Int)) (.int .i64 (m : Int))).run Tryd.prog W = .ok (.slice (some ⟨W.heap.size, 0, none⟩) m m) (W.alloc (.cells (madeCells #[.int .i64 0] m) 3)) :=
  print_make 47 3 .i64 8 Tryd.underlying47 (by kernel_rfl) (by decide) m (by omega)
theorem rep_of {R : List Int} {m : Nat} (hl : R.length = m) (h : ∀ j : Nat, j < m → rd R (j : Int) = -1) : R = List.replicate m (-1) := by
  refine rd_ext (by simp [hl]) (fun j hj => ?_)
  rw [h j (by omega), rd_rep (by omega)]
set_option maxHeartbeats 16000000 in
set_option maxRecDepth 100000 in
theorem rsearch_calls {w : World} {A1 : Option Addr} {c1 : Nat} {l : List RT} {A : Option Addr} {c : Nat} {line : List Int} {f : Int} (hk : kR.C w A1 l.length l) (hx : ∀ x ∈ l, 0 ≤ x.1 ∧ x.1 ≤ 5) (hm : l.length ≤ 300)
    (hr : Kd.C (Kd.int .u8) w A line.length line) (hc : line.length ≤ c) (hn : line.length ≤ 1048576) (hu : ∀ i, 0 ≤ rd line i ∧ rd line i ≤ 255) :
    Calls Tryd.prog 65 #[.slice A1 l.length c1, .slice A line.length c, .int .i64 f] w fun e w' => e = .returned (.tuple #[.int .i64 (searchV line (l.map RTd) f).1, .int .i64 (searchV line (l.map RTd) f).2.1, .bool (searchV line (l.map RTd) f).2.2]) ∧ Below w.heap.size w w' := by
  have H := Aside0.mk (And.intro hk (And.intro hx (And.intro hr hu)))
  clear hk hx hr hu
  by_cases h0 : f < 0 ∨ f > (line.length : Int)
  · have HV := Aside0.mk (show searchV line (l.map RTd) f = (0, 0, false) from if_pos h0)
    have hd : decide (f < 0) = true ∨ decide (f < 0) = false ∧ decide ((line.length : Int) < f) = true := by
      by_cases h1 : f < 0
      · exact .inl (decide_eq_true h1)
      · exact .inr ⟨decide_eq_false h1, decide_eq_true (by omega)⟩
    clear h0
    rcases hd with hd | ⟨hd, hd2⟩
    all_goals
      go_enter Tryd.func65, Tryd.ntmps65
      go_wp2
      refine bodyPost_ret (v := .tuple #[.int .i64 0, .int .i64 0, .bool false]) (by simp [results, Tryd.results65, go_sem]) rfl ?_
      rw [HV.out]
      exact ⟨rfl, Below.refl _ _⟩
  obtain ⟨p0, rfl⟩ : ∃ p0 : Nat, f = (p0 : Int) := ⟨f.toNat, by omega⟩
  have HV := Aside0.mk (show searchV line (l.map RTd) (p0 : Int) = outL line (l.map RTd) (line.length + 1) p0 (List.replicate (l.length + 1) (-1)) 0 0 false by
    unfold searchV
    rw [if_neg h0, Int.toNat_natCast, List.length_map])
  generalize searchV line (l.map RTd) (p0 : Int) = out at HV ⊢
  have hd : decide ((p0 : Int) < 0) = false := decide_eq_false (by omega)
  have hd2 : decide (line.length < p0) = false := decide_eq_false (by omega)
  have hp0 : p0 ≤ line.length := by omega
  clear h0
  have hmk := mk_ints (l.length + 1) (by omega)
  rw [show ((l.length + 1 : Nat) : Int) = (l.length : Int) + 1 from by omega] at hmk
  have hlm : (l.length : Int) ≤ 300 := by omega
  go_enter Tryd.func65, Tryd.ntmps65
  go_wp2
  have HS := Aside0.mk (SX.made (Below.refl w.heap.size w) (l.length + 1))
  generalize (w.alloc (.cells (madeCells #[.int .i64 0] (l.length + 1)) 3)) = W at HS ⊢
  generalize w.heap.size = g0 at HS ⊢
  go_loopw [10] (fun v wl => ∃ (k : Nat) (R : List Int), k ≤ l.length + 1 ∧ v = .int .i64 k ∧ R.length = l.length + 1 ∧ Aside0 (SX w g0 R wl ∧ ∀ j : Nat, j < k → rd R (j : Int) = -1)) (fun v _ => l.length + 1 - (intOf v).toNat)
  case atStart => exact ⟨0, _, by omega, rfl, by simp, ⟨HS.out, fun j hj => by omega⟩⟩
  case round =>
    obtain ⟨k, R, hk, rfl, hR, HL⟩ := hrel
    clear HS
    by_cases lt : k < l.length + 1
    · have q0 : decide (k ≤ l.length) = true := decide_eq_true (by omega)
      have q1 : (0 ≤ (k : Int)) = True := eq_true (by omega)
      have q2 : ((k : Int) < (l.length : Int) + 1) = True := eq_true (by omega)
      have ck := HL.out.1.cell (k := k) (by omega)
      have fk := HL.out.1.fz k
      go_wp2
      go_roundw
      case rel =>
        refine ⟨k + 1, R.set k (-1), by omega, by congr 1, by simp [hR], ⟨HL.out.1.put k (-1), fun j hj => ?_⟩⟩
        rw [rd_set' (by omega)]
        by_cases e : j = k
        · rw [if_pos e]
        · rw [if_neg e]; exact HL.out.2 j (by omega)
      case measure => simp [intOf]; omega
    · have q0 : decide (k ≤ l.length) = false := decide_eq_false (by omega)
      have HS := Aside0.mk (show SX w g0 (List.replicate (l.length + 1) (-1)) wr from by
        have h := HL.out.1
        rwa [rep_of hR (fun j hj => HL.out.2 j (by omega))] at h)
      clear HL
      go_wp2
      go_loopg [9, 11, 12, 13, 14] (line.length + 1) (fun gk v9 v11 v12 v13 v14 wr => ∃ (g : Nat) (R : List Int) (p : Nat) (a b : Int) (ok : Bool), v9 = .slice (some ⟨g, 0, none⟩) (l.length + 1) (l.length + 1) ∧ v11 = .int .i64 a ∧ v12 = .int .i64 b ∧ v13 = .bool ok ∧ v14 = .int .i64 p ∧ p ≤ line.length ∧ line.length < p + gk ∧ R.length = l.length + 1 ∧ Aside0 (SX w g R wr ∧ out = outL line (l.map RTd) gk p R a b ok))
      case atStart => exact ⟨g0, _, p0, 0, 0, false, rfl, rfl, rfl, rfl, rfl, hp0, by omega, by simp, ⟨HS.out, HV.out⟩⟩
      case round =>
        clear HS HV hp0 hd hd2
        obtain ⟨g, R, p, a, b, ok, rfl, rfl, rfl, rfl, rfl, hp, hpd, hR, HO⟩ := hrel
        obtain ⟨d, rfl⟩ : ∃ d, gk = d + 1 := ⟨gk - 1, by omega⟩
        have q0 : decide (p ≤ line.length) = true := decide_eq_true (by omega)
        have HN := Aside0.mk HO.out.2
        have HS := Aside0.mk HO.out.1
        clear HO
        go_upto_if 49 with (fail)
        go_cut [55] (fun v55 wd => Aside0 (SX w g (if ok = true then R else R.set 0 (leastV (rd R 0) p)) wd))
        case first => as_aux_lemma =>
          cases ok with
          | true =>
            go_wp2
            go_meet
            case rel => exact HS
          | false =>
            have ck := HS.out.cell (k := 0) (by omega)
            have fk := HS.out.fz 0
            have q2 : ((0 : Int) < (l.length : Int) + 1) = True := eq_true (by omega)
            have HL := fun W => Aside0.mk (least_calls (rd R 0) p W)
            rw [show ((0 : Nat) : Int) = 0 from rfl] at ck
            generalize hr0 : rd R 0 = r0 at ck HL
            have HQ0 := Aside0.mk hr0
            clear hr0
            have HR0 := Aside0.mk (show ∀ W, SX w g R W → SX w g (R.set 0 (leastV r0 p)) (W.setCell ⟨g, 0, none⟩ (.int .i64 (leastV r0 p))) from fun W h => h.put 0 _)
            go_wp2_with (go_at_call 75; (with_reducible refine (HL _).out.mono ?_); rintro e w3 ⟨rfl, ⟨nd, rfl⟩⟩)
            go_meet
            case rel => exact ⟨by rw [HQ0.out]; exact HR0.out _ (HS.out.drew nd)⟩
        case rest => as_aux_lemma =>
          have HC := hcut
          clear hcut HS
          have HO := Aside0.mk (show outS line (l.map RTd) p R a b ok = passL line (l.map RTd) p (l.length + 1) 0 ⟨if ok = true then R else R.set 0 (leastV (rd R 0) p), a, b, ok, false⟩ by unfold outS; rw [List.length_map])
          have hR0 : (if ok = true then R else R.set 0 (leastV (rd R 0) p)).length = l.length + 1 := by split <;> simp [hR]
          generalize (if ok = true then R else R.set 0 (leastV (rd R 0) p)) = R0 at HC HO hR0
          go_wp2
          go_loopg [11, 12, 13, 15, 16] (l.length + 1) (fun g3 v11 v12 v13 v15 v16 wr => ∃ (i : Nat) (s : SS), v11 = .int .i64 s.a ∧ v12 = .int .i64 s.b ∧ v13 = .bool s.ok ∧ v15 = .bool s.live ∧ v16 = .int .i64 i ∧ i + g3 = l.length + 1 ∧ s.R.length = l.length + 1 ∧ Aside0 (SX w g s.R wr ∧ outS line (l.map RTd) p R a b ok = passL line (l.map RTd) p g3 i s))
          case atStart => exact ⟨0, ⟨R0, a, b, ok, false⟩, rfl, rfl, rfl, rfl, rfl, by omega, hR0, ⟨HC.out, HO.out⟩⟩
          case round =>
            clear HC HO hR0
            obtain ⟨i, ⟨R3, a3, b3, ok3, live3⟩, rfl, rfl, rfl, rfl, rfl, hi, hR3, HQ⟩ := hrel
            simp only at hR3 HQ ⊢
            cases gk with
            | zero =>
              have q3 : decide (i ≤ l.length) = false := decide_eq_false (by omega)
              have HE := Aside0.mk (show outS line (l.map RTd) p R a b ok = ⟨R3, a3, b3, ok3, live3⟩ from HQ.out.2)
              have HS := Aside0.mk HQ.out.1
              clear HQ
              go_upto_region 26 with (fail)
              go_cut [120] (fun v120 wd => v120 = .bool ((p : Int) == (line.length : Int) || (ok3 && !live3)) ∧ wd = wr)
              case first => as_aux_lemma =>
                by_cases e : p = line.length
                · have e1 : ((p : Int) == (line.length : Int)) = true := by rw [beq_iff_eq]; omega
                  have E := Aside0.mk e1
                  clear e
                  go_wp2
                  go_meet
                  case rel => exact ⟨by rw [E.out]; rfl, rfl⟩
                · have e1 : ((p : Int) == (line.length : Int)) = false := beq_eq_false_iff_ne.mpr (by omega)
                  have E := Aside0.mk e1
                  clear e
                  cases ok3 with
                  | false =>
                    go_wp2
                    go_meet
                    case rel => exact ⟨by rw [E.out]; rfl, rfl⟩
                  | true =>
                    cases live3 with
                    | false =>
                      go_wp2
                      go_meet
                      case rel => exact ⟨by rw [E.out]; rfl, rfl⟩
                    | true =>
                      go_wp2
                      go_meet
                      case rel => exact ⟨by rw [E.out]; rfl, rfl⟩
              case rest => as_aux_lemma =>
                obtain ⟨rfl, rfl⟩ := hcut
                generalize hB : ((p : Int) == (line.length : Int) || (ok3 && !live3)) = B
                have HB := Aside0.mk hB
                clear hB
                have HUN := Aside0.mk (show out = if p = line.length ∨ (ok3 = true ∧ live3 = false) then (a3, b3, ok3) else outL line (l.map RTd) d (p + 1) (eatL line (l.map RTd) p R3 (l.map RTd).length 0 (List.replicate ((l.map RTd).length + 1) (-1))) a3 b3 ok3 by rw [HN.out, outL, HE.out])
                cases B with
                | true =>
                  have HO2 := Aside0.mk (HUN.out.trans (if_pos (by
                    have h := HB.out
                    rw [Bool.or_eq_true, beq_iff_eq, Bool.and_eq_true] at h
                    rcases h with h | ⟨h1, h2⟩
                    · exact .inl (by omega)
                    · exact .inr ⟨h1, by simpa using h2⟩)))
                  go_wp2
                  refine bodyPost_ret (v := .tuple #[.int .i64 a3, .int .i64 b3, .bool ok3]) (by simp [results, Tryd.results65, go_sem]) rfl ?_
                  rw [HO2.out]
                  exact ⟨rfl, HS.out.1⟩
                | false =>
                  have HO2 := Aside0.mk (show out = outL line (l.map RTd) d (p + 1) (eatL line (l.map RTd) p R3 l.length 0 (List.replicate (l.length + 1) (-1))) a3 b3 ok3 ∧ p < line.length by
                    have h := HB.out
                    rw [Bool.or_eq_false_iff, beq_eq_false_iff_ne, Bool.and_eq_false_iff] at h
                    refine ⟨HUN.out.trans (by
                      rw [if_neg, List.length_map]
                      rintro (h1 | ⟨h1, h2⟩)
                      · exact h.1 (by omega)
                      · rcases h.2 with h3 | h3
                        · rw [h1] at h3; cases h3
                        · rw [h2] at h3; cases h3), by have := h.1; omega⟩)
                  clear HUN HB HE HN
                  go_wp2
                  have HG := Aside0.mk (show g ≠ wc.heap.size by have := blk_lt HS.out.2.2; omega)
                  have HS2 := Aside0.mk (And.intro (SX.made HS.out.1 (l.length + 1)) (HS.out.mv (below_alloc (Below.refl _ _) (.cells (madeCells #[.int .i64 0] (l.length + 1)) 3))))
                  generalize (wc.alloc (.cells (madeCells #[.int .i64 0] (l.length + 1)) 3)) = W2 at HS2 ⊢
                  generalize wc.heap.size = g2 at HS2 HG ⊢
                  clear HS
                  go_loopw [18] (fun v wl => ∃ (k : Nat) (N : List Int), k ≤ l.length + 1 ∧ v = .int .i64 k ∧ N.length = l.length + 1 ∧ Aside0 (SX w g2 N wl ∧ SX w g R3 wl ∧ ∀ j : Nat, j < k → rd N (j : Int) = -1)) (fun v _ => l.length + 1 - (intOf v).toNat)
                  case atStart => exact ⟨0, _, by omega, rfl, by simp, ⟨HS2.out.1, HS2.out.2, fun j hj => by omega⟩⟩
                  case round =>
                    obtain ⟨k2, N, hk2, rfl, hN, HL⟩ := hrel
                    clear HS2
                    by_cases lt2 : k2 < l.length + 1
                    · have q0' : decide (k2 ≤ l.length) = true := decide_eq_true (by omega)
                      have q1 : (0 ≤ (k2 : Int)) = True := eq_true (by omega)
                      have q2 : ((k2 : Int) < (l.length : Int) + 1) = True := eq_true (by omega)
                      have ck := HL.out.1.cell (k := k2) (by omega)
                      have fk := HL.out.1.fz k2
                      go_wp2
                      go_roundw
                      case rel =>
                        refine ⟨k2 + 1, N.set k2 (-1), by omega, by congr 1, by simp [hN], ⟨HL.out.1.put k2 (-1), HL.out.2.1.far (fun h => HG.out h.symm) HL.out.1.2.1 k2 _, fun j hj => ?_⟩⟩
                        rw [rd_set' (by omega)]
                        by_cases e : j = k2
                        · rw [if_pos e]
                        · rw [if_neg e]; exact HL.out.2.2 j (by omega)
                      case measure => simp [intOf]; omega
                    · have q0' : decide (k2 ≤ l.length) = false := decide_eq_false (by omega)
                      have HS2 := Aside0.mk (And.intro (show SX w g2 (List.replicate (l.length + 1) (-1)) wr from by
                        have h := HL.out.1
                        rwa [rep_of hN (fun j hj => HL.out.2.2 j (by omega))] at h) HL.out.2.1)
                      clear HL
                      go_wp2
                      go_loopg [19] l.length (fun g5 v19 wr => ∃ (i : Nat) (N : List Int), v19 = .int .i64 i ∧ i + g5 = l.length ∧ N.length = l.length + 1 ∧ Aside0 (SX w g2 N wr ∧ SX w g R3 wr ∧ eatL line (l.map RTd) p R3 l.length 0 (List.replicate (l.length + 1) (-1)) = eatL line (l.map RTd) p R3 g5 i N))
                      case atStart => exact ⟨0, _, rfl, by omega, by simp, ⟨HS2.out.1, HS2.out.2, rfl⟩⟩
                      case round =>
                        clear HS2
                        obtain ⟨i, N, rfl, hi5, hN5, HQ⟩ := hrel
                        cases gk with
                        | zero =>
                          have q3 : decide (i < l.length) = false := decide_eq_false (by omega)
                          have HE5 := Aside0.mk (show eatL line (l.map RTd) p R3 l.length 0 (List.replicate (l.length + 1) (-1)) = N from HQ.out.2.2)
                          have hpn := HO2.out.2
                          go_wp2
                          go_roundg d
                          case measure => omega
                          case rel => exact ⟨g2, N, p + 1, a3, b3, ok3, rfl, rfl, rfl, rfl, by first | (congr 1; done) | (congr 1; omega), by omega, by omega, hN5, ⟨HQ.out.1, by rw [HO2.out.1, HE5.out]⟩⟩
                        | succ d5 =>
                          have hil : i < l.length := by omega
                          have q3 : decide (i < l.length) = true := decide_eq_true hil
                          have q1 : (0 ≤ (i : Int)) = True := eq_true (by omega)
                          have q2 : ((i : Int) < (l.length : Int) + 1) = True := eq_true (by omega)
                          have q4 : ((i : Int) < (l.length : Int)) = True := eq_true (by omega)
                          have q5 : (0 ≤ (p : Int)) = True := eq_true (by omega)
                          have q6 : ((p : Int) < (line.length : Int)) = True := eq_true (by have := HO2.out.2; omega)
                          have ck := HQ.out.2.1.cell (k := i) (by have := HQ.out.2.1; omega)
                          have HE5 := Aside0.mk (show eatL line (l.map RTd) p R3 l.length 0 (List.replicate (l.length + 1) (-1)) = eatL line (l.map RTd) p R3 d5 (i + 1) (eat1 line (l.map RTd) p R3 i N) from HQ.out.2.2)
                          have HS := Aside0.mk (And.intro HQ.out.1 HQ.out.2.1)
                          clear HQ
                          generalize hr : rd R3 (i : Int) = r at ck
                          have HR := Aside0.mk hr
                          clear hr
                          have stay : eat1 line (l.map RTd) p R3 i N = N → Aside0 (eatL line (l.map RTd) p R3 l.length 0 (List.replicate (l.length + 1) (-1)) = eatL line (l.map RTd) p R3 d5 (i + 1) N) := fun h => ⟨by rw [HE5.out, h]⟩
                          by_cases c1 : r < 0
                          · have d1 : decide (r < 0) = true := decide_eq_true c1
                            have HP := stay (by unfold eat1; rw [if_pos (by rw [HR.out]; exact c1)])
                            clear c1 HE5 stay hil
                            go_wp2
                            go_quiet (fail)
                            go_wp2
                            go_roundg d5
                            case measure => omega
                            case rel => exact ⟨i + 1, N, by first | (congr 1; done) | (congr 1; omega), by omega, hN5, ⟨HS.out.1.drew _, HS.out.2.drew _, HP.out⟩⟩
                          have d1 : decide (r < 0) = false := decide_eq_false c1
                          obtain ⟨ad0, rfl⟩ : ∃ ad, A1 = some ad := by
                            obtain ⟨ad, _, e, _⟩ := Kd.C_get H.out.1 (0, fun _ => false) (i : Int) (by omega) (by omega)
                            exact ⟨ad, e⟩
                          obtain ⟨ad1, rfl, hby0⟩ := Kd.at_int H.out.2.2.1 (p : Int) (by omega) (by have := HO2.out.2; omega)
                          rw [Int.toNat_natCast] at hby0
                          have hby := pw_cell_below HS.out.1.1 hby0
                          have hbr := H.out.2.2.2 (p : Int)
                          have hmem : l.getD i (0, fun _ => false) ∈ l := by
                            rw [List.getD_eq_getElem?_getD, List.getElem?_eq_getElem hil]
                            exact List.getElem_mem _
                          have hkr := H.out.2.1 _ hmem
                          have hgd : (l.map RTd).getD i .front = RTd (l.getD i (0, fun _ => false)) := by
                            rw [List.getD_eq_getElem?_getD, List.getD_eq_getElem?_getD, List.getElem?_map, List.getElem?_eq_getElem hil]
                            rfl
                          have hsome : ∀ k, eatB line p (RTd (l.getD i (0, fun _ => false))) = some k → eat1 line (l.map RTd) p R3 i N = N.set (i + k) (leastV (rd N ((i + k : Nat) : Int)) r) := fun k h => by unfold eat1; rw [if_neg (by rw [HR.out]; exact c1), hgd, h, HR.out]
                          have hnone : eatB line p (RTd (l.getD i (0, fun _ => false))) = none → eat1 line (l.map RTd) p R3 i N = N := fun h => by unfold eat1; rw [if_neg (by rw [HR.out]; exact c1), hgd, h]
                          obtain ⟨tc0, tc1⟩ := th_cells (Kd.C_below H.out.1 HS.out.1.1) hil (0, fun _ => false)
                          generalize l.getD i (0, fun _ => false) = x at hsome hnone tc0 tc1 hkr
                          obtain ⟨kx, S⟩ := x
                          simp only at tc0 tc1 hkr
                          obtain ⟨bn, hbn⟩ : ∃ bn : Nat, rd line (p : Int) = (bn : Int) := ⟨(rd line (p : Int)).toNat, by omega⟩
                          rw [hbn] at hby hbr
                          have HBN := Aside0.mk hbn
                          have hb256 : bn < 256 := by omega
                          have cS := tc1 bn hb256
                          rw [Nat.add_assoc, add_field _ _ _ (by omega), ← Nat.add_assoc] at cS
                          clear hby0 hmem hgd tc1 hbn c1
                          have q7 : (0 ≤ (bn : Int)) = True := eq_true (by omega)
                          have q8 : ((bn : Int) < 256) = True := eq_true (by omega)
                          by_cases e1 : 1 < kx
                          · have dk : decide (1 < kx) = true := decide_eq_true e1
                            have HP := stay (hnone (by
                              have h : kx = 2 ∨ kx = 3 ∨ kx = 4 ∨ kx = 5 := by omega
                              rcases h with rfl | rfl | rfl | rfl <;> rfl))
                            clear e1 stay hil hnone hsome hkr hbr hb256 HE5
                            go_wp2
                            go_quiet (fail)
                            go_wp2
                            go_roundg d5
                            case measure => omega
                            case rel => exact ⟨i + 1, N, by first | (congr 1; done) | (congr 1; omega), by omega, hN5, ⟨HS.out.1.drew _, HS.out.2.drew _, HP.out⟩⟩
                          have dk : decide (1 < kx) = false := decide_eq_false e1
                          cases hS : S bn with
                          | false =>
                            rw [hS] at cS
                            have HP := stay (hnone (by
                              have h : kx = 0 ∨ kx = 1 := by omega
                              have h2 : S (rd line (p : Int)).toNat = false := by rw [HBN.out]; exact hS
                              rcases h with rfl | rfl
                              · show eatB line p (.single S) = none
                                unfold eatB
                                simp only [h2]
                                rfl
                              · show eatB line p (.many S) = none
                                unfold eatB
                                simp only [h2]
                                rfl))
                            clear e1 stay hil hnone hsome hkr hbr hb256 HE5 hS
                            go_wp2
                            go_quiet (fail)
                            go_wp2
                            go_roundg d5
                            case measure => omega
                            case rel => exact ⟨i + 1, N, by first | (congr 1; done) | (congr 1; omega), by omega, hN5, ⟨HS.out.1.drew _, HS.out.2.drew _, HP.out⟩⟩
                          | true =>
                            rw [hS] at cS
                            have h2 : S (rd line (p : Int)).toNat = true := by rw [HBN.out]; exact hS
                            by_cases ek : kx = 1
                            · subst ek
                              have HP := Aside0.mk (HE5.out.trans (by rw [hsome 0 (by show eatB line p (.many S) = some 0; unfold eatB; simp only [h2]; rfl)]))
                              have cn := HS.out.1.cell (k := i) (by omega)
                              have fn := HS.out.1.fz i
                              have HPP := Aside0.mk (show eatL line (l.map RTd) p R3 l.length 0 (List.replicate (l.length + 1) (-1)) = eatL line (l.map RTd) p R3 d5 (i + 1) (N.set i (leastV (rd N (i : Int)) r)) from HP.out)
                              clear HP
                              generalize rd N (i : Int) = n0 at cn HPP
                              clear e1 stay hil hnone hsome hkr hbr hb256 HE5 hS h2 dk
                              have dk : decide ((1 : Int) < 1) = false := by decide
                              go_wp2
                              go_quiet (fail)
                              go_wp2
                              refine start_ (n := 13) (S := fun w' => w'.cell? ⟨g2, i, none⟩ = some (.int .i64 n0) ∧ w'.cell? ⟨g, i, none⟩ = some (.int .i64 r)) (ds := [12]) #[false, false, false, false, false, false, false, false, false, false, false, false, false] (by kernel_rfl) rfl rfl ⟨cn, ck⟩ (fun hHeld => ?_)
                              refine pure_ (i := 0) (N := some 172) (v := ?_) (a' := ?_) #[true, false, false, false, false, false, false, false, false, false, false, false, false] rfl rfl (by kernel_rfl) (fun _ _ _ h => h) (Or.inl ⟨by rfl, ?_⟩) ?_ ?_
                              rotate_left
                              · intro w'
                                go_simp
                                with_reducible rfl
                              rotate_left
                              · simp only [Act.put, List.setIfInBounds_toArray, List.set_cons_zero, List.set_cons_succ, i64_w, i32_w]
                                rfl
                              refine pure_ (i := 1) (N := some 173) (v := ?_) (a' := ?_) #[true, true, false, false, false, false, false, false, false, false, false, false, false] rfl rfl (by kernel_rfl) (fun _ _ _ h => h) (Or.inl ⟨by rfl, ?_⟩) ?_ ?_
                              rotate_left
                              · intro w'
                                go_simp
                                with_reducible rfl
                              rotate_left
                              · simp only [Act.put, List.setIfInBounds_toArray, List.set_cons_zero, List.set_cons_succ, i64_w, i32_w]
                                rfl
                              refine pure_ (i := 2) (N := some 174) (v := ?_) (a' := ?_) #[true, true, true, false, false, false, false, false, false, false, false, false, false] rfl rfl (by kernel_rfl) (fun _ _ _ h => h) (Or.inl ⟨by rfl, ?_⟩) ?_ ?_
                              rotate_left
                              · intro w'
                                go_simp
                                with_reducible rfl
                              rotate_left
                              · simp only [Act.put, List.setIfInBounds_toArray, List.set_cons_zero, List.set_cons_succ, i64_w, i32_w]
                                rfl
                              refine pure_ (i := 3) (N := some 175) (v := ?_) (a' := ?_) #[true, true, true, true, false, false, false, false, false, false, false, false, false] rfl rfl (by kernel_rfl) (fun _ _ _ h => h) (Or.inl ⟨by rfl, ?_⟩) ?_ ?_
                              rotate_left
                              · intro w'
                                go_simp
                                with_reducible rfl
                              rotate_left
                              · simp only [Act.put, List.setIfInBounds_toArray, List.set_cons_zero, List.set_cons_succ, i64_w, i32_w]
                                rfl
                              refine pure_ (i := 4) (N := some 176) (v := ?_) (a' := ?_) #[true, true, true, true, true, false, false, false, false, false, false, false, false] rfl rfl (by kernel_rfl) (fun _ _ _ h => h) (Or.inl ⟨by rfl, ?_⟩) ?_ ?_
                              rotate_left
                              · intro w'
                                go_simp
                                with_reducible rfl
                              rotate_left
                              · simp only [Act.put, List.setIfInBounds_toArray, List.set_cons_zero, List.set_cons_succ, i64_w, i32_w]
                                rfl
                              refine pure_ (i := 6) (N := some 178) (v := ?_) (a' := ?_) #[true, true, true, true, true, false, true, false, false, false, false, false, false] rfl rfl (by kernel_rfl) (fun _ _ _ h => h) (Or.inl ⟨by rfl, ?_⟩) ?_ ?_
                              rotate_left
                              · intro w'
                                go_simp
                                with_reducible rfl
                              rotate_left
                              · simp only [Act.put, List.setIfInBounds_toArray, List.set_cons_zero, List.set_cons_succ, i64_w, i32_w]
                                rfl
                              refine pure_ (i := 7) (N := some 179) (v := ?_) (a' := ?_) #[true, true, true, true, true, false, true, true, false, false, false, false, false] rfl rfl (by kernel_rfl) (fun _ _ _ h => h) (Or.inl ⟨by rfl, ?_⟩) ?_ ?_
                              rotate_left
                              · intro w'
                                go_simp
                                with_reducible rfl
                              rotate_left
                              · simp only [Act.put, List.setIfInBounds_toArray, List.set_cons_zero, List.set_cons_succ, i64_w, i32_w]
                                rfl
                              refine pure_ (i := 8) (N := some 180) (v := ?_) (a' := ?_) #[true, true, true, true, true, false, true, true, true, false, false, false, false] rfl rfl (by kernel_rfl) (fun _ _ _ h => h) (Or.inl ⟨by rfl, ?_⟩) ?_ ?_
                              rotate_left
                              · intro w'
                                go_simp
                                with_reducible rfl
                              rotate_left
                              · simp only [Act.put, List.setIfInBounds_toArray, List.set_cons_zero, List.set_cons_succ, i64_w, i32_w]
                                rfl
                              refine take_ (i := 5) (N := some 177) (v := ?_) (a' := ?_) #[true, true, true, true, true, true, true, true, true, false, false, false, false] rfl rfl (by kernel_rfl) (fun _ _ _ h => h) (Or.inl ⟨by rfl, ?_⟩) hHeld ?_ ?_
                              rotate_left
                              · rintro w' ⟨s0, s1⟩
                                go_simp
                                with_reducible rfl
                              rotate_left
                              · simp only [Act.put, List.setIfInBounds_toArray, List.set_cons_zero, List.set_cons_succ, i64_w, i32_w]
                                rfl
                              refine take_ (i := 9) (N := some 181) (v := ?_) (a' := ?_) #[true, true, true, true, true, true, true, true, true, true, false, false, false] rfl rfl (by kernel_rfl) (fun _ _ _ h => h) (Or.inl ⟨by rfl, ?_⟩) hHeld ?_ ?_
                              rotate_left
                              · rintro w' ⟨s0, s1⟩
                                go_simp
                                with_reducible rfl
                              rotate_left
                              · simp only [Act.put, List.setIfInBounds_toArray, List.set_cons_zero, List.set_cons_succ, i64_w, i32_w]
                                rfl
                              refine one_ (i := 10) (N := some 182) #[true, true, true, true, true, true, true, true, true, true, true, false, false] rfl rfl (by kernel_rfl) (by decide) (fun K hK => ?_)
                              refine goes_ Tryd.func75 (by kernel_rfl) rfl #[.int .i64 n0, .int .i64 r] (by rfl) rfl rfl (by simp only [List.map_toArray, List.map_cons, List.map_nil]; rfl) ?_
                              with_reducible refine (least_calls n0 r _).mono ?_
                              rintro e w5 ⟨rfl, ⟨nd, rfl⟩⟩
                              refine ⟨_, rfl, ?_⟩
                              refine hK.out _ _ ⟨cn, ck⟩ (fun hHeld => ?_)
                              clear hK K
                              refine norm_ (a' := ?_) ?_ ?_
                              rotate_left
                              · show Act.put _ (some 182) _ = _
                                simp only [Act.put, List.setIfInBounds_toArray, List.set_cons_zero, List.set_cons_succ, i64_w, i32_w]
                                rfl
                              refine pure_ (i := 11) (N := some 183) (v := ?_) (a' := ?_) #[true, true, true, true, true, true, true, true, true, true, true, true, false] rfl rfl (by kernel_rfl) (fun _ _ _ h => h) (Or.inl ⟨by rfl, ?_⟩) ?_ ?_
                              rotate_left
                              · intro w'
                                go_simp
                                with_reducible rfl
                              rotate_left
                              · simp only [Act.put, List.setIfInBounds_toArray, List.set_cons_zero, List.set_cons_succ, i64_w, i32_w]
                                rfl
                              refine last_ (i := 12) (N := none) #[true, true, true, true, true, true, true, true, true, true, true, true, true] rfl rfl (by kernel_rfl) (by decide) (fun K hK => ?_)
                              refine skip_ (w1 := ?_) (by rfl) rfl ?_ ?_
                              rotate_left
                              · go_simp
                                rfl
                              refine hK.out _ _ ?_
                              clear hK K
                              refine done_ (by kernel_rfl) ?_
                              go_wp2
                              go_roundg d5
                              case measure => omega
                              case rel => exact ⟨i + 1, N.set i (leastV n0 r), by first | (congr 1; done) | (congr 1; omega), by omega, by simp [hN5], ⟨(HS.out.1.drew _).put i _, (HS.out.2.drew _).far (fun h => HG.out h.symm) HS.out.1.2.1 i _, HPP.out⟩⟩
                            · obtain rfl : kx = 0 := by omega
                              have HP := Aside0.mk (HE5.out.trans (by rw [hsome 1 (by show eatB line p (.single S) = some 1; unfold eatB; simp only [h2]; rfl)]))
                              have cn1 := HS.out.1.cell (k := i + 1) (by omega)
                              have fn1 := HS.out.1.fz (i + 1)
                              have HPP := Aside0.mk (show eatL line (l.map RTd) p R3 l.length 0 (List.replicate (l.length + 1) (-1)) = eatL line (l.map RTd) p R3 d5 (i + 1) (N.set (i + 1) (leastV (rd N ((i + 1 : Nat) : Int)) r)) from HP.out)
                              clear HP
                              generalize rd N ((i + 1 : Nat) : Int) = n1 at cn1 HPP
                              have hii : (i : Int) ≤ 1000 := by omega
                              have q9 : (0 ≤ (i : Int) + 1) = True := eq_true (by omega)
                              have q10 : ((i : Int) + 1 < (l.length : Int) + 1) = True := eq_true (by omega)
                              have t1 : ((i : Int) + 1).toNat = i + 1 := by omega
                              clear e1 ek stay hil hnone hsome hkr hbr hb256 HE5 hS h2 dk
                              have dk : decide ((1 : Int) < 0) = false := by decide
                              go_wp2
                              go_quiet (fail)
                              go_wp2
                              have hw1 : wrap64 ((i : Int) + 1) = (i : Int) + 1 := by unfold wrap64; omega
                              refine start_ (n := 15) (S := fun w' => w'.cell? ⟨g2, i + 1, none⟩ = some (.int .i64 n1) ∧ w'.cell? ⟨g, i, none⟩ = some (.int .i64 r)) (ds := [14]) #[false, false, false, false, false, false, false, false, false, false, false, false, false, false, false] (by kernel_rfl) rfl rfl ⟨cn1, ck⟩ (fun hHeld => ?_)
                              refine pure_ (i := 0) (N := some 184) (v := ?_) (a' := ?_) #[true, false, false, false, false, false, false, false, false, false, false, false, false, false, false] rfl rfl (by kernel_rfl) (fun _ _ _ h => h) (Or.inl ⟨by rfl, ?_⟩) ?_ ?_
                              rotate_left
                              · intro w'
                                go_simp
                                with_reducible rfl
                              rotate_left
                              · simp only [Act.put, List.setIfInBounds_toArray, List.set_cons_zero, List.set_cons_succ, i64_w, i32_w]
                                rfl
                              refine pure_ (i := 1) (N := some 185) (v := ?_) (a' := ?_) #[true, true, false, false, false, false, false, false, false, false, false, false, false, false, false] rfl rfl (by kernel_rfl) (fun _ _ _ h => h) (Or.inl ⟨by rfl, ?_⟩) ?_ ?_
                              rotate_left
                              · intro w'
                                go_simp
                                with_reducible rfl
                              rotate_left
                              · simp only [Act.put, List.setIfInBounds_toArray, List.set_cons_zero, List.set_cons_succ, i64_w, i32_w]
                                rfl
                              refine pure_ (i := 2) (N := some 186) (v := ?_) (a' := ?_) #[true, true, true, false, false, false, false, false, false, false, false, false, false, false, false] rfl rfl (by kernel_rfl) (fun _ _ _ h => h) (Or.inl ⟨by rfl, ?_⟩) ?_ ?_
                              rotate_left
                              · intro w'
                                go_simp
                                with_reducible rfl
                              rotate_left
                              · simp only [Act.put, List.setIfInBounds_toArray, List.set_cons_zero, List.set_cons_succ, i64_w, i32_w]
                                rfl
                              refine pure_ (i := 3) (N := some 187) (v := ?_) (a' := ?_) #[true, true, true, true, false, false, false, false, false, false, false, false, false, false, false] rfl rfl (by kernel_rfl) (fun _ _ _ h => h) (Or.inl ⟨by rfl, ?_⟩) ?_ ?_
                              rotate_left
                              · intro w'
                                go_simp
                                with_reducible rfl
                              rotate_left
                              · simp only [Act.put, List.setIfInBounds_toArray, List.set_cons_zero, List.set_cons_succ, i64_w, i32_w]
                                rfl
                              refine pure_ (i := 4) (N := some 188) (v := ?_) (a' := ?_) #[true, true, true, true, true, false, false, false, false, false, false, false, false, false, false] rfl rfl (by kernel_rfl) (fun _ _ _ h => h) (Or.inl ⟨by rfl, ?_⟩) ?_ ?_
                              rotate_left
                              · intro w'
                                go_simp
                                with_reducible rfl
                              rotate_left
                              · simp only [Act.put, List.setIfInBounds_toArray, List.set_cons_zero, List.set_cons_succ, i64_w, i32_w]
                                rfl
                              refine pure_ (i := 5) (N := some 189) (v := ?_) (a' := ?_) #[true, true, true, true, true, true, false, false, false, false, false, false, false, false, false] rfl rfl (by kernel_rfl) (fun _ _ _ h => h) (Or.inl ⟨by rfl, ?_⟩) ?_ ?_
                              rotate_left
                              · intro w'
                                go_simp
                                with_reducible rfl
                              rotate_left
                              · simp only [Act.put, List.setIfInBounds_toArray, List.set_cons_zero, List.set_cons_succ, i64_w, i32_w]
                                rfl
                              refine pure_ (i := 6) (N := some 190) (v := ?_) (a' := ?_) #[true, true, true, true, true, true, true, false, false, false, false, false, false, false, false] rfl rfl (by kernel_rfl) (fun _ _ _ h => h) (Or.inl ⟨by rfl, ?_⟩) ?_ ?_
                              rotate_left
                              · intro w'
                                go_simp
                                with_reducible rfl
                              rotate_left
                              · simp only [Act.put, List.setIfInBounds_toArray, List.set_cons_zero, List.set_cons_succ, i64_w, i32_w]
                                rfl
                              refine pure_ (i := 8) (N := some 192) (v := ?_) (a' := ?_) #[true, true, true, true, true, true, true, false, true, false, false, false, false, false, false] rfl rfl (by kernel_rfl) (fun _ _ _ h => h) (Or.inl ⟨by rfl, ?_⟩) ?_ ?_
                              rotate_left
                              · intro w'
                                go_simp
                                with_reducible rfl
                              rotate_left
                              · simp only [Act.put, List.setIfInBounds_toArray, List.set_cons_zero, List.set_cons_succ, i64_w, i32_w]
                                rfl
                              refine pure_ (i := 9) (N := some 193) (v := ?_) (a' := ?_) #[true, true, true, true, true, true, true, false, true, true, false, false, false, false, false] rfl rfl (by kernel_rfl) (fun _ _ _ h => h) (Or.inl ⟨by rfl, ?_⟩) ?_ ?_
                              rotate_left
                              · intro w'
                                go_simp
                                with_reducible rfl
                              rotate_left
                              · simp only [Act.put, List.setIfInBounds_toArray, List.set_cons_zero, List.set_cons_succ, i64_w, i32_w]
                                rfl
                              refine pure_ (i := 10) (N := some 194) (v := ?_) (a' := ?_) #[true, true, true, true, true, true, true, false, true, true, true, false, false, false, false] rfl rfl (by kernel_rfl) (fun _ _ _ h => h) (Or.inl ⟨by rfl, ?_⟩) ?_ ?_
                              rotate_left
                              · intro w'
                                go_simp
                                with_reducible rfl
                              rotate_left
                              · simp only [Act.put, List.setIfInBounds_toArray, List.set_cons_zero, List.set_cons_succ, i64_w, i32_w]
                                rfl
                              refine take_ (i := 7) (N := some 191) (v := ?_) (a' := ?_) #[true, true, true, true, true, true, true, true, true, true, true, false, false, false, false] rfl rfl (by kernel_rfl) (fun _ _ _ h => h) (Or.inl ⟨by rfl, ?_⟩) hHeld ?_ ?_
                              rotate_left
                              · rintro w' ⟨s0, s1⟩
                                go_simp
                                with_reducible rfl
                              rotate_left
                              · simp only [Act.put, List.setIfInBounds_toArray, List.set_cons_zero, List.set_cons_succ, i64_w, i32_w]
                                rfl
                              refine take_ (i := 11) (N := some 195) (v := ?_) (a' := ?_) #[true, true, true, true, true, true, true, true, true, true, true, true, false, false, false] rfl rfl (by kernel_rfl) (fun _ _ _ h => h) (Or.inl ⟨by rfl, ?_⟩) hHeld ?_ ?_
                              rotate_left
                              · rintro w' ⟨s0, s1⟩
                                go_simp
                                with_reducible rfl
                              rotate_left
                              · simp only [Act.put, List.setIfInBounds_toArray, List.set_cons_zero, List.set_cons_succ, i64_w, i32_w]
                                rfl
                              refine one_ (i := 12) (N := some 196) #[true, true, true, true, true, true, true, true, true, true, true, true, true, false, false] rfl rfl (by kernel_rfl) (by decide) (fun K hK => ?_)
                              refine goes_ Tryd.func75 (by kernel_rfl) rfl #[.int .i64 n1, .int .i64 r] (by rfl) rfl rfl (by simp only [List.map_toArray, List.map_cons, List.map_nil]; rfl) ?_
                              with_reducible refine (least_calls n1 r _).mono ?_
                              rintro e w5 ⟨rfl, ⟨nd, rfl⟩⟩
                              refine ⟨_, rfl, ?_⟩
                              refine hK.out _ _ ⟨cn1, ck⟩ (fun hHeld => ?_)
                              clear hK K
                              refine norm_ (a' := ?_) ?_ ?_
                              rotate_left
                              · show Act.put _ (some 196) _ = _
                                simp only [Act.put, List.setIfInBounds_toArray, List.set_cons_zero, List.set_cons_succ, i64_w, i32_w]
                                rfl
                              refine pure_ (i := 13) (N := some 197) (v := ?_) (a' := ?_) #[true, true, true, true, true, true, true, true, true, true, true, true, true, true, false] rfl rfl (by kernel_rfl) (fun _ _ _ h => h) (Or.inl ⟨by rfl, ?_⟩) ?_ ?_
                              rotate_left
                              · intro w'
                                go_simp
                                with_reducible rfl
                              rotate_left
                              · simp only [Act.put, List.setIfInBounds_toArray, List.set_cons_zero, List.set_cons_succ, i64_w, i32_w]
                                rfl
                              refine last_ (i := 14) (N := none) #[true, true, true, true, true, true, true, true, true, true, true, true, true, true, true] rfl rfl (by kernel_rfl) (by decide) (fun K hK => ?_)
                              refine skip_ (w1 := ?_) (by rfl) rfl ?_ ?_
                              rotate_left
                              · go_simp
                                rfl
                              refine hK.out _ _ ?_
                              clear hK K
                              refine done_ (by kernel_rfl) ?_
                              clear hw1
                              go_wp2
                              go_roundg d5
                              case measure => omega
                              case rel => exact ⟨i + 1, N.set (i + 1) (leastV n1 r), by first | (congr 1; done) | (congr 1; omega), by omega, by simp [hN5], ⟨(HS.out.1.drew _).put (i + 1) _, (HS.out.2.drew _).far (fun h => HG.out h.symm) HS.out.1.2.1 (i + 1) _, HPP.out⟩⟩
            | succ d3 =>
              have q3 : decide (i ≤ l.length) = true := decide_eq_true (by omega)
              have q1 : (0 ≤ (i : Int)) = True := eq_true (by omega)
              have q2 : ((i : Int) < (l.length : Int) + 1) = True := eq_true (by omega)
              have ck := HQ.out.1.cell (k := i) (by omega)
              have fk := HQ.out.1.fz i
              have HS := Aside0.mk HQ.out.1
              have HE := Aside0.mk (show outS line (l.map RTd) p R a b ok = passL line (l.map RTd) p d3 (i + 1) (pass1 line (l.map RTd) p i ⟨R3, a3, b3, ok3, live3⟩) from HQ.out.2)
              clear HQ
              generalize hr : rd R3 (i : Int) = r at ck
              have HR := Aside0.mk hr
              clear hr
              by_cases c1 : r < 0
              · have d1 : decide (r < 0) = true := decide_eq_true c1
                have HP := Aside0.mk (HE.out.trans (show _ = passL line (l.map RTd) p d3 (i + 1) ⟨R3, a3, b3, ok3, live3⟩ by unfold pass1; rw [if_pos (by rw [HR.out]; exact c1)]))
                clear c1 HE
                go_wp2
                go_roundg d3
                case measure => omega
                case rel => exact ⟨i + 1, ⟨R3, a3, b3, ok3, live3⟩, rfl, rfl, rfl, rfl, by first | (congr 1; done) | (congr 1; omega), by omega, hR3, ⟨HS.out, HP.out⟩⟩
              have d1 : decide (r < 0) = false := decide_eq_false c1
              by_cases c2 : ok3 = true ∧ r > a3
              · obtain ⟨rfl, c3⟩ := c2
                have d2 : decide (a3 < r) = true := decide_eq_true c3
                have HP := Aside0.mk (HE.out.trans (show _ = passL line (l.map RTd) p d3 (i + 1) ⟨R3.set i (-1), a3, b3, true, live3⟩ by unfold pass1; rw [if_neg (by rw [HR.out]; exact c1), if_pos ⟨rfl, by rw [HR.out]; exact c3⟩]))
                clear c1 c3 HE
                go_wp2
                go_roundg d3
                case measure => omega
                case rel => exact ⟨i + 1, ⟨R3.set i (-1), a3, b3, true, live3⟩, rfl, rfl, rfl, rfl, by first | (congr 1; done) | (congr 1; omega), by omega, by simp [hR3], ⟨HS.out.put i (-1), HP.out⟩⟩
              have HE2 := Aside0.mk (HE.out.trans (show _ = passL line (l.map RTd) p d3 (i + 1) (if i = (l.map RTd).length then ⟨R3, r, (p : Int), true, live3⟩ else if passB line ((l.map RTd).getD i .front) p = true then ⟨R3.set (i + 1) (leastV (rd R3 ((i : Int) + 1)) r), a3, b3, ok3, true⟩ else ⟨R3, a3, b3, ok3, true⟩) by unfold pass1; rw [if_neg (by rw [HR.out]; exact c1), if_neg (by rw [HR.out]; exact c2)]; simp only [HR.out]))
              have d2 : ok3 = true → decide (a3 < r) = false := fun h => decide_eq_false (fun h2 => c2 ⟨h, h2⟩)
              clear HE
              by_cases c3 : i = l.length
              · have d3b : ((i : Int) == (l.length : Int)) = true := by rw [beq_iff_eq]; omega
                have HP := Aside0.mk (HE2.out.trans (by rw [if_pos (by rw [List.length_map]; exact c3)]))
                clear HE2 c1 c2 c3
                cases ok3 with
                | true =>
                  replace d2 := d2 rfl
                  go_wp2
                  go_roundg d3
                  case measure => omega
                  case rel => exact ⟨i + 1, ⟨R3, r, (p : Int), true, live3⟩, rfl, rfl, rfl, rfl, by first | (congr 1; done) | (congr 1; omega), by omega, hR3, ⟨HS.out, HP.out⟩⟩
                | false =>
                  clear d2
                  go_wp2
                  go_roundg d3
                  case measure => omega
                  case rel => exact ⟨i + 1, ⟨R3, r, (p : Int), true, live3⟩, rfl, rfl, rfl, rfl, by first | (congr 1; done) | (congr 1; omega), by omega, hR3, ⟨HS.out, HP.out⟩⟩
              have d3b : ((i : Int) == (l.length : Int)) = false := beq_eq_false_iff_ne.mpr (by omega)
              have q4 : ((i : Int) < (l.length : Int)) = True := eq_true (by omega)
              have hil : i < l.length := by omega
              obtain ⟨ad0, rfl⟩ : ∃ ad, A1 = some ad := by
                obtain ⟨ad, _, e, _⟩ := Kd.C_get H.out.1 (0, fun _ => false) (i : Int) (by omega) (by omega)
                exact ⟨ad, e⟩
              have hmem : l.getD i (0, fun _ => false) ∈ l := by
                rw [List.getD_eq_getElem?_getD, List.getElem?_eq_getElem (show i < l.length by omega)]
                exact List.getElem_mem _
              have hgd : (l.map RTd).getD i .front = RTd (l.getD i (0, fun _ => false)) := by
                rw [List.getD_eq_getElem?_getD, List.getD_eq_getElem?_getD, List.getElem?_map, List.getElem?_eq_getElem (show i < l.length by omega)]
                rfl
              have HE3 := Aside0.mk (HE2.out.trans (by rw [if_neg (by rw [List.length_map]; exact c3), hgd]))
              have HLD := Aside0.mk (ld_thing (Kd.C_below H.out.1 HS.out.1) (show i < l.length by omega) (0, fun _ => false))
              have HPS := Aside0.mk (rpasses_calls (c := c) (Kd.C_below H.out.2.2.1 HS.out.1) hc H.out.2.2.2 (l.getD i (0, fun _ => false)) (H.out.2.1 _ hmem) (p : Int) ⟨by omega, by omega⟩)
              clear HE2 hmem hgd c1 c2 c3
              generalize l.getD i (0, fun _ => false) = x at HE3 HLD HPS
              have hcase : (ok3 = true ∧ decide (a3 < r) = false) ∨ ok3 = false := by
                cases ok3 with
                | true => exact .inl ⟨rfl, d2 rfl⟩
                | false => exact .inr rfl
              clear d2
              rcases hcase with ⟨rfl, d2⟩ | rfl
              all_goals
                cases hpb : passB line (RTd x) (p : Int) with
                | false =>
                  rw [hpb] at HPS
                  have HP := Aside0.mk (HE3.out.trans (by rw [if_neg (by rw [hpb]; decide)]))
                  clear HE3 hpb
                  go_wp2_with (first
                    | ((with_reducible refine gate_ (.load 103 (.tmp 91)) rfl ?_); refine wpl_ld rfl 103 (.tmp 91) rfl (ad0.add (i * 257)) (.agg (tcells x)) rfl HLD.out ?_)
                    | (go_at_call 76; (with_reducible refine HPS.out.mono ?_); rintro e w4 ⟨rfl, hx⟩; have HS4 := Aside0.mk (HS.out.mv hx); clear hx))
                  go_roundg d3
                  case measure => omega
                  case rel => exact ⟨i + 1, ⟨R3, a3, b3, _, true⟩, rfl, rfl, rfl, rfl, by first | (congr 1; done) | (congr 1; omega), by omega, hR3, ⟨HS4.out, HP.out⟩⟩
                | true =>
                  rw [hpb] at HPS
                  have HP := Aside0.mk (HE3.out.trans (by rw [if_pos hpb]))
                  clear HE3 hpb
                  go_wp2_with (first
                    | ((with_reducible refine gate_ (.load 103 (.tmp 91)) rfl ?_); refine wpl_ld rfl 103 (.tmp 91) rfl (ad0.add (i * 257)) (.agg (tcells x)) rfl HLD.out ?_)
                    | (go_at_call 76; (with_reducible refine HPS.out.mono ?_); rintro e w4 ⟨rfl, hx⟩; have HS4 := Aside0.mk (HS.out.mv hx); have ck4 := HS4.out.cell (k := i) (by omega); rw [HR.out] at ck4; have ck5 := HS4.out.cell (k := i + 1) (by omega); have fk5 := HS4.out.fz (i + 1); clear hx))
                  have q5 : (0 ≤ (i : Int) + 1) = True := eq_true (by omega)
                  have q6 : ((i : Int) + 1 < (l.length : Int) + 1) = True := eq_true (by omega)
                  have t1 : ((i : Int) + 1).toNat = i + 1 := by omega
                  have hii : (i : Int) ≤ 1000 := by omega
                  rw [show ((i + 1 : Nat) : Int) = (i : Int) + 1 from by omega] at ck5
                  generalize hr1 : rd R3 ((i : Int) + 1) = r1 at ck5 HP
                  clear hr1 HR HS HLD HPS ck fk
                  have hw1 : wrap64 ((i : Int) + 1) = (i : Int) + 1 := by unfold wrap64; omega
                  refine start_ (n := 15) (S := fun w' => w'.cell? ⟨g, i + 1, none⟩ = some (.int .i64 r1) ∧ w'.cell? ⟨g, i, none⟩ = some (.int .i64 r)) (ds := [14]) #[false, false, false, false, false, false, false, false, false, false, false, false, false, false, false] (by kernel_rfl) rfl rfl ⟨ck5, ck4⟩ (fun hHeld => ?_)
                  refine pure_ (i := 0) (N := some 96) (v := ?_) (a' := ?_) #[true, false, false, false, false, false, false, false, false, false, false, false, false, false, false] rfl rfl (by kernel_rfl) (fun _ _ _ h => h) (Or.inl ⟨by rfl, ?_⟩) ?_ ?_
                  rotate_left
                  · intro w'
                    go_simp
                    with_reducible rfl
                  rotate_left
                  · simp only [Act.put, List.setIfInBounds_toArray, List.set_cons_zero, List.set_cons_succ, i64_w, i32_w]
                    rfl
                  refine pure_ (i := 1) (N := some 97) (v := ?_) (a' := ?_) #[true, true, false, false, false, false, false, false, false, false, false, false, false, false, false] rfl rfl (by kernel_rfl) (fun _ _ _ h => h) (Or.inl ⟨by rfl, ?_⟩) ?_ ?_
                  rotate_left
                  · intro w'
                    go_simp
                    with_reducible rfl
                  rotate_left
                  · simp only [Act.put, List.setIfInBounds_toArray, List.set_cons_zero, List.set_cons_succ, i64_w, i32_w]
                    rfl
                  refine pure_ (i := 2) (N := some 98) (v := ?_) (a' := ?_) #[true, true, true, false, false, false, false, false, false, false, false, false, false, false, false] rfl rfl (by kernel_rfl) (fun _ _ _ h => h) (Or.inl ⟨by rfl, ?_⟩) ?_ ?_
                  rotate_left
                  · intro w'
                    go_simp
                    with_reducible rfl
                  rotate_left
                  · simp only [Act.put, List.setIfInBounds_toArray, List.set_cons_zero, List.set_cons_succ, i64_w, i32_w]
                    rfl
                  refine pure_ (i := 3) (N := some 99) (v := ?_) (a' := ?_) #[true, true, true, true, false, false, false, false, false, false, false, false, false, false, false] rfl rfl (by kernel_rfl) (fun _ _ _ h => h) (Or.inl ⟨by rfl, ?_⟩) ?_ ?_
                  rotate_left
                  · intro w'
                    go_simp
                    with_reducible rfl
                  rotate_left
                  · simp only [Act.put, List.setIfInBounds_toArray, List.set_cons_zero, List.set_cons_succ, i64_w, i32_w]
                    rfl
                  refine pure_ (i := 4) (N := some 100) (v := ?_) (a' := ?_) #[true, true, true, true, true, false, false, false, false, false, false, false, false, false, false] rfl rfl (by kernel_rfl) (fun _ _ _ h => h) (Or.inl ⟨by rfl, ?_⟩) ?_ ?_
                  rotate_left
                  · intro w'
                    go_simp
                    with_reducible rfl
                  rotate_left
                  · simp only [Act.put, List.setIfInBounds_toArray, List.set_cons_zero, List.set_cons_succ, i64_w, i32_w]
                    rfl
                  refine pure_ (i := 5) (N := some 101) (v := ?_) (a' := ?_) #[true, true, true, true, true, true, false, false, false, false, false, false, false, false, false] rfl rfl (by kernel_rfl) (fun _ _ _ h => h) (Or.inl ⟨by rfl, ?_⟩) ?_ ?_
                  rotate_left
                  · intro w'
                    go_simp
                    with_reducible rfl
                  rotate_left
                  · simp only [Act.put, List.setIfInBounds_toArray, List.set_cons_zero, List.set_cons_succ, i64_w, i32_w]
                    rfl
                  refine pure_ (i := 6) (N := some 102) (v := ?_) (a' := ?_) #[true, true, true, true, true, true, true, false, false, false, false, false, false, false, false] rfl rfl (by kernel_rfl) (fun _ _ _ h => h) (Or.inl ⟨by rfl, ?_⟩) ?_ ?_
                  rotate_left
                  · intro w'
                    go_simp
                    with_reducible rfl
                  rotate_left
                  · simp only [Act.put, List.setIfInBounds_toArray, List.set_cons_zero, List.set_cons_succ, i64_w, i32_w]
                    rfl
                  refine pure_ (i := 8) (N := some 104) (v := ?_) (a' := ?_) #[true, true, true, true, true, true, true, false, true, false, false, false, false, false, false] rfl rfl (by kernel_rfl) (fun _ _ _ h => h) (Or.inl ⟨by rfl, ?_⟩) ?_ ?_
                  rotate_left
                  · intro w'
                    go_simp
                    with_reducible rfl
                  rotate_left
                  · simp only [Act.put, List.setIfInBounds_toArray, List.set_cons_zero, List.set_cons_succ, i64_w, i32_w]
                    rfl
                  refine pure_ (i := 9) (N := some 105) (v := ?_) (a' := ?_) #[true, true, true, true, true, true, true, false, true, true, false, false, false, false, false] rfl rfl (by kernel_rfl) (fun _ _ _ h => h) (Or.inl ⟨by rfl, ?_⟩) ?_ ?_
                  rotate_left
                  · intro w'
                    go_simp
                    with_reducible rfl
                  rotate_left
                  · simp only [Act.put, List.setIfInBounds_toArray, List.set_cons_zero, List.set_cons_succ, i64_w, i32_w]
                    rfl
                  refine pure_ (i := 10) (N := some 106) (v := ?_) (a' := ?_) #[true, true, true, true, true, true, true, false, true, true, true, false, false, false, false] rfl rfl (by kernel_rfl) (fun _ _ _ h => h) (Or.inl ⟨by rfl, ?_⟩) ?_ ?_
                  rotate_left
                  · intro w'
                    go_simp
                    with_reducible rfl
                  rotate_left
                  · simp only [Act.put, List.setIfInBounds_toArray, List.set_cons_zero, List.set_cons_succ, i64_w, i32_w]
                    rfl
                  refine take_ (i := 7) (N := some 103) (v := ?_) (a' := ?_) #[true, true, true, true, true, true, true, true, true, true, true, false, false, false, false] rfl rfl (by kernel_rfl) (fun _ _ _ h => h) (Or.inl ⟨by rfl, ?_⟩) hHeld ?_ ?_
                  rotate_left
                  · rintro w' ⟨s0, s1⟩
                    go_simp
                    with_reducible rfl
                  rotate_left
                  · simp only [Act.put, List.setIfInBounds_toArray, List.set_cons_zero, List.set_cons_succ, i64_w, i32_w]
                    rfl
                  refine take_ (i := 11) (N := some 107) (v := ?_) (a' := ?_) #[true, true, true, true, true, true, true, true, true, true, true, true, false, false, false] rfl rfl (by kernel_rfl) (fun _ _ _ h => h) (Or.inl ⟨by rfl, ?_⟩) hHeld ?_ ?_
                  rotate_left
                  · rintro w' ⟨s0, s1⟩
                    go_simp
                    with_reducible rfl
                  rotate_left
                  · simp only [Act.put, List.setIfInBounds_toArray, List.set_cons_zero, List.set_cons_succ, i64_w, i32_w]
                    rfl
                  refine one_ (i := 12) (N := some 108) #[true, true, true, true, true, true, true, true, true, true, true, true, true, false, false] rfl rfl (by kernel_rfl) (by decide) (fun K hK => ?_)
                  refine goes_ Tryd.func75 (by kernel_rfl) rfl #[.int .i64 r1, .int .i64 r] (by rfl) rfl rfl (by simp only [List.map_toArray, List.map_cons, List.map_nil]; rfl) ?_
                  with_reducible refine (least_calls r1 r _).mono ?_
                  rintro e w5 ⟨rfl, ⟨nd, rfl⟩⟩
                  refine ⟨_, rfl, ?_⟩
                  refine hK.out _ _ ⟨ck5, ck4⟩ (fun hHeld => ?_)
                  clear hK K
                  refine norm_ (a' := ?_) ?_ ?_
                  rotate_left
                  · show Act.put _ (some 108) _ = _
                    simp only [Act.put, List.setIfInBounds_toArray, List.set_cons_zero, List.set_cons_succ, i64_w, i32_w]
                    rfl
                  refine pure_ (i := 13) (N := some 109) (v := ?_) (a' := ?_) #[true, true, true, true, true, true, true, true, true, true, true, true, true, true, false] rfl rfl (by kernel_rfl) (fun _ _ _ h => h) (Or.inl ⟨by rfl, ?_⟩) ?_ ?_
                  rotate_left
                  · intro w'
                    go_simp
                    with_reducible rfl
                  rotate_left
                  · simp only [Act.put, List.setIfInBounds_toArray, List.set_cons_zero, List.set_cons_succ, i64_w, i32_w]
                    rfl
                  refine last_ (i := 14) (N := none) #[true, true, true, true, true, true, true, true, true, true, true, true, true, true, true] rfl rfl (by kernel_rfl) (by decide) (fun K hK => ?_)
                  refine skip_ (w1 := ?_) (by rfl) rfl ?_ ?_
                  rotate_left
                  · go_simp
                    rfl
                  refine hK.out _ _ ?_
                  clear hK K
                  refine done_ (by kernel_rfl) ?_
                  clear hw1
                  go_wp2
                  go_roundg d3
                  case measure => omega
                  case rel => exact ⟨i + 1, ⟨R3.set (i + 1) (leastV r1 r), a3, b3, _, true⟩, rfl, rfl, rfl, rfl, by first | (congr 1; done) | (congr 1; omega), by omega, by simp [hR3], ⟨(HS4.out.drew _).put (i + 1) _, HP.out⟩⟩
end Go.Proofs.YtffpkldphkmjmaaDoor.PT
end
section
namespace Go.Proofs.YtffpkldphkmjmaaDoor.PT
open Go.RowKit Go.Proofs.YtffpkldphkmjmaaDoorW.PrintWords Go.Proofs.YtffpkldphkmjmaaDoorW.PrintMore
set_option linter.unusedVariables false
set_option maxRecDepth 100000
set_option linter.unusedSimpArgs false
/-- What the reference's Find comes to. -/
def rfindV (p line : List Int) (f : Int) : Int × Int × Bool := match (compileV p).1 with
  | some pl => findV line pl f
  | none => (0, 0, false)
set_option maxHeartbeats 4000000 in
set_option maxRecDepth 100000 in
theorem rfind_calls {w : World} {A0 : Option Addr} {c0 : Nat} {p : List Int} {A : Option Addr} {c : Nat} {line : List Int} {f : Int} (hr0 : Kd.C (Kd.int .u8) w A0 p.length p) (hu0 : ∀ i, 0 ≤ rd p i ∧ rd p i ≤ 255)
    (hr : Kd.C (Kd.int .u8) w A line.length line) (hc : line.length ≤ c) (hn : line.length ≤ 1048576) (hu : ∀ i, 0 ≤ rd line i ∧ rd line i ≤ 255) :
    Calls Tryd.prog 41 #[.slice A0 p.length c0, .slice A line.length c, .int .i64 f] w fun e w' => e = .returned (.tuple #[.int .i64 (rfindV p line f).1, .int .i64 (rfindV p line f).2.1, .bool (rfindV p line f).2.2]) ∧ Below w.heap.size w w' := by
  have HT := Aside0.mk (rthings_calls (c := c0) hr0 hu0)
  have HS : ∀ (w' : World) (v : Value) (l : List RT) (pl : List PTh), TH w v l w' → l.length ≤ 257 → l.map RTd = pl → ∃ A1 c1, v = .slice A1 l.length c1 ∧ Aside0 (Calls Tryd.prog 65 #[.slice A1 l.length c1, .slice A line.length c, .int .i64 f] w' fun e w'' => e = .returned (.tuple #[.int .i64 (findV line pl f).1, .int .i64 (findV line pl f).2.1, .bool (findV line pl f).2.2]) ∧ Below w'.heap.size w' w'') := by
    intro w' v l pl h hl hpl
    obtain ⟨A1, c1, rfl⟩ := Kd.R_slice h.2.1
    have h1 := rsearch_calls (c1 := c1) (f := f) (Kd.R_reads' h.2.1).2.2 h.2.2 (by omega) (Kd.C_below hr h.1) hc hn hu
    rw [hpl, search_find] at h1
    exact ⟨A1, c1, rfl, ⟨h1⟩⟩
  clear hr0 hu0 hr hu
  rcases compileV_or p with ⟨pl, hcv⟩ | ⟨a, e, hcv, he⟩
  · have HV := Aside0.mk (show rfindV p line f = findV line pl f by unfold rfindV; rw [hcv])
    rw [hcv] at HT
    clear hcv
    go_enter Tryd.func41, Tryd.ntmps41
    go_wp2_with (first
      | (go_at_call 39; refine HT.out.mono ?_; rintro e w' ⟨v, l, rfl, hx, hl, hpl⟩; obtain ⟨A1, c1, rfl, HS2⟩ := HS w' v l pl hx hl (hpl pl rfl); have H1 := Aside0.mk hx.1; clear hx hl hpl)
      | (go_at_call 65; refine HS2.out.mono ?_; rintro e w2 ⟨rfl, hx⟩; have H2 := Aside0.mk (below_step H1.out hx); clear hx))
    refine bodyPost_ret (v := .tuple #[.int .i64 (findV line pl f).1, .int .i64 (findV line pl f).2.1, .bool (findV line pl f).2.2]) (by simp [results, Tryd.results41, go_sem]) rfl ?_
    rw [HV.out]
    exact ⟨rfl, H2.out⟩
  · have HV := Aside0.mk (show rfindV p line f = (0, 0, false) by unfold rfindV; rw [hcv])
    rw [hcv] at HT
    clear hcv HS
    rcases he with rfl | rfl
    all_goals
      go_enter Tryd.func41, Tryd.ntmps41
      go_wp2_with (go_at_call 39; refine HT.out.mono ?_; rintro e w' ⟨v, l, rfl, hx, _, _⟩; have H1 := Aside0.mk hx.1; clear hx)
      refine bodyPost_ret (v := .tuple #[.int .i64 0, .int .i64 0, .bool false]) (by simp [results, Tryd.results41, go_sem]) rfl ?_
      rw [HV.out]
      exact ⟨rfl, H1.out⟩
end Go.Proofs.YtffpkldphkmjmaaDoor.PT
end
section
namespace Go.Proofs.YtffpkldphkmjmaaDoor.PT
open Go.RowKit Go.Proofs.YtffpkldphkmjmaaDoorW.PrintWords Go.Proofs.YtffpkldphkmjmaaDoorW.PrintMore
set_option linter.unusedVariables false
/-- A line of a text, and where it begins. -/
def Ln (t : List Int) (st : Nat) (line : List Int) : Prop := ∃ pre post, t = pre ++ line ++ post ∧ pre.length = st ∧ (pre = [] ∨ ∃ p, pre = p ++ [10]) ∧ (∀ x ∈ line, x ≠ 10) ∧ (post = [] ∨ ∃ p, post = 10 :: p)
theorem Ln_cons {t line : List Int} {st : Nat} (h : Ln t st line) : Ln (10 :: t) (st + 1) line := by
  obtain ⟨pre, post, h1, h2, h3, h4, h5⟩ := h
  refine ⟨10 :: pre, post, by rw [h1]; simp, by simp [h2], .inr ?_, h4, h5⟩
  rcases h3 with rfl | ⟨p, rfl⟩
  · exact ⟨[], rfl⟩
  · exact ⟨10 :: p, rfl⟩
theorem split_lines (t : List Int) : ∀ i, i < (X.splitR t).length → Ln t (tot ((X.splitR t).take i)) ((X.splitR t).getD i []) := by
  induction t with
  | nil =>
    intro i hi
    have : i = 0 := by simp [X.splitR] at hi; omega
    subst this
    exact ⟨[], [], rfl, rfl, .inl rfl, fun x hx => by simp [X.splitR] at hx, .inl rfl⟩
  | cons x t ih =>
    intro i hi
    by_cases h : x = 10
    · have e : X.splitR (x :: t) = [] :: X.splitR t := by
        conv => lhs; unfold X.splitR
        rw [if_pos h]
      rw [e] at hi ⊢
      subst h
      cases i with
      | zero => exact ⟨[], 10 :: t, rfl, rfl, .inl rfl, (fun x hx => by simp at hx), .inr ⟨t, rfl⟩⟩
      | succ i =>
        have := Ln_cons (ih i (by simpa using hi))
        rw [List.take_succ_cons, tot_cons, List.getD_cons_succ]
        rw [show ([] : List Int).length + 1 + tot ((X.splitR t).take i) = tot ((X.splitR t).take i) + 1 from by simp; omega]
        exact this
    · cases e0 : X.splitR t with
      | nil => exact absurd e0 (X.splitR_ne t)
      | cons p r =>
        have e : X.splitR (x :: t) = (x :: p) :: r := by
          conv => lhs; unfold X.splitR
          rw [if_neg h, e0]
        rw [e] at hi ⊢
        cases i with
        | zero =>
          have h0 := ih 0 (by rw [e0]; simp)
          rw [e0] at h0
          obtain ⟨pre, post, h1, h2, h3, h4, h5⟩ := h0
          have hp : pre = [] := List.eq_nil_of_length_eq_zero (by rw [h2]; rfl)
          subst hp
          refine ⟨[], post, by simp only [List.getD_cons_zero] at h1 ⊢; rw [h1]; simp, rfl, .inl rfl, fun y hy => ?_, h5⟩
          simp only [List.getD_cons_zero] at h4 hy
          rcases List.mem_cons.1 hy with e3 | e3
          · rw [e3]; exact h
          · exact h4 y e3
        | succ i =>
          have h0 := ih (i + 1) (by rw [e0]; simpa using hi)
          rw [e0, List.take_succ_cons, tot_cons, List.getD_cons_succ] at h0
          rw [List.take_succ_cons, tot_cons, List.getD_cons_succ]
          obtain ⟨pre, post, h1, h2, h3, h4, h5⟩ := h0
          refine ⟨x :: pre, post, by rw [h1]; simp, by simp only [List.length_cons, h2]; omega, .inr ?_, h4, h5⟩
          rcases h3 with rfl | ⟨p', rfl⟩
          · simp only [List.length_nil] at h2
            omega
          · exact ⟨x :: p', rfl⟩
theorem rd_mid (pre post : List Int) (b : Int) : rd (pre ++ b :: post) (pre.length : Int) = b := by
  unfold rd
  rw [Int.toNat_natCast, List.getD_eq_getElem?_getD, List.getElem?_append_right (Nat.le_refl _), Nat.sub_self]
  rfl
theorem begin_scan {t line : List Int} {st : Nat} (h : Ln t st line) (hb : t.length ≤ 1000000000000) : ∀ (m k : Nat), m ≤ line.length → m + 1 ≤ k → X.quoinref05_begin.l0 k t ((st + m : Nat) : Int) = some (st : Int) := by
  obtain ⟨pre, post, rfl, rfl, h3, h4, h5⟩ := h
  have hlen : (pre ++ line ++ post).length = pre.length + line.length + post.length := by simp; omega
  intro m
  induction m with
  | zero =>
    intro k _ hk
    obtain ⟨k, rfl⟩ : ∃ k', k = k' + 1 := ⟨k - 1, by omega⟩
    unfold X.quoinref05_begin.l0
    rcases h3 with rfl | ⟨p, rfl⟩
    · rw [if_neg (by simp)]; rfl
    · have e1 : (((p ++ [10]).length + 0 : Nat) : Int) = (p.length : Int) + 1 := by simp
      have hb2 := hb
      rw [hlen, List.length_append, List.length_singleton] at hb2
      have ew : wrap64 ((p.length : Int) + 1 - 1) = (p.length : Int) := by unfold wrap64; omega
      have e2 : rd (p ++ [10] ++ line ++ post) (p.length : Int) = 10 := by
        rw [show p ++ [10] ++ line ++ post = p ++ 10 :: (line ++ post) from by simp]
        exact rd_mid p _ 10
      rw [e1, if_pos (by omega), ew, if_pos (by omega), if_pos (by rw [hlen]; simp; omega), if_pos e2]
      simp
  | succ m ih =>
    intro k hm hk
    obtain ⟨k, rfl⟩ : ∃ k', k = k' + 1 := ⟨k - 1, by omega⟩
    unfold X.quoinref05_begin.l0
    have ew : wrap64 (((pre.length + (m + 1) : Nat) : Int) - 1) = ((pre.length + m : Nat) : Int) := by unfold wrap64; omega
    have e2 : rd (pre ++ line ++ post) ((pre.length + m : Nat) : Int) ≠ 10 := by
      unfold rd
      rw [Int.toNat_natCast, List.append_assoc, List.getD_eq_getElem?_getD, List.getElem?_append_right (by omega), show pre.length + m - pre.length = m from by omega, List.getElem?_append_left (by omega), List.getElem?_eq_getElem (by omega)]
      exact h4 _ (List.getElem_mem _)
    rw [if_pos (by omega), ew, if_pos (by omega), if_pos (by rw [hlen]; omega), if_neg e2]
    exact ih k (by omega) (by omega)
theorem rrest_at {t line : List Int} {st a : Nat} (h : Ln t st line) (ha : a ≤ line.length) (hb : t.length ≤ 1000000000000) (k : Nat) (hk : t.length + 2 ≤ k) : X.quoinref05_Rest.f k t ((st + a : Nat) : Int) = some (restH line.length st a) := by
  have hle : st + line.length ≤ t.length := by
    obtain ⟨pre, post, rfl, rfl, _⟩ := h
    simp
  have hbg := begin_scan h hb a k ha (by omega)
  unfold X.quoinref05_Rest.f X.quoinref05_begin.f
  have e : Go.Proofs.YtffpkldphkmjmaaDoorW.PrintWords.mn (Go.Proofs.YtffpkldphkmjmaaDoorW.PrintWords.mx ((st + a : Nat) : Int) 0) (t.length : Int) = ((st + a : Nat) : Int) := by unfold Go.Proofs.YtffpkldphkmjmaaDoorW.PrintWords.mn Go.Proofs.YtffpkldphkmjmaaDoorW.PrintWords.mx; split <;> split <;> omega
  rw [e, hbg, Option.bind_some]
  have hch : st + a < t.length → (rd t ((st + a : Nat) : Int) = 10 ↔ a = line.length) := by
    obtain ⟨pre, post, rfl, rfl, h3, h4, h5⟩ := h
    intro hlt
    unfold rd
    rw [Int.toNat_natCast, List.append_assoc, List.getD_eq_getElem?_getD, List.getElem?_append_right (by omega), show pre.length + a - pre.length = a from by omega]
    by_cases he : a = line.length
    · rw [List.getElem?_append_right (by omega), he, Nat.sub_self]
      rcases h5 with rfl | ⟨p, rfl⟩
      · simp at hlt; omega
      · simp
    · rw [List.getElem?_append_left (by omega), List.getElem?_eq_getElem (by omega)]
      constructor
      · intro e; exact absurd e (h4 _ (List.getElem_mem _))
      · intro e; exact absurd e he
  have hfin : (if ((st + a : Nat) : Int) = (st : Int) then some ((st + a : Nat) : Int) else some (wrap64 (((st + a : Nat) : Int) - 1))) = some (if 0 < a then (st : Int) + a - 1 else (st : Int) + a) := by
    by_cases h0 : 0 < a
    · rw [if_neg (by omega), if_pos h0]
      congr 1
      unfold wrap64; omega
    · rw [if_pos (by omega), if_neg h0]
      congr 1
  rw [hfin]
  unfold restH
  by_cases hlt : st + a < t.length
  · rw [if_pos (by omega), if_pos (by omega)]
    by_cases he : a = line.length
    · rw [if_pos ((hch hlt).2 he)]
      by_cases h0 : 0 < a
      · rw [if_pos h0, if_pos ⟨he, h0⟩]
      · rw [if_neg h0, if_neg (fun h => h0 h.2)]
    · rw [if_neg (fun e => he ((hch hlt).1 e)), if_neg (fun h => he h.1)]
      congr 1
  · have he : a = line.length := by omega
    rw [if_neg (by omega)]
    by_cases h0 : 0 < a
    · rw [if_pos h0, if_pos ⟨he, h0⟩]
    · rw [if_neg h0, if_neg (fun h => h0 h.2)]
theorem split_end {cur : List Int} (h : ∀ x ∈ cur, x ≠ 10) : X.splitR cur = [cur] := by
  induction cur with
  | nil => rfl
  | cons x cur ih =>
    unfold X.splitR
    rw [if_neg (h x (by simp)), ih (fun y hy => h y (by simp [hy]))]
theorem split_mid {cur q : List Int} (h : ∀ x ∈ cur, x ≠ 10) : X.splitR (cur ++ 10 :: q) = cur :: X.splitR q := by
  induction cur with
  | nil =>
    show X.splitR (10 :: q) = _
    conv => lhs; unfold X.splitR
    rw [if_pos rfl]
  | cons x cur ih =>
    show X.splitR (x :: (cur ++ 10 :: q)) = _
    conv => lhs; unfold X.splitR
    rw [if_neg (h x (by simp)), ih (fun y hy => h y (by simp [hy]))]
theorem rsplit_scan {t : List Int} (hb : t.length ≤ 1000000000000) : ∀ (d s i k : Nat) (acc : List (List Int)), i + d = t.length → s ≤ i → d + 2 ≤ k → acc.length ≤ i → (∀ x ∈ (t.take i).drop s, x ≠ 10) → X.quoinref05_Split.l0 k t acc (s : Int) (i : Int) = some (acc ++ X.splitR (t.drop s)) := by
  intro d
  induction d with
  | zero =>
    intro s i k acc hi hs hk hal hno
    obtain ⟨k, rfl⟩ : ∃ k', k = k' + 2 := ⟨k - 2, by omega⟩
    have hie : i = t.length := by omega
    subst hie
    have hl1 : ((t.take t.length).drop s).length ≤ t.length := by rw [List.length_drop, List.length_take]; omega
    rw [List.take_length] at hno hl1
    have ew : wrap64 ((t.length : Int) + 1) = (t.length : Int) + 1 := by unfold wrap64; omega
    unfold X.quoinref05_Split.l0
    simp only [Int.toNat_natCast, List.take_length]
    rw [if_pos (by omega), if_pos True.intro, Option.bind_some, if_pos (by omega), if_pos (by omega), if_pos (by simp at hl1 ⊢; omega), if_pos (by omega), ew]
    unfold X.quoinref05_Split.l0
    rw [if_neg (by omega), List.nil_append, split_end hno]
  | succ d ih =>
    intro s i k acc hi hs hk hal hno
    obtain ⟨k, rfl⟩ : ∃ k', k = k' + 1 := ⟨k - 1, by omega⟩
    have hlt : i < t.length := by omega
    have hl1 : ((t.take i).drop s).length ≤ i := by rw [List.length_drop, List.length_take]; omega
    have ew : wrap64 ((i : Int) + 1) = ((i + 1 : Nat) : Int) := by unfold wrap64; omega
    have hti : t.drop s = (t.take i).drop s ++ t.drop i := by
      conv => lhs; rw [← List.take_append_drop i t]
      rw [List.drop_append_of_le_length (by rw [List.length_take]; omega)]
    have hdi : t.drop i = t[i] :: t.drop (i + 1) := List.drop_eq_getElem_cons hlt
    have hrd : rd t (i : Int) = t[i] := by unfold rd; rw [Int.toNat_natCast, List.getD_eq_getElem?_getD, List.getElem?_eq_getElem hlt]; rfl
    unfold X.quoinref05_Split.l0
    simp only [Int.toNat_natCast]
    rw [if_pos (by omega), if_neg (by omega), if_pos (by omega), if_pos (by omega)]
    by_cases h10 : rd t (i : Int) = 10
    · rw [if_pos h10, Option.bind_some, if_pos (by omega), if_pos (by omega), if_pos (by simp at hl1 ⊢; omega), if_pos (by omega), ew]
      rw [ih (i + 1) (i + 1) k _ (by omega) (Nat.le_refl _) (by omega) (by rw [List.length_append, List.length_singleton]; omega) (fun x hx => by
        rw [List.drop_eq_nil_of_le (by rw [List.length_take]; omega)] at hx
        cases hx)]
      rw [hti, hdi, ← hrd, h10, split_mid hno]
      simp
    · rw [if_neg h10, ew]
      refine ih s (i + 1) k acc (by omega) (by omega) (by omega) (by omega) (fun x hx => ?_)
      rw [show t.take (i + 1) = t.take i ++ [t[i]] from by rw [List.take_add_one, List.getElem?_eq_getElem hlt]; rfl, List.drop_append_of_le_length (by rw [List.length_take]; omega)] at hx
      rcases List.mem_append.1 hx with h | h
      · exact hno x h
      · rw [List.mem_singleton.1 h, ← hrd]; exact h10
theorem rsplit_all {t : List Int} (hb : t.length ≤ 1000000000000) : X.quoinref05_Split.f (t.length + 2) t = some (X.splitR t) := by
  have h := rsplit_scan hb t.length 0 0 (t.length + 2) [] (by omega) (Nat.le_refl _) (Nat.le_refl _) (Nat.le_refl _) (fun x hx => by simp at hx)
  rw [List.drop_zero, List.nil_append] at h
  exact h
theorem push_mem0 (acc : List Int) (x y : Int) : y ∈ push acc x ↔ y ∈ acc ∨ y = x := by
  unfold push
  split
  · simp
  · rename_i h
    constructor
    · exact .inl
    · rintro (h1 | rfl)
      · exact h1
      · have h2 : acc ≠ [] := fun e => h (.inl e)
        have h3 : rd acc ((acc.length : Int) - 1) = y := by
          by_cases e : rd acc ((acc.length : Int) - 1) = y
          · exact e
          · exact absurd (.inr e) h
        have h0 := List.length_pos_iff.2 h2
        rw [← h3]
        unfold rd
        rw [show ((acc.length : Int) - 1).toNat = acc.length - 1 from by omega, List.getD_eq_getElem?_getD, List.getElem?_eq_getElem (by omega)]
        exact List.getElem_mem _
/-- How many of the first k are at most p; are below p. -/
def uptoN (l : List Int) (p : Int) : Nat → Nat
  | 0 => 0
  | k + 1 => uptoN l p k + (if rd l k ≤ p then 1 else 0)
def belowN (l : List Int) (p : Int) : Nat → Nat
  | 0 => 0
  | k + 1 => belowN l p k + (if rd l k < p then 1 else 0)
theorem upto_spec {l : List Int} (h : l.Pairwise (· < ·)) (p : Int) : ∀ k, k ≤ l.length → uptoN l p k ≤ k ∧ ∀ j, j < k → (rd l (j : Int) ≤ p ↔ j < uptoN l p k) := by
  intro k
  induction k with
  | zero => intro _; exact ⟨Nat.le_refl _, fun j hj => by omega⟩
  | succ k ih =>
    intro hk
    obtain ⟨h1, h2⟩ := ih (by omega)
    unfold uptoN
    by_cases hp : rd l (k : Int) ≤ p
    · rw [if_pos hp]
      have hall : uptoN l p k = k := by
        rcases Nat.eq_zero_or_pos k with h0 | h0
        · omega
        · have := inc_lt h (show k - 1 < k by omega) (by omega)
          have := (h2 (k - 1) (by omega)).1 (by omega)
          omega
      refine ⟨by omega, fun j hj => ⟨fun _ => by omega, fun _ => ?_⟩⟩
      rcases Nat.lt_or_ge j k with hjk | hjk
      · exact (h2 j hjk).2 (by omega)
      · rw [show j = k from by omega]; exact hp
    · rw [if_neg hp]
      refine ⟨by omega, fun j hj => ?_⟩
      rcases Nat.lt_or_ge j k with hjk | hjk
      · rw [h2 j hjk]; omega
      · rw [show j = k from by omega]
        exact ⟨fun e => absurd e hp, fun e => by omega⟩
theorem below_spec {l : List Int} (h : l.Pairwise (· < ·)) (p : Int) : ∀ k, k ≤ l.length → belowN l p k ≤ k ∧ ∀ j, j < k → (rd l (j : Int) < p ↔ j < belowN l p k) := by
  intro k
  induction k with
  | zero => intro _; exact ⟨Nat.le_refl _, fun j hj => by omega⟩
  | succ k ih =>
    intro hk
    obtain ⟨h1, h2⟩ := ih (by omega)
    unfold belowN
    by_cases hp : rd l (k : Int) < p
    · rw [if_pos hp]
      have hall : belowN l p k = k := by
        rcases Nat.eq_zero_or_pos k with h0 | h0
        · omega
        · have := inc_lt h (show k - 1 < k by omega) (by omega)
          have := (h2 (k - 1) (by omega)).1 (by omega)
          omega
      refine ⟨by omega, fun j hj => ⟨fun _ => by omega, fun _ => ?_⟩⟩
      rcases Nat.lt_or_ge j k with hjk | hjk
      · exact (h2 j hjk).2 (by omega)
      · rw [show j = k from by omega]; exact hp
    · rw [if_neg hp]
      refine ⟨by omega, fun j hj => ?_⟩
      rcases Nat.lt_or_ge j k with hjk | hjk
      · rw [h2 j hjk]; omega
      · rw [show j = k from by omega]
        exact ⟨fun e => absurd e hp, fun e => by omega⟩
theorem fI_upto {l : List Int} (h : l.Pairwise (· < ·)) (hl : l ≠ []) (p : Int) : fI l p l.length = if uptoN l p l.length < l.length then uptoN l p l.length else 0 := by
  have hs := fI_spec l p l.length (Nat.le_refl _)
  rw [Nat.sub_self] at hs
  obtain ⟨h1, h2⟩ := upto_spec h p l.length (Nat.le_refl _)
  have h0 := List.length_pos_iff.2 hl
  rcases hs with ⟨h3, h4⟩ | ⟨_, h4, h5, h6⟩
  · have := (h2 (l.length - 1) (by omega)).1 (h3 _ (by omega) (by omega))
    rw [if_neg (by omega), h4]
  · have h7 := h2 _ h4
    rcases Nat.lt_trichotomy (fI l p l.length) (uptoN l p l.length) with h8 | h8 | h8
    · have := h7.2 h8; omega
    · rw [if_pos (by omega), h8]
    · have := (h2 (uptoN l p l.length) (by omega)).1 (h6 _ (by omega) h8)
      omega
theorem bI_below {l : List Int} (h : l.Pairwise (· < ·)) (hl : l ≠ []) (p : Int) : bI l p l.length = if 0 < belowN l p l.length then belowN l p l.length - 1 else l.length - 1 := by
  have hs := bI_spec l p l.length (Nat.le_refl _)
  obtain ⟨h1, h2⟩ := below_spec h p l.length (Nat.le_refl _)
  have h0 := List.length_pos_iff.2 hl
  rcases hs with ⟨h3, h4⟩ | ⟨h4, h5, h6⟩
  · have : ¬ 0 < belowN l p l.length := fun e => by
      have := (h2 0 h0).2 e
      have := h3 0 h0
      omega
    rw [if_neg this, h4]
  · have h7 := (h2 _ h4).1 h5
    rw [if_pos (by omega)]
    rcases Nat.lt_or_ge (bI l p l.length) (belowN l p l.length - 1) with h8 | h8
    · have := h6 (belowN l p l.length - 1) h8 (by omega)
      have := (h2 (belowN l p l.length - 1) (by omega)).2 (by omega)
      omega
    · omega
/-- The reference's sums pick the same. -/
theorem pick_upto {l : List Int} (h : l.Pairwise (· < ·)) (hl : l ≠ []) (p : Int) {c : Nat} (hc : 1 ≤ c) : pickI l p c false = (uptoN l p l.length + c - 1) % l.length := by
  unfold pickI
  rw [if_neg (show ¬ (false = true) by simp), fI_upto h hl, more_pos hc, if_neg (show ¬ (false = true) by simp)]
  have h1 := (upto_spec h p l.length (Nat.le_refl _)).1
  rw [show uptoN l p l.length + c - 1 = uptoN l p l.length + (c - 1) from by omega]
  by_cases hu : uptoN l p l.length < l.length
  · rw [if_pos hu, Nat.add_mod_mod]
  · rw [if_neg hu, Nat.zero_add, Nat.mod_mod, show uptoN l p l.length = l.length from by omega, Nat.add_mod_left]
theorem tmod_pos {x : Int} {n : Nat} (hn : 0 < n) : (x.tmod n + n).tmod n = x % (n : Int) := by
  have h1 := Int.tmod_lt_of_pos x (show (0 : Int) < n by omega)
  have h2 : -(n : Int) < x.tmod n := by
    have := Int.lt_tmod_of_pos x (show (0 : Int) < n by omega)
    exact this
  rw [Int.tmod_eq_emod_of_nonneg (by omega), Int.add_emod_right]
  have h3 := Int.tmod_add_mul_tdiv x n
  have h4 : x.tmod n = x - n * x.tdiv n := by omega
  rw [h4, Int.sub_mul_emod_self_left]
theorem pick_below {l : List Int} (h : l.Pairwise (· < ·)) (hl : l ≠ []) (p : Int) {c : Nat} (hc : 1 ≤ c) : (pickI l p c true : Int) = (((belowN l p l.length : Int) - c).tmod l.length + l.length).tmod l.length := by
  have h0 := List.length_pos_iff.2 hl
  rw [tmod_pos h0]
  unfold pickI
  rw [if_pos rfl, bI_below h hl, more_pos hc, if_pos rfl]
  have hq := Nat.mod_lt (c - 1) h0
  have hd := Nat.mod_add_div (c - 1) l.length
  generalize (c - 1) % l.length = q at hq hd ⊢
  generalize (c - 1) / l.length = u at hd
  have h1 := (below_spec h p l.length (Nat.le_refl _)).1
  generalize belowN l p l.length = B at h1 ⊢
  generalize l.length = n at h0 hq hd h1 ⊢
  have hcc : (c : Int) = 1 + q + n * u := by
    have : (c : Int) - 1 = q + n * u := by
      have h2 : ((c - 1 : Nat) : Int) = ((q + n * u : Nat) : Int) := by rw [hd]
      rw [Int.natCast_add, Int.natCast_mul] at h2
      omega
    omega
  by_cases hB : 0 < B
  · rw [if_pos hB]
    rw [show ((B : Int) - c) = ((B - 1 + (n - q) : Nat) : Int) - n * (u + 1) from by rw [hcc, Int.mul_add]; omega, Int.sub_mul_emod_self_left]
    rfl
  · rw [if_neg hB]
    rw [show ((B : Int) - c) = ((n - 1 + (n - q) : Nat) : Int) - n * (u + 2) from by rw [hcc, Int.mul_add]; omega, Int.sub_mul_emod_self_left]
    rfl
end Go.Proofs.YtffpkldphkmjmaaDoor.PT
end
section
namespace Go.Proofs.YtffpkldphkmjmaaDoor.PT
open Go.RowKit Go.Proofs.YtffpkldphkmjmaaDoorW.PrintWords Go.Proofs.YtffpkldphkmjmaaDoorW.PrintMore
set_option linter.unusedVariables false
theorem rrest_calls {w : World} {A : Option Addr} {c : Nat} {t line : List Int} {st a : Nat} (hr : Kd.C (Kd.int .u8) w A t.length t) (hc : t.length ≤ c) (h : Ln t st line) (ha : a ≤ line.length) (hb : t.length ≤ 1000000000000) :
    Calls Tryd.prog 42 #[.slice A t.length c, .int .i64 ((st : Int) + (a : Int))] w fun e w' => e = .returned (.int .i64 (restH line.length st a)) ∧ Below w.heap.size w w' := by
  have h1 := X.quoinref05_Rest.calls (t.length + 2) A c t ((st + a : Nat) : Int) _ w hr hc (rrest_at h ha hb _ (Nat.le_refl _))
  rw [Int.natCast_add] at h1
  exact h1
/-- What is known of the hits within a line. -/
def InL (line : List Int) (st f : Nat) (ac : List Int) : Prop := ac.Pairwise (· < ·) ∧ (∀ x ∈ ac, ∀ a, f ≤ a → a ≤ line.length → x ≤ restH line.length st a) ∧ ∀ x ∈ ac, 0 ≤ x ∧ x < (st : Int) + line.length + 1
theorem inL_start {acc : List Int} {st : Nat} (line : List Int) (h1 : acc.Pairwise (· < ·)) (h2 : ∀ x ∈ acc, 0 ≤ x ∧ x < (st : Int)) : InL line st 0 acc :=
  ⟨h1, fun x hx a _ ha => by have := h2 x hx; have := (restH_le line.length st a ha).2; omega, fun x hx => by have := h2 x hx; omega⟩
theorem inL_push {line ac : List Int} {st f a : Nat} (h : InL line st f ac) (hf : f ≤ a) (ha : a ≤ line.length) : InL line st (a + 1) (push ac (restH line.length st a)) := by
  obtain ⟨h1, h2, h3⟩ := h
  obtain ⟨p1, p2⟩ := push_inc h1 (fun y hy => h2 y hy a hf ha)
  refine ⟨p1, fun x hx b hb1 hb2 => Int.le_trans (p2 x hx) (restH_mono (by omega) hb2), fun x hx => ?_⟩
  have hr := restH_le line.length st a ha
  rcases (push_mem0 ac _ x).1 hx with e | e
  · exact h3 x e
  · omega
/-- The three ways of a push. -/
theorem inL_ways {line ac : List Int} {st f a : Nat} (h : InL line st f ac) (hf : f ≤ a) (ha : a ≤ line.length) : (ac = [] ∧ push ac (restH line.length st a) = ac ++ [restH line.length st a]) ∨ (∃ n, ac.length = n + 1 ∧ rd ac (n : Int) < restH line.length st a ∧ push ac (restH line.length st a) = ac ++ [restH line.length st a]) ∨ (∃ n, ac.length = n + 1 ∧ ¬ rd ac (n : Int) < restH line.length st a ∧ push ac (restH line.length st a) = ac) := by
  unfold push
  cases e : ac.length with
  | zero => exact .inl ⟨List.eq_nil_of_length_eq_zero e, if_pos (.inl (List.eq_nil_of_length_eq_zero e))⟩
  | succ n =>
    have hne : ac ≠ [] := by intro h; rw [h] at e; cases e
    have hle : rd ac (n : Int) ≤ restH line.length st a := h.2.1 _ (by
      unfold rd
      rw [Int.toNat_natCast, List.getD_eq_getElem?_getD, List.getElem?_eq_getElem (by omega)]
      exact List.getElem_mem _) a hf ha
    rw [show (((n + 1 : Nat) : Int) - 1) = (n : Int) from by omega]
    by_cases e2 : rd ac (n : Int) = restH line.length st a
    · exact .inr (.inr ⟨n, rfl, by omega, if_neg (fun h => h.elim hne (fun h => h e2))⟩)
    · exact .inr (.inl ⟨n, rfl, by omega, if_pos (.inr e2)⟩)
set_option maxHeartbeats 4000000 in
set_option maxRecDepth 100000 in
theorem rhits_calls {w : World} {A AP : Option Addr} {c cp np : Nat} {t : List Int} {pl : List PTh} (hr : Kd.C (Kd.int .u8) w A t.length t) (hu : ∀ i, 0 ≤ rd t i ∧ rd t i ≤ 255)
    (hn : t.length ≤ 1000000000000) (hc : t.length ≤ c)
    (HF0 : ∀ W, Below w.heap.size w W → ∀ (A' : Option Addr) (c' : Nat) (line : List Int) (f : Int), Kd.C (Kd.int .u8) W A' line.length line → line.length ≤ c' → line.length ≤ t.length → (∀ j, 0 ≤ rd line j ∧ rd line j ≤ 255) → Calls Tryd.prog 41 #[.slice AP np cp, .slice A' line.length c', .int .i64 f] W fun e w' => e = .returned (.tuple #[.int .i64 (findV line pl f).1, .int .i64 (findV line pl f).2.1, .bool (findV line pl f).2.2]) ∧ Below W.heap.size W w') :
    Calls Tryd.prog 26 #[.slice A t.length c, .slice AP np cp] w fun e w' => ∃ v, e = .returned v ∧ Below w.heap.size w w' ∧ (Kd.int .i64).R 3 w' w.heap.size (fun _ => True) v (hitsV t pl) := by
  have HSP := Aside0.mk (X.quoinref05_Split.calls (t.length + 2) A c t (X.splitR t) w hr hc (rsplit_all hn))
  have HFD : Aside0 _ := ⟨HF0⟩
  have HRS : Aside0 (∀ W, Below w.heap.size w W → ∀ (line : List Int) (st a : Nat), Ln t st line → a ≤ line.length → Calls Tryd.prog 42 #[.slice A t.length c, .int .i64 ((st : Int) + (a : Int))] W fun e w' => e = .returned (.int .i64 (restH line.length st a)) ∧ Below W.heap.size W w') := ⟨fun W h line st a h1 h2 => rrest_calls (Kd.C_below hr h) hc h1 h2 hn⟩
  clear HF0
  have htot := tot_split t
  have hby := split_bytes (P := fun x => 0 ≤ x ∧ x ≤ 255) t (mem_rd t hu)
  have HLN := Aside0.mk (split_lines t)
  have hrl := tot_len (X.splitR t)
  have HV := Aside0.mk (show linesH pl (X.splitR t) 0 [] = hitsV t pl from rfl)
  generalize hitsV t pl = out at HV
  generalize X.splitR t = rows at HSP htot hby HV hrl HLN
  have HBY := Aside0.mk hby
  clear hby hr hu
  go_enter Tryd.func26, Tryd.ntmps26
  go_wp2_with (go_at_call 40; (with_reducible refine HSP.out.mono ?_); rintro e W1 ⟨vs, rfl, hx1, hx2⟩; have HS := Aside0.mk (And.intro hx1 hx2); clear hx1 hx2; obtain ⟨AS, cS, eS⟩ := Kd.R_slice (Kd.S_R HS.out.1); subst eS)
  have HK := Aside0.mk (Kd.R_reads' (Kd.S_R HS.out.1)).2.2
  have HUP : Aside0 (∀ W, Below W1.heap.size W1 W → Below w.heap.size w W) := ⟨fun W h => HS.out.2.trans (h.mono HS.out.2.size)⟩
  go_loopg [5, 7, 8] rows.length (fun g v5 v7 v8 wl => ∃ (i st : Nat) (acc : List Int), i + g = rows.length ∧ v8 = .int .i64 i ∧ v7 = .int .i64 st ∧ acc.length ≤ st ∧ st + tot (rows.drop i) = t.length + 1 ∧ Aside0 (Below W1.heap.size W1 wl ∧ (Kd.int .i64).R 3 wl W1.heap.size (fun _ => True) v5 acc ∧ linesH pl (rows.drop i) st acc = out ∧ st = tot (rows.take i) ∧ acc.Pairwise (· < ·) ∧ ∀ x ∈ acc, 0 ≤ x ∧ x < (st : Int)))
  case atStart => exact ⟨0, 0, [], by omega, rfl, rfl, by simp, by simpa using htot, ⟨Below.refl _ _, Kd.R_nil _ _ _ _ _, HV.out, rfl, List.Pairwise.nil, fun x hx => by cases hx⟩⟩
  case round =>
    obtain ⟨i, st, acc, hi, rfl, rfl, hal, hst, HA⟩ := hrel
    clear HV HSP
    obtain ⟨A5, c5, e5⟩ := Kd.R_slice HA.out.2.1
    subst e5
    cases gk with
    | zero =>
      have hie : i = rows.length := by omega
      have HE := Aside0.mk (show acc = out by have h := HA.out.2.2.1; rw [List.drop_eq_nil_of_le (by omega)] at h; exact h)
      subst hie
      go_wp2
      exact bodyPost_ret (v := .slice A5 acc.length c5) (by simp [results, Tryd.results26, go_sem]) rfl ⟨_, rfl, HS.out.2.trans (HA.out.1.mono HS.out.2.size), by rw [← HE.out]; exact Kd.R_lower HA.out.2.1 HS.out.2.size⟩
    | succ g =>
      have hlt : i < rows.length := by omega
      obtain ⟨ad, A', c', rfl, hx, hlc, hC⟩ := line_of HK.out hlt
      have HX0 := Aside0.mk hx
      replace hx := pw_cell_below HA.out.1 hx
      have HB := Aside0.mk (show ∀ j, 0 ≤ rd (rows.getD i []) j ∧ rd (rows.getD i []) j ≤ 255 by
        intro j
        refine rd_mem (P := fun x => 0 ≤ x ∧ x ≤ 255) _ (HBY.out _ ?_) (by decide) j
        rw [List.getD_eq_getElem?_getD, List.getElem?_eq_getElem hlt]
        exact List.getElem_mem hlt)
      have hdr : rows.drop i = rows.getD i [] :: rows.drop (i + 1) := by
        rw [List.getD_eq_getElem?_getD, List.getElem?_eq_getElem hlt]
        exact List.drop_eq_getElem_cons hlt
      have htk : rows.take (i + 1) = rows.take i ++ [rows.getD i []] := by
        rw [List.take_add_one, List.getD_eq_getElem?_getD, List.getElem?_eq_getElem hlt]; rfl
      have HST := Aside0.mk (show st + (rows.getD i []).length + 1 = tot (rows.take (i + 1)) by rw [htk]; have := HA.out.2.2.2.1; simp only [tot, List.map_append, List.sum_append, List.map_cons, List.map_nil, List.sum_cons, List.sum_nil] at this ⊢; omega)
      have HL1 := Aside0.mk (HLN.out i hlt)
      rw [← HA.out.2.2.2.1] at HL1
      have HIN := Aside0.mk (inL_start (rows.getD i []) HA.out.2.2.2.2.1 HA.out.2.2.2.2.2)
      rw [hdr, tot_cons] at hst
      have HN := Aside0.mk (show linesH pl (rows.drop (i + 1)) (st + (rows.getD i []).length + 1) (lineH (rows.getD i []) pl st ((rows.getD i []).length + 2) 0 acc) = out by have h := HA.out.2.2.1; rw [hdr] at h; exact h)
      generalize rows.getD i [] = line at hx HX0 hlc hC HB HN hst HST HL1 HIN
      have HC := Aside0.mk hC
      clear hC hdr htk
      have q1 : decide ((i : Int) < (rows.length : Int)) = true := decide_eq_true (by omega)
      have q2 : (0 ≤ (i : Int)) = True := eq_true (by omega)
      have q3 : ((i : Int) < (rows.length : Int)) = True := eq_true (by omega)
      go_wp2
      go_loopg [5, 9] (line.length + 2) (fun g2 v5 v9 wl => ∃ (f : Nat) (ac : List Int), line.length + 2 ≤ f + g2 ∧ f ≤ line.length + 1 ∧ v9 = .int .i64 f ∧ ac.length ≤ st + f ∧ Aside0 (Below W1.heap.size W1 wl ∧ (Kd.int .i64).R 3 wl W1.heap.size (fun _ => True) v5 ac ∧ linesH pl (rows.drop (i + 1)) (st + line.length + 1) (lineH line pl st g2 f ac) = out ∧ InL line st f ac))
      case atStart => exact ⟨0, acc, by omega, by omega, rfl, by omega, ⟨HA.out.1, HA.out.2.1, HN.out, HIN.out⟩⟩
      case round =>
        obtain ⟨f, ac, hf1, hf2, rfl, hl, HL⟩ := hrel
        clear hx
        have hx := pw_cell_below HL.out.1 HX0.out
        clear HA HN HIN
        obtain ⟨d, rfl⟩ : ∃ d, gk = d + 1 := ⟨gk - 1, by omega⟩
        have HF := Aside0.mk (HFD.out _ (HUP.out _ HL.out.1) A' c' line (f : Int) (Kd.C_below HC.out HL.out.1) hlc (by omega) HB.out)
        have hsp := find_spec line pl f
        have HD := Aside0.mk (show lineH line pl st (d + 1) f ac = if (findV line pl f).2.2 = true then lineH line pl st d ((findV line pl f).1.toNat + 1) (push ac (restH line.length st (findV line pl f).1.toNat)) else ac from rfl)
        have HO := Aside0.mk HL.out.2.2.1
        rw [HD.out] at HO
        clear HD
        generalize findV line pl (f : Int) = r at HF hsp HO
        obtain ⟨r1, r2, r3⟩ := r
        simp only at hsp HO HF
        obtain ⟨A5, c5, e5⟩ := Kd.R_slice HL.out.2.1
        subst e5
        by_cases hfl : f ≤ line.length
        case neg =>
          have hfe : (r3 = true) = False := eq_false (fun e => by have := hsp.1 e; omega)
          have q4 : ((f : Int) ≤ (line.length : Int)) = False := eq_false (by omega)
          rw [if_neg (by rw [hfe]; exact id)] at HO
          clear hsp hfe HF
          go_wp2
          go_roundg g
          case measure => omega
          case rel => exact ⟨i + 1, st + line.length + 1, ac, by omega, by go_num, by go_num, by omega, by omega, ⟨HL.out.1, HL.out.2.1, HO.out, HST.out, HL.out.2.2.2.1, fun x hx => by have := HL.out.2.2.2.2.2 x hx; omega⟩⟩
        have q4 : ((f : Int) ≤ (line.length : Int)) = True := eq_true (by omega)
        cases r3 with
        | false =>
          rw [if_neg (by simp)] at HO
          clear hsp
          go_wp2_with (go_at_call 41; (with_reducible refine HF.out.mono ?_); rintro e w2 ⟨rfl, hx2⟩; have HX := Aside0.mk hx2; have hx9 := pw_cell_below hx2 hx; clear hx2)
          go_roundg g
          case measure => omega
          case rel => exact ⟨i + 1, st + line.length + 1, ac, by omega, by go_num, by go_num, by omega, by omega, ⟨below_step HL.out.1 HX.out, Kd.R_below HL.out.2.1 HX.out, HO.out, HST.out, HL.out.2.2.2.1, fun x hx => by have := HL.out.2.2.2.2.2 x hx; omega⟩⟩
        | true =>
          obtain ⟨h0, h1, h2, h3, _⟩ := hsp.1 rfl
          clear hsp
          obtain ⟨a, rfl⟩ : ∃ a : Nat, r1 = (a : Int) := ⟨r1.toNat, by omega⟩
          rw [if_pos rfl, Int.toNat_natCast] at HO
          have hp := inL_ways HL.out.2.2.2 (show f ≤ a by omega) (show a ≤ line.length by omega)
          have HIL := Aside0.mk (inL_push HL.out.2.2.2 (show f ≤ a by omega) (show a ≤ line.length by omega))
          have HRT : Aside0 _ := ⟨fun W h => HRS.out W h line st a HL1.out (by omega)⟩
          generalize push ac (restH line.length st a) = ac' at HO hp HIL
          generalize restH line.length st a = x at HO hp HRT
          rcases hp with ⟨rfl, rfl⟩ | ⟨n, hn5, hne, rfl⟩ | ⟨n, hn5, hne, hq⟩
          · go_wp2_with (first
              | (go_at_call 41; (with_reducible refine HF.out.mono ?_); rintro e w2 ⟨rfl, hx2⟩; have HL2 := Aside0.mk (And.intro (below_step HL.out.1 hx2) (Kd.R_below HL.out.2.1 hx2)); clear hx2)
              | (go_at_call 42; (with_reducible refine (HRT.out _ (HUP.out _ HL2.out.1)).mono ?_); rintro e w3 ⟨rfl, hx2⟩; have HL3 := Aside0.mk (And.intro (below_step HL2.out.1 hx2) (Kd.R_below HL2.out.2 hx2)); clear hx2)
              | (at_builtin; refine Kd.R_append (Kd.int .i64) (w0 := W1) W1.heap.size rfl (.tmp 62) (.tmp 64) 47 3 (.int .i64 0) 8 rfl Tryd.underlying47 infoI rfl (by decide) (by decide) (.slice A5 0 c5) [] x [.int .i64 x] (fun _ => True) (fun _ => False) rfl rfl rfl (fun _ hk => hk.elim) (fun _ _ => trivial) HL3.out.2 HL3.out.1 HL3.out.1.size (by first | omega | (simp only [List.length_nil]; omega)) ?_; intro v1 w1 hR hB hG hat; have HG := Aside0.mk (And.intro hB hR); clear hR hB hG hat))
            go_roundg d
            case measure => omega
            case rel => exact ⟨a + 1, [] ++ [x], by omega, by omega, by go_num, by simp only [List.nil_append, List.length_singleton]; omega, ⟨HG.out.1, HG.out.2, HO.out, HIL.out⟩⟩
          · obtain ⟨ad5, rfl, hc5⟩ := Kd.at_int (Kd.R_reads' HL.out.2.1).2.2 (n : Int) (by omega) (by omega)
            rw [Int.toNat_natCast] at hc5
            rw [hn5]
            have q12 : (0 ≤ (n : Int)) = True := eq_true (by omega)
            have q13 : ((n : Int) < (n : Int) + 1) = True := eq_true (by omega)
            have q14 : (((n : Int) + 1) = 0) = False := eq_false (by omega)
            have q15 : ((n + 1 : Nat) = 0) = False := eq_false (by omega)
            generalize rd ac (n : Int) = y at hc5 hne
            have q16 : (y < x) = True := eq_true hne
            go_wp2_with (first
              | (go_at_call 41; (with_reducible refine HF.out.mono ?_); rintro e w2 ⟨rfl, hx2⟩; have HL2 := Aside0.mk (And.intro (below_step HL.out.1 hx2) (show (Kd.int .i64).R 3 w2 W1.heap.size (fun _ => True) (.slice (some ad5) (n + 1) c5) ac from by have h := Kd.R_below HL.out.2.1 hx2; rw [hn5] at h; exact h)); have hc6 := pw_cell_below hx2 hc5; clear hx2)
              | (go_at_call 42; (with_reducible refine (HRT.out _ (HUP.out _ HL2.out.1)).mono ?_); rintro e w3 ⟨rfl, hx2⟩; have HL3 := Aside0.mk (And.intro (below_step HL2.out.1 hx2) (Kd.R_below HL2.out.2 hx2)); have hc7 := pw_cell_below hx2 hc6; clear hx2)
              | (at_builtin; refine Kd.R_append (Kd.int .i64) (w0 := W1) W1.heap.size rfl (.tmp 62) (.tmp 64) 47 3 (.int .i64 0) 8 rfl Tryd.underlying47 infoI rfl (by decide) (by decide) (.slice (some ad5) (n + 1) c5) ac x [.int .i64 x] (fun _ => True) (fun _ => False) rfl rfl rfl (fun _ hk => hk.elim) (fun _ _ => trivial) HL3.out.2 HL3.out.1 HL3.out.1.size (by first | omega | (simp only [List.length_nil]; omega)) ?_; intro v1 w1 hR hB hG hat; have HG := Aside0.mk (And.intro hB hR); clear hR hB hG hat))
            go_roundg d
            case measure => omega
            case rel => exact ⟨a + 1, ac ++ [x], by omega, by omega, by go_num, by simp only [List.length_append, List.length_singleton]; omega, ⟨HG.out.1, HG.out.2, HO.out, HIL.out⟩⟩
          · have hq2 := hq.symm
            subst hq2
            clear hq
            obtain ⟨ad5, rfl, hc5⟩ := Kd.at_int (Kd.R_reads' HL.out.2.1).2.2 (n : Int) (by omega) (by omega)
            rw [Int.toNat_natCast] at hc5
            rw [hn5]
            have q12 : (0 ≤ (n : Int)) = True := eq_true (by omega)
            have q13 : ((n : Int) < (n : Int) + 1) = True := eq_true (by omega)
            have q14 : (((n : Int) + 1) = 0) = False := eq_false (by omega)
            have q15 : ((n + 1 : Nat) = 0) = False := eq_false (by omega)
            generalize rd ac (n : Int) = y at hc5 hne
            have q16 : (y < x) = False := eq_false hne
            go_wp2_with (first
              | (go_at_call 41; (with_reducible refine HF.out.mono ?_); rintro e w2 ⟨rfl, hx2⟩; have HL2 := Aside0.mk (And.intro (below_step HL.out.1 hx2) (show (Kd.int .i64).R 3 w2 W1.heap.size (fun _ => True) (.slice (some ad5) (n + 1) c5) ac from by have h := Kd.R_below HL.out.2.1 hx2; rw [hn5] at h; exact h)); have hc6 := pw_cell_below hx2 hc5; clear hx2)
              | (go_at_call 42; (with_reducible refine (HRT.out _ (HUP.out _ HL2.out.1)).mono ?_); rintro e w3 ⟨rfl, hx2⟩; have HL3 := Aside0.mk (And.intro (below_step HL2.out.1 hx2) (Kd.R_below HL2.out.2 hx2)); have hc7 := pw_cell_below hx2 hc6; clear hx2))
            go_roundg d
            case measure => omega
            case rel => exact ⟨a + 1, ac, by omega, by omega, by go_num, by omega, ⟨HL3.out.1, HL3.out.2, HO.out, HIL.out⟩⟩
end Go.Proofs.YtffpkldphkmjmaaDoor.PT
end
section
namespace Go.Proofs.YtffpkldphkmjmaaDoor.PT
open Go.RowKit Go.Proofs.YtffpkldphkmjmaaDoorW.PrintWords Go.Proofs.YtffpkldphkmjmaaDoorW.PrintMore
set_option linter.unusedVariables false
attribute [local go_sem] max2_int min2_int max_two min_two   -- for this text's walks alone
theorem pick_zero (l : List Int) (p : Int) (back : Bool) : pickV l p 0 back = pickV l p 1 back := rfl
theorem pick_facts {l : List Int} (h : l.Pairwise (· < ·)) (hl : l ≠ []) (p cnt : Int) (h1 : 1 ≤ cnt) : ∃ q1 q2 : Nat, q1 < l.length ∧ q2 < l.length ∧ ((uptoN l p l.length : Int) + cnt - 1).tmod (l.length : Int) = (q1 : Int) ∧ (((belowN l p l.length : Int) - cnt).tmod (l.length : Int) + (l.length : Int)).tmod (l.length : Int) = (q2 : Int) ∧ pickV l p cnt false = rd l q1 ∧ pickV l p cnt true = rd l q2 := by
  obtain ⟨c, rfl⟩ : ∃ c : Nat, cnt = (c : Int) := ⟨cnt.toNat, by omega⟩
  refine ⟨pickI l p c false, pickI l p c true, pickI_lt hl _ _ _, pickI_lt hl _ _ _, ?_, (pick_below h hl p (by omega)).symm, rfl, rfl⟩
  rw [pick_upto h hl p (by omega), show ((uptoN l p l.length : Int) + (c : Int) - 1) = ((uptoN l p l.length + c - 1 : Nat) : Int) from by omega]
  exact (Int.ofNat_tmod _ _).symm
theorem rtgt_ret {tmps : Array Value} {w : World} {g : Nat} {x : Int × Int × Int} {y : Int} (hp : tmps.getD 10 undef = .pointer (some ⟨g, 0, none⟩)) (hu : tmps.getD 11 undef = .int .i64 y)
    (hg : w.heap[g]? = some (.cells #[.int .i64 x.1, .int .i64 x.2.1, .int .i64 x.2.2] 27 (0, 0))) : (results Tryd.f13 tmps).run Tryd.prog w = .ok (.tuple #[tgt x, .int .i64 y]) w := by
  rw [results_ct rfl tmps w g 27 _ (0, 0) _ hp hg Tryd.underlying27 rfl (by kernel_rfl), hu]
  rfl
set_option maxHeartbeats 4000000 in
set_option maxRecDepth 100000 in
theorem rnext_calls {w : World} {A AP : Option Addr} {c cp : Nat} {t q : List Int} {pl : List PTh} {p count : Int} {back : Bool} (hr : Kd.C (Kd.int .u8) w A t.length t) (hu : ∀ i, 0 ≤ rd t i ∧ rd t i ≤ 255)
    (hn : t.length ≤ 1048576) (hc : t.length ≤ c) (hrp : Kd.C (Kd.int .u8) w AP q.length q) (hup : ∀ i, 0 ≤ rd q i ∧ rd q i ≤ 255) (hcv : compileV q = (some pl, 0, 0)) :
    Calls Tryd.prog 13 #[.slice A t.length c, .int .i64 p, .int .i64 count, .slice AP q.length cp, .bool back] w fun e w' => e = .returned (.tuple #[tgt (huntV t.length (hitsV t pl) p count back).1, .int .i64 (huntV t.length (hitsV t pl) p count back).2]) ∧ Below w.heap.size w w' := by
  have HCM := Aside0.mk (rcompiles_calls (c := cp) (Kd.C_below hrp (below_alloc (Below.refl _ _) (.cells #[.int .i64 0, .int .i64 0, .int .i64 0] 27))) hup)
  rw [hcv] at HCM
  simp only at HCM
  have HH : Aside0 (∀ W, Below w.heap.size w W → Calls Tryd.prog 26 #[.slice A t.length c, .slice AP q.length cp] W fun e w' => ∃ v, e = .returned v ∧ Below W.heap.size W w' ∧ (Kd.int .i64).R 3 w' W.heap.size (fun _ => True) v (hitsV t pl)) := ⟨fun W h => rhits_calls (Kd.C_below hr h) hu (by omega) hc (fun W' h' A' c' line f hC hlc hll hb => by
    have h1 := rfind_calls (c0 := cp) (f := f) (Kd.C_below (Kd.C_below hrp h) h') hup hC hlc (by omega) hb
    rw [show rfindV q line f = findV line pl f from by unfold rfindV; rw [hcv]] at h1
    exact h1)⟩
  have hlb := hits_len t pl
  have hin := (hits_inc t pl).1
  generalize hitsV t pl = l at HH hlb hin
  clear hrp hr hu hup hcv
  have HV := Aside0.mk (show huntV t.length l p count back = if p < 0 ∨ p > t.length ∨ count < 0 ∨ count > 9999 then ((0, 0, 0), 2) else if l = [] then ((0, 0, 0), 120) else ((p, pickV l p count back, 1), 0) from rfl)
  generalize huntV t.length l p count back = r at HV
  by_cases hg : p < 0 ∨ p > t.length ∨ count < 0 ∨ count > 9999
  · have HV2 := HV.out
    rw [if_pos hg] at HV2
    subst HV2
    clear HV
    clear HH HCM
    by_cases h1 : p < 0
    · have g1 : (p < 0) = True := eq_true h1
      go_enter Tryd.func13, Tryd.ntmps13
      go_wp2
      exact bodyPost_ret (rtgt_ret (x := (0, 0, 0)) rfl rfl (heap_alloc_new w _)) rfl ⟨rfl, below_alloc (Below.refl _ _) _⟩
    · have g1 : (p < 0) = False := eq_false h1
      by_cases h2 : (t.length : Int) < p
      · have g2 : ((t.length : Int) < p) = True := eq_true h2
        go_enter Tryd.func13, Tryd.ntmps13
        go_wp2
        exact bodyPost_ret (rtgt_ret (x := (0, 0, 0)) rfl rfl (heap_alloc_new w _)) rfl ⟨rfl, below_alloc (Below.refl _ _) _⟩
      · have g2 : ((t.length : Int) < p) = False := eq_false h2
        by_cases h3 : count < 0
        · have g3 : (count < 0) = True := eq_true h3
          go_enter Tryd.func13, Tryd.ntmps13
          go_wp2
          exact bodyPost_ret (rtgt_ret (x := (0, 0, 0)) rfl rfl (heap_alloc_new w _)) rfl ⟨rfl, below_alloc (Below.refl _ _) _⟩
        · have g3 : (count < 0) = False := eq_false h3
          have g4 : (9999 < count) = True := eq_true (by omega)
          go_enter Tryd.func13, Tryd.ntmps13
          go_wp2
          exact bodyPost_ret (rtgt_ret (x := (0, 0, 0)) rfl rfl (heap_alloc_new w _)) rfl ⟨rfl, below_alloc (Below.refl _ _) _⟩
  · have g1 : (p < 0) = False := eq_false (by omega)
    have g2 : ((t.length : Int) < p) = False := eq_false (by omega)
    have g3 : (count < 0) = False := eq_false (by omega)
    have g4 : (9999 < count) = False := eq_false (by omega)
    by_cases hl : l = []
    · have HV2 := HV.out
      rw [if_neg hg, if_pos hl] at HV2
      subst hl HV2
      clear HV
      go_enter Tryd.func13, Tryd.ntmps13
      go_wp2_with (first
        | (go_at_call 12; (with_reducible refine HCM.out.mono ?_); rintro e w0 ⟨rfl, hx1⟩; have HX0 := Aside0.mk (below_then (below_alloc (Below.refl _ _) _) (by simp only [World.size_alloc]; omega) hx1); have BK0 := Aside0.mk (blk_below (heap_alloc_new w (.cells #[.int .i64 0, .int .i64 0, .int .i64 0] 27)) hx1); clear hx1)
        | (go_at_call 26; (with_reducible refine (HH.out _ HX0.out).mono ?_); rintro e w1 ⟨vl, rfl, hx1, hx2⟩; have HX := Aside0.mk (And.intro (below_step HX0.out hx1) hx2); have BK := Aside0.mk (blk_below BK0.out hx1); clear hx1 hx2; obtain ⟨A5, c5, e5⟩ := Kd.R_slice HX.out.2; subst e5)
        | ((with_reducible refine gate_ (.store 27 (.tmp 10) (.tmp 47)) rfl ?_); refine wpList_store_row rfl 27 (.tmp 10) (.tmp 47) rfl w.heap.size #[.int .i64 0, .int .i64 0, .int .i64 0] rfl rfl _ _ BK.out (by kernel_rfl) rfl (one3 _ _ _) ?_))
      exact bodyPost_ret (rtgt_ret (x := (0, 0, 0)) rfl rfl (setRow_heap _ _ _ _ _ _ BK.out)) rfl ⟨rfl, below_setRow HX.out.1 (Nat.le_refl _) _⟩
    · have HV2 := HV.out
      rw [if_neg hg, if_neg hl] at HV2
      clear HV
      subst HV2
      have hl0 := List.length_pos_iff.2 hl
      have HPF := Aside0.mk (fun cnt h => pick_facts hin hl p cnt h)
      have HP0 := Aside0.mk (pick_zero l p back)
      have hub := (upto_spec hin p l.length (Nat.le_refl _)).1
      have hbb := (below_spec hin p l.length (Nat.le_refl _)).1
      have HUB : Aside0 (∀ k, k ≤ l.length → uptoN l p k ≤ k ∧ belowN l p k ≤ k) := ⟨fun k hk => ⟨(upto_spec hin p k hk).1, (below_spec hin p k hk).1⟩⟩
      clear hin
      have g5 : ((l.length : Int) = 0) = False := eq_false (by omega)
      have g6 : (l.length = 0) = False := eq_false (by omega)
      clear hl
      have g7 : ((l.length : Int) == 0) = false := beq_eq_false_iff_ne.2 (by omega)
      by_cases hc0 : count = 0
      · subst hc0
        have g8 : True := trivial
        cases back with
        | true =>
          obtain ⟨q1, q2, hq1, hq2, hm1, hm2, hz1, hz2⟩ := HPF.out 1 (by omega)
          have HZ : Aside0 (pickV l p 0 true = rd l (q2 : Nat)) := ⟨by rw [pick_zero]; exact hz2⟩
          clear hz1 hz2
          generalize pickV l p 0 true = z at HZ
          have HM := Aside0.mk (And.intro hm1 hm2)
          clear hm1 hm2
          go_enter Tryd.func13, Tryd.ntmps13
          go_wp2_with (first
            | (go_at_call 12; (with_reducible refine HCM.out.mono ?_); rintro e w0 ⟨rfl, hx1⟩; have HX0 := Aside0.mk (below_then (below_alloc (Below.refl _ _) _) (by simp only [World.size_alloc]; omega) hx1); have BK0 := Aside0.mk (blk_below (heap_alloc_new w (.cells #[.int .i64 0, .int .i64 0, .int .i64 0] 27)) hx1); clear hx1)
            | (go_at_call 26; (with_reducible refine (HH.out _ HX0.out).mono ?_); rintro e w1 ⟨vl, rfl, hx1, hx2⟩; have HX := Aside0.mk (And.intro (below_step HX0.out hx1) hx2); have BK := Aside0.mk (blk_below BK0.out hx1); clear hx1 hx2; obtain ⟨A5, c5, e5⟩ := Kd.R_slice HX.out.2; subst e5))
          have HC5 := Aside0.mk (Kd.R_reads' HX.out.2).2.2
          go_loopg [14, 15, 16] l.length (fun g v14 v15 v16 wl => ∃ k : Nat, k + g = l.length ∧ v16 = .int .i64 k ∧ v14 = .int .i64 (belowN l p k : Nat) ∧ v15 = .int .i64 (uptoN l p k : Nat) ∧ wl = w1)
          case atStart => exact ⟨0, by omega, rfl, rfl, rfl, rfl⟩
          case round =>
            obtain ⟨k, hk, rfl, rfl, rfl, rfl⟩ := hrel
            cases gk with
            | zero =>
              have hke : k = l.length := by omega
              subst hke
              have hm1 := HM.out.1
              have hm2 := HM.out.2
              clear HM HUB hk
              generalize uptoN l p l.length = U at hub hm1
              generalize belowN l p l.length = B at hbb hm2
              have hm3 : (U : Int).tmod (l.length : Int) = (q1 : Int) := by rw [← hm1]; congr 1; omega
              clear hm1
              have hx1 := Int.tmod_lt_of_pos ((B : Int) - 1) (show (0 : Int) < l.length by omega)
              have hx2 := Int.lt_tmod_of_pos ((B : Int) - 1) (show (0 : Int) < l.length by omega)
              obtain ⟨y, hy⟩ : ∃ y, ((B : Int) - 1).tmod (l.length : Int) = y := ⟨_, rfl⟩
              rw [hy] at hx1 hx2 hm2
              obtain ⟨ad5, rfl, hc5⟩ := Kd.at_int HC5.out (q2 : Int) (by omega) (by omega)
              rw [Int.toNat_natCast, ← HZ.out] at hc5
              have q3 : (0 ≤ (q2 : Int)) = True := eq_true (by omega)
              have q4 : ((q2 : Int) < (l.length : Int)) = True := eq_true (by omega)
              go_wp2_with ((with_reducible refine gate_ (.store 27 (.tmp 10) (.tmp 92)) rfl ?_); refine wpList_store_row rfl 27 (.tmp 10) (.tmp 92) rfl w.heap.size #[.int .i64 p, .int .i64 z, .int .i64 1] rfl rfl _ _ BK.out (by kernel_rfl) rfl (one3 _ _ _) ?_)
              exact bodyPost_ret (rtgt_ret (x := (p, z, 1)) rfl rfl (setRow_heap _ _ _ _ _ _ BK.out)) rfl ⟨rfl, below_setRow HX.out.1 (Nat.le_refl _) _⟩
            | succ g =>
              have q1 : decide ((k : Int) < (l.length : Int)) = true := decide_eq_true (by omega)
              have q2 : (0 ≤ (k : Int)) = True := eq_true (by omega)
              have q3 : ((k : Int) < (l.length : Int)) = True := eq_true (by omega)
              have hb1 := HUB.out k (by omega)
              obtain ⟨ad5, rfl, hc5⟩ := Kd.at_int HC5.out (k : Int) (by omega) (by omega)
              rw [Int.toNat_natCast] at hc5
              have HS1 : Aside0 (belowN l p (k + 1) = belowN l p k + (if rd l k < p then 1 else 0) ∧ uptoN l p (k + 1) = uptoN l p k + (if rd l k ≤ p then 1 else 0)) := ⟨rfl, rfl⟩
              generalize belowN l p k = B at hb1 HS1
              generalize uptoN l p k = U at hb1 HS1
              generalize rd l k = y at hc5 HS1
              by_cases h1 : y < p
              · have q4 : (y < p) = True := eq_true h1
                have q5 : (y ≤ p) = True := eq_true (by omega)
                have hs1 : belowN l p (k + 1) = B + 1 := by rw [HS1.out.1, if_pos h1]
                have hs2 : uptoN l p (k + 1) = U + 1 := by rw [HS1.out.2, if_pos (by omega)]
                go_wp2
                go_roundg g
                case measure => omega
                case rel => exact ⟨k + 1, by omega, by go_num, by rw [hs1]; go_num, by rw [hs2]; go_num, rfl⟩
              · by_cases h2 : y ≤ p
                · have q4 : (y < p) = False := eq_false h1
                  have q5 : (y ≤ p) = True := eq_true h2
                  have hs1 : belowN l p (k + 1) = B := by rw [HS1.out.1, if_neg h1, Nat.add_zero]
                  have hs2 : uptoN l p (k + 1) = U + 1 := by rw [HS1.out.2, if_pos h2]
                  go_wp2
                  go_roundg g
                  case measure => omega
                  case rel => exact ⟨k + 1, by omega, by go_num, by rw [hs1], by rw [hs2]; go_num, rfl⟩
                · have q4 : (y < p) = False := eq_false h1
                  have q5 : (y ≤ p) = False := eq_false h2
                  have hs1 : belowN l p (k + 1) = B := by rw [HS1.out.1, if_neg h1, Nat.add_zero]
                  have hs2 : uptoN l p (k + 1) = U := by rw [HS1.out.2, if_neg h2, Nat.add_zero]
                  go_wp2
                  go_roundg g
                  case measure => omega
                  case rel => exact ⟨k + 1, by omega, by go_num, by rw [hs1], by rw [hs2], rfl⟩
        | false =>
          obtain ⟨q1, q2, hq1, hq2, hm1, hm2, hz1, hz2⟩ := HPF.out 1 (by omega)
          have HZ : Aside0 (pickV l p 0 false = rd l (q1 : Nat)) := ⟨by rw [pick_zero]; exact hz1⟩
          clear hz1 hz2
          generalize pickV l p 0 false = z at HZ
          have HM := Aside0.mk (And.intro hm1 hm2)
          clear hm1 hm2
          go_enter Tryd.func13, Tryd.ntmps13
          go_wp2_with (first
            | (go_at_call 12; (with_reducible refine HCM.out.mono ?_); rintro e w0 ⟨rfl, hx1⟩; have HX0 := Aside0.mk (below_then (below_alloc (Below.refl _ _) _) (by simp only [World.size_alloc]; omega) hx1); have BK0 := Aside0.mk (blk_below (heap_alloc_new w (.cells #[.int .i64 0, .int .i64 0, .int .i64 0] 27)) hx1); clear hx1)
            | (go_at_call 26; (with_reducible refine (HH.out _ HX0.out).mono ?_); rintro e w1 ⟨vl, rfl, hx1, hx2⟩; have HX := Aside0.mk (And.intro (below_step HX0.out hx1) hx2); have BK := Aside0.mk (blk_below BK0.out hx1); clear hx1 hx2; obtain ⟨A5, c5, e5⟩ := Kd.R_slice HX.out.2; subst e5))
          have HC5 := Aside0.mk (Kd.R_reads' HX.out.2).2.2
          go_loopg [14, 15, 16] l.length (fun g v14 v15 v16 wl => ∃ k : Nat, k + g = l.length ∧ v16 = .int .i64 k ∧ v14 = .int .i64 (belowN l p k : Nat) ∧ v15 = .int .i64 (uptoN l p k : Nat) ∧ wl = w1)
          case atStart => exact ⟨0, by omega, rfl, rfl, rfl, rfl⟩
          case round =>
            obtain ⟨k, hk, rfl, rfl, rfl, rfl⟩ := hrel
            cases gk with
            | zero =>
              have hke : k = l.length := by omega
              subst hke
              have hm1 := HM.out.1
              have hm2 := HM.out.2
              clear HM HUB hk
              generalize uptoN l p l.length = U at hub hm1
              generalize belowN l p l.length = B at hbb hm2
              have hm3 : (U : Int).tmod (l.length : Int) = (q1 : Int) := by rw [← hm1]; congr 1; omega
              clear hm1
              clear hm2
              obtain ⟨ad5, rfl, hc5⟩ := Kd.at_int HC5.out (q1 : Int) (by omega) (by omega)
              rw [Int.toNat_natCast, ← HZ.out] at hc5
              have q3 : (0 ≤ (q1 : Int)) = True := eq_true (by omega)
              have q4 : ((q1 : Int) < (l.length : Int)) = True := eq_true (by omega)
              go_wp2_with ((with_reducible refine gate_ (.store 27 (.tmp 10) (.tmp 92)) rfl ?_); refine wpList_store_row rfl 27 (.tmp 10) (.tmp 92) rfl w.heap.size #[.int .i64 p, .int .i64 z, .int .i64 1] rfl rfl _ _ BK.out (by kernel_rfl) rfl (one3 _ _ _) ?_)
              exact bodyPost_ret (rtgt_ret (x := (p, z, 1)) rfl rfl (setRow_heap _ _ _ _ _ _ BK.out)) rfl ⟨rfl, below_setRow HX.out.1 (Nat.le_refl _) _⟩
            | succ g =>
              have q1 : decide ((k : Int) < (l.length : Int)) = true := decide_eq_true (by omega)
              have q2 : (0 ≤ (k : Int)) = True := eq_true (by omega)
              have q3 : ((k : Int) < (l.length : Int)) = True := eq_true (by omega)
              have hb1 := HUB.out k (by omega)
              obtain ⟨ad5, rfl, hc5⟩ := Kd.at_int HC5.out (k : Int) (by omega) (by omega)
              rw [Int.toNat_natCast] at hc5
              have HS1 : Aside0 (belowN l p (k + 1) = belowN l p k + (if rd l k < p then 1 else 0) ∧ uptoN l p (k + 1) = uptoN l p k + (if rd l k ≤ p then 1 else 0)) := ⟨rfl, rfl⟩
              generalize belowN l p k = B at hb1 HS1
              generalize uptoN l p k = U at hb1 HS1
              generalize rd l k = y at hc5 HS1
              by_cases h1 : y < p
              · have q4 : (y < p) = True := eq_true h1
                have q5 : (y ≤ p) = True := eq_true (by omega)
                have hs1 : belowN l p (k + 1) = B + 1 := by rw [HS1.out.1, if_pos h1]
                have hs2 : uptoN l p (k + 1) = U + 1 := by rw [HS1.out.2, if_pos (by omega)]
                go_wp2
                go_roundg g
                case measure => omega
                case rel => exact ⟨k + 1, by omega, by go_num, by rw [hs1]; go_num, by rw [hs2]; go_num, rfl⟩
              · by_cases h2 : y ≤ p
                · have q4 : (y < p) = False := eq_false h1
                  have q5 : (y ≤ p) = True := eq_true h2
                  have hs1 : belowN l p (k + 1) = B := by rw [HS1.out.1, if_neg h1, Nat.add_zero]
                  have hs2 : uptoN l p (k + 1) = U + 1 := by rw [HS1.out.2, if_pos h2]
                  go_wp2
                  go_roundg g
                  case measure => omega
                  case rel => exact ⟨k + 1, by omega, by go_num, by rw [hs1], by rw [hs2]; go_num, rfl⟩
                · have q4 : (y < p) = False := eq_false h1
                  have q5 : (y ≤ p) = False := eq_false h2
                  have hs1 : belowN l p (k + 1) = B := by rw [HS1.out.1, if_neg h1, Nat.add_zero]
                  have hs2 : uptoN l p (k + 1) = U := by rw [HS1.out.2, if_neg h2, Nat.add_zero]
                  go_wp2
                  go_roundg g
                  case measure => omega
                  case rel => exact ⟨k + 1, by omega, by go_num, by rw [hs1], by rw [hs2], rfl⟩
      · have g8 : (count = 0) = False := eq_false hc0
        have g9 : (count == 0) = false := beq_eq_false_iff_ne.2 hc0
        cases back with
        | true =>
          obtain ⟨q1, q2, hq1, hq2, hm1, hm2, hz1, hz2⟩ := HPF.out count (by omega)
          have HZ : Aside0 (pickV l p count true = rd l (q2 : Nat)) := ⟨by exact hz2⟩
          clear hz1 hz2
          generalize pickV l p count true = z at HZ
          have HM := Aside0.mk (And.intro hm1 hm2)
          clear hm1 hm2
          go_enter Tryd.func13, Tryd.ntmps13
          go_wp2_with (first
            | (go_at_call 12; (with_reducible refine HCM.out.mono ?_); rintro e w0 ⟨rfl, hx1⟩; have HX0 := Aside0.mk (below_then (below_alloc (Below.refl _ _) _) (by simp only [World.size_alloc]; omega) hx1); have BK0 := Aside0.mk (blk_below (heap_alloc_new w (.cells #[.int .i64 0, .int .i64 0, .int .i64 0] 27)) hx1); clear hx1)
            | (go_at_call 26; (with_reducible refine (HH.out _ HX0.out).mono ?_); rintro e w1 ⟨vl, rfl, hx1, hx2⟩; have HX := Aside0.mk (And.intro (below_step HX0.out hx1) hx2); have BK := Aside0.mk (blk_below BK0.out hx1); clear hx1 hx2; obtain ⟨A5, c5, e5⟩ := Kd.R_slice HX.out.2; subst e5))
          have HC5 := Aside0.mk (Kd.R_reads' HX.out.2).2.2
          go_loopg [14, 15, 16] l.length (fun g v14 v15 v16 wl => ∃ k : Nat, k + g = l.length ∧ v16 = .int .i64 k ∧ v14 = .int .i64 (belowN l p k : Nat) ∧ v15 = .int .i64 (uptoN l p k : Nat) ∧ wl = w1)
          case atStart => exact ⟨0, by omega, rfl, rfl, rfl, rfl⟩
          case round =>
            obtain ⟨k, hk, rfl, rfl, rfl, rfl⟩ := hrel
            cases gk with
            | zero =>
              have hke : k = l.length := by omega
              subst hke
              have hm1 := HM.out.1
              have hm2 := HM.out.2
              clear HM HUB hk
              generalize uptoN l p l.length = U at hub hm1
              generalize belowN l p l.length = B at hbb hm2
              have hx1 := Int.tmod_lt_of_pos ((B : Int) - count) (show (0 : Int) < l.length by omega)
              have hx2 := Int.lt_tmod_of_pos ((B : Int) - count) (show (0 : Int) < l.length by omega)
              obtain ⟨y, hy⟩ : ∃ y, ((B : Int) - count).tmod (l.length : Int) = y := ⟨_, rfl⟩
              rw [hy] at hx1 hx2 hm2
              obtain ⟨ad5, rfl, hc5⟩ := Kd.at_int HC5.out (q2 : Int) (by omega) (by omega)
              rw [Int.toNat_natCast, ← HZ.out] at hc5
              have q3 : (0 ≤ (q2 : Int)) = True := eq_true (by omega)
              have q4 : ((q2 : Int) < (l.length : Int)) = True := eq_true (by omega)
              go_wp2_with ((with_reducible refine gate_ (.store 27 (.tmp 10) (.tmp 92)) rfl ?_); refine wpList_store_row rfl 27 (.tmp 10) (.tmp 92) rfl w.heap.size #[.int .i64 p, .int .i64 z, .int .i64 1] rfl rfl _ _ BK.out (by kernel_rfl) rfl (one3 _ _ _) ?_)
              exact bodyPost_ret (rtgt_ret (x := (p, z, 1)) rfl rfl (setRow_heap _ _ _ _ _ _ BK.out)) rfl ⟨rfl, below_setRow HX.out.1 (Nat.le_refl _) _⟩
            | succ g =>
              have q1 : decide ((k : Int) < (l.length : Int)) = true := decide_eq_true (by omega)
              have q2 : (0 ≤ (k : Int)) = True := eq_true (by omega)
              have q3 : ((k : Int) < (l.length : Int)) = True := eq_true (by omega)
              have hb1 := HUB.out k (by omega)
              obtain ⟨ad5, rfl, hc5⟩ := Kd.at_int HC5.out (k : Int) (by omega) (by omega)
              rw [Int.toNat_natCast] at hc5
              have HS1 : Aside0 (belowN l p (k + 1) = belowN l p k + (if rd l k < p then 1 else 0) ∧ uptoN l p (k + 1) = uptoN l p k + (if rd l k ≤ p then 1 else 0)) := ⟨rfl, rfl⟩
              generalize belowN l p k = B at hb1 HS1
              generalize uptoN l p k = U at hb1 HS1
              generalize rd l k = y at hc5 HS1
              by_cases h1 : y < p
              · have q4 : (y < p) = True := eq_true h1
                have q5 : (y ≤ p) = True := eq_true (by omega)
                have hs1 : belowN l p (k + 1) = B + 1 := by rw [HS1.out.1, if_pos h1]
                have hs2 : uptoN l p (k + 1) = U + 1 := by rw [HS1.out.2, if_pos (by omega)]
                go_wp2
                go_roundg g
                case measure => omega
                case rel => exact ⟨k + 1, by omega, by go_num, by rw [hs1]; go_num, by rw [hs2]; go_num, rfl⟩
              · by_cases h2 : y ≤ p
                · have q4 : (y < p) = False := eq_false h1
                  have q5 : (y ≤ p) = True := eq_true h2
                  have hs1 : belowN l p (k + 1) = B := by rw [HS1.out.1, if_neg h1, Nat.add_zero]
                  have hs2 : uptoN l p (k + 1) = U + 1 := by rw [HS1.out.2, if_pos h2]
                  go_wp2
                  go_roundg g
                  case measure => omega
                  case rel => exact ⟨k + 1, by omega, by go_num, by rw [hs1], by rw [hs2]; go_num, rfl⟩
                · have q4 : (y < p) = False := eq_false h1
                  have q5 : (y ≤ p) = False := eq_false h2
                  have hs1 : belowN l p (k + 1) = B := by rw [HS1.out.1, if_neg h1, Nat.add_zero]
                  have hs2 : uptoN l p (k + 1) = U := by rw [HS1.out.2, if_neg h2, Nat.add_zero]
                  go_wp2
                  go_roundg g
                  case measure => omega
                  case rel => exact ⟨k + 1, by omega, by go_num, by rw [hs1], by rw [hs2], rfl⟩
        | false =>
          obtain ⟨q1, q2, hq1, hq2, hm1, hm2, hz1, hz2⟩ := HPF.out count (by omega)
          have HZ : Aside0 (pickV l p count false = rd l (q1 : Nat)) := ⟨by exact hz1⟩
          clear hz1 hz2
          generalize pickV l p count false = z at HZ
          have HM := Aside0.mk (And.intro hm1 hm2)
          clear hm1 hm2
          go_enter Tryd.func13, Tryd.ntmps13
          go_wp2_with (first
            | (go_at_call 12; (with_reducible refine HCM.out.mono ?_); rintro e w0 ⟨rfl, hx1⟩; have HX0 := Aside0.mk (below_then (below_alloc (Below.refl _ _) _) (by simp only [World.size_alloc]; omega) hx1); have BK0 := Aside0.mk (blk_below (heap_alloc_new w (.cells #[.int .i64 0, .int .i64 0, .int .i64 0] 27)) hx1); clear hx1)
            | (go_at_call 26; (with_reducible refine (HH.out _ HX0.out).mono ?_); rintro e w1 ⟨vl, rfl, hx1, hx2⟩; have HX := Aside0.mk (And.intro (below_step HX0.out hx1) hx2); have BK := Aside0.mk (blk_below BK0.out hx1); clear hx1 hx2; obtain ⟨A5, c5, e5⟩ := Kd.R_slice HX.out.2; subst e5))
          have HC5 := Aside0.mk (Kd.R_reads' HX.out.2).2.2
          go_loopg [14, 15, 16] l.length (fun g v14 v15 v16 wl => ∃ k : Nat, k + g = l.length ∧ v16 = .int .i64 k ∧ v14 = .int .i64 (belowN l p k : Nat) ∧ v15 = .int .i64 (uptoN l p k : Nat) ∧ wl = w1)
          case atStart => exact ⟨0, by omega, rfl, rfl, rfl, rfl⟩
          case round =>
            obtain ⟨k, hk, rfl, rfl, rfl, rfl⟩ := hrel
            cases gk with
            | zero =>
              have hke : k = l.length := by omega
              subst hke
              have hm1 := HM.out.1
              have hm2 := HM.out.2
              clear HM HUB hk
              generalize uptoN l p l.length = U at hub hm1
              generalize belowN l p l.length = B at hbb hm2
              clear hm2
              obtain ⟨ad5, rfl, hc5⟩ := Kd.at_int HC5.out (q1 : Int) (by omega) (by omega)
              rw [Int.toNat_natCast, ← HZ.out] at hc5
              have q3 : (0 ≤ (q1 : Int)) = True := eq_true (by omega)
              have q4 : ((q1 : Int) < (l.length : Int)) = True := eq_true (by omega)
              go_wp2_with ((with_reducible refine gate_ (.store 27 (.tmp 10) (.tmp 92)) rfl ?_); refine wpList_store_row rfl 27 (.tmp 10) (.tmp 92) rfl w.heap.size #[.int .i64 p, .int .i64 z, .int .i64 1] rfl rfl _ _ BK.out (by kernel_rfl) rfl (one3 _ _ _) ?_)
              exact bodyPost_ret (rtgt_ret (x := (p, z, 1)) rfl rfl (setRow_heap _ _ _ _ _ _ BK.out)) rfl ⟨rfl, below_setRow HX.out.1 (Nat.le_refl _) _⟩
            | succ g =>
              have q1 : decide ((k : Int) < (l.length : Int)) = true := decide_eq_true (by omega)
              have q2 : (0 ≤ (k : Int)) = True := eq_true (by omega)
              have q3 : ((k : Int) < (l.length : Int)) = True := eq_true (by omega)
              have hb1 := HUB.out k (by omega)
              obtain ⟨ad5, rfl, hc5⟩ := Kd.at_int HC5.out (k : Int) (by omega) (by omega)
              rw [Int.toNat_natCast] at hc5
              have HS1 : Aside0 (belowN l p (k + 1) = belowN l p k + (if rd l k < p then 1 else 0) ∧ uptoN l p (k + 1) = uptoN l p k + (if rd l k ≤ p then 1 else 0)) := ⟨rfl, rfl⟩
              generalize belowN l p k = B at hb1 HS1
              generalize uptoN l p k = U at hb1 HS1
              generalize rd l k = y at hc5 HS1
              by_cases h1 : y < p
              · have q4 : (y < p) = True := eq_true h1
                have q5 : (y ≤ p) = True := eq_true (by omega)
                have hs1 : belowN l p (k + 1) = B + 1 := by rw [HS1.out.1, if_pos h1]
                have hs2 : uptoN l p (k + 1) = U + 1 := by rw [HS1.out.2, if_pos (by omega)]
                go_wp2
                go_roundg g
                case measure => omega
                case rel => exact ⟨k + 1, by omega, by go_num, by rw [hs1]; go_num, by rw [hs2]; go_num, rfl⟩
              · by_cases h2 : y ≤ p
                · have q4 : (y < p) = False := eq_false h1
                  have q5 : (y ≤ p) = True := eq_true h2
                  have hs1 : belowN l p (k + 1) = B := by rw [HS1.out.1, if_neg h1, Nat.add_zero]
                  have hs2 : uptoN l p (k + 1) = U + 1 := by rw [HS1.out.2, if_pos h2]
                  go_wp2
                  go_roundg g
                  case measure => omega
                  case rel => exact ⟨k + 1, by omega, by go_num, by rw [hs1], by rw [hs2]; go_num, rfl⟩
                · have q4 : (y < p) = False := eq_false h1
                  have q5 : (y ≤ p) = False := eq_false h2
                  have hs1 : belowN l p (k + 1) = B := by rw [HS1.out.1, if_neg h1, Nat.add_zero]
                  have hs2 : uptoN l p (k + 1) = U := by rw [HS1.out.2, if_neg h2, Nat.add_zero]
                  go_wp2
                  go_roundg g
                  case measure => omega
                  case rel => exact ⟨k + 1, by omega, by go_num, by rw [hs1], by rw [hs2], rfl⟩
end Go.Proofs.YtffpkldphkmjmaaDoor.PT
end
section
namespace Go.Proofs.YtffpkldphkmjmaaDoor.XO
open Go.RowKit Go.Proofs.YtffpkldphkmjmaaDoorW.PrintWords Go.Proofs.YtffpkldphkmjmaaDoor.X
def okS24 (x : S24) : Prop := (okSl 1 okU8) x.f0 ∧ (okSl 1 okU8) x.f1 ∧ okI64 x.f2 ∧ okI64 x.f3 ∧ okBool x.f4
def szS24 (x : S24) : Nat := ((szSl szOne) x.f0 + ((szSl szOne) x.f1 + (szOne x.f2 + (szOne x.f3 + szOne x.f4)))) + 1
theorem opens24 : Opens Tryd.prog 24 k24 okS24 szS24 := by
  have h := opens_iso (f := fun x : S24 => (x.f0, x.f1, x.f2, x.f3, x.f4)) (fun a => ⟨a.1, a.2.1, a.2.2.1, a.2.2.2.1, a.2.2.2.2⟩) (fun _ => rfl) (opens_struct Tryd.underlying24 (by kernel_rfl) (of_cons rfl (by kernel_rfl) (opens_sl (B := 1) Tryd.underlying22 (opens_u8 Tryd.underlying5) (by kernel_rfl) (by kernel_rfl)) (of_cons rfl (by kernel_rfl) (opens_sl (B := 1) Tryd.underlying22 (opens_u8 Tryd.underlying5) (by kernel_rfl) (by kernel_rfl)) (of_cons rfl (by kernel_rfl) (opens_i64 Tryd.underlying3) (of_cons rfl (by kernel_rfl) (opens_i64 Tryd.underlying3) (of_last rfl (by kernel_rfl) (opens_bool Tryd.underlying4)))))))
  exact h
end Go.Proofs.YtffpkldphkmjmaaDoor.XO
end
section
namespace Go.Proofs.YtffpkldphkmjmaaDoor.WalkHuntNexts
open Go.RowKit Go.Proofs.YtffpkldphkmjmaaDoorW.PrintWords Go.Proofs.YtffpkldphkmjmaaDoorW.PrintMore Go.Proofs.YtffpkldphkmjmaaDoor.X Go.Proofs.YtffpkldphkmjmaaDoor.XO Go.Proofs.YtffpkldphkmjmaaDoor.PT
set_option linter.unusedVariables false
set_option linter.unusedSimpArgs false
theorem sum_len (l : List Int) : l.length ≤ (l.map szOne).sum := by
  induction l with
  | nil => simp
  | cons x l ih => have : szOne x = 1 := rfl; simp only [List.map_cons, List.sum_cons, List.length_cons]; omega
theorem u8_all (l : List Int) (h : okSl 1 okU8 l) : ∀ i, 0 ≤ rd l i ∧ rd l i ≤ 255 := rd_mem (P := fun x => 0 ≤ x ∧ x ≤ 255) l (fun x hx => h.2 x hx) (by decide)
set_option maxHeartbeats 8000000 in
set_option maxRecDepth 100000 in
theorem walk (x0 : S24) (A0_0 : Option Addr) (c0_0 : Nat) (A0_1 : Option Addr) (c0_1 : Nat) (w : World) (hr0_0 : Kd.C (Kd.int .u8) w A0_0 x0.f0.length x0.f0) (hc0_0 : x0.f0.length ≤ c0_0) (hr0_1 : Kd.C (Kd.int .u8) w A0_1 x0.f1.length x0.f1) (hc0_1 : x0.f1.length ≤ c0_1) (o0 : okS24 x0) (hb : (szS24 x0 ≤ 1048576)) :
    Calls Tryd.prog 3 #[.agg #[.slice A0_0 x0.f0.length c0_0, .slice A0_1 x0.f1.length c0_1, .int .i64 x0.f2, .int .i64 x0.f3, .bool x0.f4]] w fun e w' => e = .returned (.bool true) ∧ Below w.heap.size w w' := by
  obtain ⟨t, q, p0, cnt, bk⟩ := x0
  obtain ⟨o1, o2, _, _, _⟩ := o0
  simp only at hr0_0 hc0_0 hr0_1 hc0_1 hb o1 o2 ⊢
  have hl0 : t.length ≤ 1048576 := by have := sum_len t; unfold szS24 szSl at hb; simp only at hb; omega
  have hu0 := u8_all t o1
  have hu1 := u8_all q o2
  clear hb o1 o2
  have HB := Aside0.mk (below_alloc (Below.refl w.heap.size w) (.cells #[.slice A0_0 t.length c0_0, .slice A0_1 q.length c0_1, .int .i64 p0, .int .i64 cnt, .bool bk] 24))
  have BX := Aside0.mk (blk_new w (.cells #[.slice A0_0 t.length c0_0, .slice A0_1 q.length c0_1, .int .i64 p0, .int .i64 cnt, .bool bk] 24))
  have HA : ∀ W, Aside0 _ := fun W => ⟨awake_calls (w := W)⟩
  have HC : Aside0 (∀ W, Below w.heap.size w W → Calls Tryd.prog 11 #[.agg #[.slice A0_0 t.length c0_0, .slice A0_1 q.length c0_1, .int .i64 p0, .int .i64 cnt, .bool bk]] W fun e w' => ∃ v, e = .returned (.tuple #[v, .bool (compileV q).1.isSome]) ∧ Below W.heap.size W w' ∧ PatO w' W.heap.size v (compileV q).1) := ⟨fun W h => compiled_calls (Kd.C_below hr0_1 h) hu1⟩
  have HRC : Aside0 (∀ W, Below w.heap.size w W → Calls Tryd.prog 12 #[.slice A0_1 q.length c0_1] W fun e w' => e = .returned (.int .i64 (compileV q).2.2) ∧ Below W.heap.size W w') := ⟨fun W h => rcompiles_calls (Kd.C_below hr0_1 h) hu1⟩
  have HNL : Aside0 (∀ W, Calls Tryd.prog 10 #[.slice A0_0 t.length c0_0, .int .i64 p0, .int .i64 cnt, .pointer none, .bool bk] W fun e w' => e = .returned (.tuple #[.agg #[.int .i64 0, .int .i64 0, .int .i64 0], .int .i64 2]) ∧ Below W.heap.size W w') := ⟨fun W => hunt_nil⟩
  have hor := compileV_or q
  rcases hor with ⟨pl, hcv⟩ | ⟨a, e, hcv, he⟩
  · have HRN : Aside0 (∀ W, Below w.heap.size w W → Calls Tryd.prog 13 #[.slice A0_0 t.length c0_0, .int .i64 p0, .int .i64 cnt, .slice A0_1 q.length c0_1, .bool bk] W fun e w' => e = .returned (.tuple #[.agg #[.int .i64 (huntV t.length (hitsV t pl) p0 cnt bk).1.1, .int .i64 (huntV t.length (hitsV t pl) p0 cnt bk).1.2.1, .int .i64 (huntV t.length (hitsV t pl) p0 cnt bk).1.2.2], .int .i64 (huntV t.length (hitsV t pl) p0 cnt bk).2]) ∧ Below W.heap.size W w') := ⟨fun W h => rnext_calls (Kd.C_below hr0_0 h) hu0 hl0 hc0_0 (Kd.C_below hr0_1 h) hu1 hcv⟩
    have HN : Aside0 (∀ (W W' : World) (v : Value) (base : Nat), PatO W base v (some pl) → Below w.heap.size w W → Below W.heap.size W W' → Calls Tryd.prog 10 #[.slice A0_0 t.length c0_0, .int .i64 p0, .int .i64 cnt, v, .bool bk] W' fun e w' => e = .returned (.tuple #[.agg #[.int .i64 (huntV t.length (hitsV t pl) p0 cnt bk).1.1, .int .i64 (huntV t.length (hitsV t pl) p0 cnt bk).1.2.1, .int .i64 (huntV t.length (hitsV t pl) p0 cnt bk).1.2.2], .int .i64 (huntV t.length (hitsV t pl) p0 cnt bk).2]) ∧ Below W'.heap.size W' w') := ⟨fun W W' v base hp h1 h2 => hunt_calls (Kd.C_below hr0_0 (below_step h1 h2)) hu0 (by omega) hc0_0 (PatO_below hp h2)⟩
    rw [hcv] at HC
    simp only [Option.isSome_some] at HC
    clear hr0_0 hr0_1 hu0 hu1 HRC hcv
    generalize huntV t.length (hitsV t pl) p0 cnt bk = r at HRN HN
    obtain ⟨⟨r1, r2, r3⟩, r4⟩ := r
    simp only at HRN HN
    have heq : ∀ W : World, (Op.equalIn 10000 27 (.agg #[.int .i64 r1, .int .i64 r2, .int .i64 r3]) (.agg #[.int .i64 r1, .int .i64 r2, .int .i64 r3])).run Tryd.prog W = .ok true W := fun W => by
      have h := eqT (r1, r2, r3) (r1, r2, r3) W
      rw [show ((r1, r2, r3) == (r1, r2, r3)) = true from by simp] at h
      exact h
    go_enter Tryd.func3, Tryd.ntmps3
    go_wp2_with (first
      | (go_at_call 9; (with_reducible refine (HA _).out.mono ?_); rintro e w1 ⟨rfl, hx⟩; have BK := Aside0.mk (blk_below BX.out hx); have H1 := Aside0.mk (below_step HB.out hx); clear hx; have c0 := (blk_cell BK.out 0).trans rfl; have c1 := (blk_cell BK.out 1).trans rfl; have c2 := (blk_cell BK.out 2).trans rfl; have c3 := (blk_cell BK.out 3).trans rfl; have c4 := (blk_cell BK.out 4).trans rfl)
      | (go_at_call 10; (with_reducible refine (HNL.out _).mono ?_); rintro e w2 ⟨rfl, hx⟩; have BK2 := Aside0.mk (blk_alloc (blk_below BK.out hx) (.cells #[.int .i64 0, .int .i64 0, .int .i64 0] 27)); have H2 := Aside0.mk (below_alloc (below_step H1.out hx) (.cells #[.int .i64 0, .int .i64 0, .int .i64 0] 27)); clear hx; have d0 := (blk_cell BK2.out 0).trans rfl; have d1 := (blk_cell BK2.out 1).trans rfl; have d2 := (blk_cell BK2.out 2).trans rfl; have d3 := (blk_cell BK2.out 3).trans rfl; have d4 := (blk_cell BK2.out 4).trans rfl)
      | (go_at_call 11; (with_reducible refine (HC.out _ H2.out).mono ?_); rintro e w3 ⟨v3, rfl, hx, hp⟩; have BK3 := Aside0.mk (blk_below BK2.out hx); have H3 := Aside0.mk (And.intro (below_step H2.out hx) hp); clear hx hp; have e0 := (blk_cell BK3.out 0).trans rfl; have e1 := (blk_cell BK3.out 1).trans rfl; have e2 := (blk_cell BK3.out 2).trans rfl; have e3 := (blk_cell BK3.out 3).trans rfl; have e4 := (blk_cell BK3.out 4).trans rfl)
      | (go_at_call 13; (with_reducible refine (HRN.out _ H3.out.1).mono ?_); rintro e w4 ⟨rfl, hx⟩; have BK4 := Aside0.mk (blk_below BK3.out hx); have H4 := Aside0.mk (And.intro (below_alloc (below_step H3.out.1 hx) (.cells #[.int .i64 r1, .int .i64 r2, .int .i64 r3] 27)) (below_alloc hx (.cells #[.int .i64 r1, .int .i64 r2, .int .i64 r3] 27))); clear hx; have f0 := fun o_ => (blk_cell (blk_alloc BK4.out o_) 0).trans rfl; have f1 := fun o_ => (blk_cell (blk_alloc BK4.out o_) 1).trans rfl; have f2 := fun o_ => (blk_cell (blk_alloc BK4.out o_) 2).trans rfl; have f3 := fun o_ => (blk_cell (blk_alloc BK4.out o_) 3).trans rfl; have f4 := fun o_ => (blk_cell (blk_alloc BK4.out o_) 4).trans rfl)
      | (go_at_call 10; (with_reducible refine (HN.out _ _ _ _ H3.out.2 H3.out.1 H4.out.2).mono ?_); rintro e w5 ⟨rfl, hx⟩; have B7 := blk_below (blk_new w4 (.cells #[.int .i64 r1, .int .i64 r2, .int .i64 r3] 27)) hx; have H5 := Aside0.mk (below_step H4.out.1 hx); clear hx; have z0 := fun o_ => (blk_cell (blk_alloc B7 o_) 0).trans rfl; have z1 := fun o_ => (blk_cell (blk_alloc B7 o_) 1).trans rfl; have z2 := fun o_ => (blk_cell (blk_alloc B7 o_) 2).trans rfl; clear B7))
    exact bodyPost_ret (v := .bool true) (by simp [results, Tryd.results3, go_sem]) rfl ⟨rfl, below_alloc H5.out _⟩
  · rw [hcv] at HC HRC
    simp only [Option.isSome_none] at HC HRC
    clear hr0_0 hr0_1 hu0 hu1 hcv
    have n1 : (e = 0) = False := eq_false (by omega)
    have n2 : (e == 0) = false := beq_eq_false_iff_ne.2 (by omega)
    have n3 : (e != 0) = true := bne_iff_ne.2 (by omega)
    go_enter Tryd.func3, Tryd.ntmps3
    go_wp2_with (first
      | (go_at_call 9; (with_reducible refine (HA _).out.mono ?_); rintro e w1 ⟨rfl, hx⟩; have BK := Aside0.mk (blk_below BX.out hx); have H1 := Aside0.mk (below_step HB.out hx); clear hx; have c0 := (blk_cell BK.out 0).trans rfl; have c1 := (blk_cell BK.out 1).trans rfl; have c2 := (blk_cell BK.out 2).trans rfl; have c3 := (blk_cell BK.out 3).trans rfl; have c4 := (blk_cell BK.out 4).trans rfl)
      | (go_at_call 10; (with_reducible refine (HNL.out _).mono ?_); rintro e w2 ⟨rfl, hx⟩; have BK2 := Aside0.mk (blk_alloc (blk_below BK.out hx) (.cells #[.int .i64 0, .int .i64 0, .int .i64 0] 27)); have H2 := Aside0.mk (below_alloc (below_step H1.out hx) (.cells #[.int .i64 0, .int .i64 0, .int .i64 0] 27)); clear hx; have d0 := (blk_cell BK2.out 0).trans rfl; have d1 := (blk_cell BK2.out 1).trans rfl; have d2 := (blk_cell BK2.out 2).trans rfl; have d3 := (blk_cell BK2.out 3).trans rfl; have d4 := (blk_cell BK2.out 4).trans rfl)
      | (go_at_call 11; (with_reducible refine (HC.out _ H2.out).mono ?_); rintro e w3 ⟨v3, rfl, hx, hp⟩; have BK3 := Aside0.mk (blk_below BK2.out hx); have H3 := Aside0.mk (And.intro (below_step H2.out hx) hp); clear hx hp; have e0 := (blk_cell BK3.out 0).trans rfl; have e1 := (blk_cell BK3.out 1).trans rfl; have e2 := (blk_cell BK3.out 2).trans rfl; have e3 := (blk_cell BK3.out 3).trans rfl; have e4 := (blk_cell BK3.out 4).trans rfl)
      | (go_at_call 12; (with_reducible refine (HRC.out _ H3.out.1).mono ?_); rintro e w4 ⟨rfl, hx⟩; have H4 := Aside0.mk (below_step H3.out.1 hx); clear hx))
    exact bodyPost_ret (v := .bool true) (by simp [results, Tryd.results3, go_sem]) rfl ⟨rfl, H4.out⟩
end Go.Proofs.YtffpkldphkmjmaaDoor.WalkHuntNexts
end
