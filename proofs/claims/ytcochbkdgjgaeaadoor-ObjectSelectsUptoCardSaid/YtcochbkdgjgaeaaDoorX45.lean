-- Written by wip/xprint.py over the kit's print.py: the Lean function of each Go function, and the proof that the Go text comes to it.
import Derived.Test.YtcochbkdgjgaeaaDoorX0
namespace Go.Proofs.YtcochbkdgjgaeaaDoor.X
open Go.RowKit Go.Proofs.YtcochbkdgjgaeaaDoorW.PrintWords Go.Proofs.YtcochbkdgjgaeaaDoorW.PrintLast Go.Proofs.YtcochbkdgjgaeaaDoorW.PrintMore
attribute [local go_sem] max2_int min2_int max_two min_two max_three min_three max_four min_four   -- for this text's walks alone
set_option linter.unusedVariables false
set_option linter.unusedSimpArgs false

/-! ### quoinref13_pairs: function 41 -/
def quoinref13_pairs.l0 : Nat → List Int → Int → Int → List (S48) → List Int → Int → Option ((List (S48)))
 | 0, _, _, _, _, _, _ => none
 | k + 1, x0, x1, x2, x7, x8, x9 => if x9 < (x0.length : Int) then (if 0 ≤ x9 then (if (rd x0 x9) = x1 then (if x8.length < 17592186044416 then ((some (x8 ++ [x9] : List Int)).bind fun y368 => (if (rd x0 x9) = x2 then (if (y368.length : Int) > 0 then (if 0 ≤ (wrap64 ((y368.length : Int) - 1)) then (if (wrap64 ((y368.length : Int) - 1)) < (y368.length : Int) then (if x7.length < 5864062014805 then (if (wrap64 ((y368.length : Int) - 1)) ≤ (y368.length : Int) then (quoinref13_pairs.l0 k x0 x1 x2 (x7 ++ [(⟨rd y368 (wrap64 ((y368.length : Int) - 1)), x9, false⟩ : S48)]) (y368.take ((wrap64 ((y368.length : Int) - 1)) : Int).toNat) (wrap64 (x9 + 1))) else (none)) else (none)) else (none)) else (none)) else (quoinref13_pairs.l0 k x0 x1 x2 x7 y368 (wrap64 (x9 + 1)))) else (quoinref13_pairs.l0 k x0 x1 x2 x7 y368 (wrap64 (x9 + 1))))) else (none)) else (if (rd x0 x9) = x2 then (if (x8.length : Int) > 0 then (if 0 ≤ (wrap64 ((x8.length : Int) - 1)) then (if (wrap64 ((x8.length : Int) - 1)) < (x8.length : Int) then (if x7.length < 5864062014805 then (if (wrap64 ((x8.length : Int) - 1)) ≤ (x8.length : Int) then (quoinref13_pairs.l0 k x0 x1 x2 (x7 ++ [(⟨rd x8 (wrap64 ((x8.length : Int) - 1)), x9, false⟩ : S48)]) (x8.take ((wrap64 ((x8.length : Int) - 1)) : Int).toNat) (wrap64 (x9 + 1))) else (none)) else (none)) else (none)) else (none)) else (quoinref13_pairs.l0 k x0 x1 x2 x7 x8 (wrap64 (x9 + 1)))) else (quoinref13_pairs.l0 k x0 x1 x2 x7 x8 (wrap64 (x9 + 1))))) else (none)) else (some x7)
def quoinref13_pairs.f (k : Nat) (l0 : List Int) (a1 : Int) (a2 : Int) : Option ((List (S48))) := quoinref13_pairs.l0 k l0 a1 a2 ([] : List (S48)) ([] : List Int) 0
theorem quoinref13_pairs.mono_l : ∀ k, (∀ y0 y1 y2 y3 y4 y5, LeO (quoinref13_pairs.l0 k y0 y1 y2 y3 y4 y5) (quoinref13_pairs.l0 (k + 1) y0 y1 y2 y3 y4 y5))
 | 0 => fun _ _ _ _ _ _ r h => by simp [quoinref13_pairs.l0] at h
 | k + 1 => by
  have ih0 := quoinref13_pairs.mono_l k
  ·intro y0 y1 y2 y3 y4 y5
   unfold quoinref13_pairs.l0
   repeat' first
   | (with_reducible exact ih0 _ _ _ _ _ _)
   | (with_reducible exact LeO.refl _)
   | (with_reducible exact LeO.none _)
   | (with_reducible refine LeO.ite ?_ ?_)
   | (with_reducible refine LeO.bind ?_ (fun _ => ?_))
   | exact ih0 _ _ _ _ _ _
   | exact LeO.none _
   | refine LeO.ite ?_ ?_
   | refine LeO.bind ?_ (fun _ => ?_)
theorem quoinref13_pairs.mono : ∀ a0 a1 a2 k, LeO (quoinref13_pairs.f k a0 a1 a2) (quoinref13_pairs.f (k + 1) a0 a1 a2) := by
 intro a0 a1 a2 k
 have ih0 := quoinref13_pairs.mono_l k
 unfold quoinref13_pairs.f
 repeat' first
   | (with_reducible exact ih0 _ _ _ _ _ _)
   | (with_reducible exact LeO.refl _)
   | (with_reducible exact LeO.none _)
   | (with_reducible refine LeO.ite ?_ ?_)
   | (with_reducible refine LeO.bind ?_ (fun _ => ?_))
   | exact ih0 _ _ _ _ _ _
   | exact LeO.none _
   | refine LeO.ite ?_ ?_
   | refine LeO.bind ?_ (fun _ => ?_)
set_option maxHeartbeats 8000000 in
set_option maxRecDepth 100000 in
theorem quoinref13_pairs.calls (k : Nat) (A0 : Option Addr) (c0 : Nat) (l0 : List Int) (a1 : Int) (a2 : Int) (r : List (S48)) (w : World) (hr0 : Kd.C (Kd.int .u8) w A0 l0.length l0) (hc0 : l0.length ≤ c0) (h : quoinref13_pairs.f k l0 a1 a2 = some r) :
  Calls Tryd.prog 41 #[.slice A0 l0.length c0, .int .u8 a1, .int .u8 a2] w fun e w' => ∃ v0_ : Value, e = .returned (v0_) ∧ Kd.R k48 48 w' w.heap.size (fun _ => True) v0_ r ∧ Below w.heap.size w w' := by
 have hu48 := Tryd.underlying48
 have HR0 := Aside0.mk hr0
 have HC0 := Aside0.mk hc0
 clear hr0 hc0
 have HB := Aside0.mk (Below.refl w.heap.size w)
 have H : (quoinref13_pairs.l0 k l0 a1 a2 ([] : List (S48)) ([] : List Int) 0) = some r := h
 clear h
 have H' := Aside0.mk H
 clear H
 go_enter Tryd.func41, Tryd.ntmps41
 go_wp2
 go_loopg [7, 8, 9] k (fun kq v7 v8 v9 w' => ∃ (x7_1 : List (S48)) (x8_1 : List Int) (x9_1 : Int), v9 = .int .i64 x9_1 ∧ Aside0 (quoinref13_pairs.l0 kq l0 a1 a2 x7_1 x8_1 x9_1 = some r) ∧ Aside0 (kq ≤ k) ∧ Aside0 (Kd.R k48 48 w' w.heap.size (fun _ => True) v7 x7_1) ∧ Aside0 (Kd.R (Kd.int .i64) 3 w' w.heap.size (fun _ => True) v8 x8_1) ∧ Aside0 (Below w.heap.size w w'))
 case atStart => exact ⟨(([] : List (S48))), (([] : List Int)), (0), (by first | rfl | (simp; done) | (simp [*]; done)), H', ⟨Nat.le_refl _⟩, ⟨by first | exact Kd.R_nil _ _ _ _ _ | exact Kd.N_nil _ _ _ _ _ | exact Kd.V_nil _ _ _ _ _ | exact Kd.Q_nil _ _ _ _ _ | exact Kd.S_nil _ _ _ _ _⟩, ⟨by first | exact Kd.R_nil _ _ _ _ _ | exact Kd.N_nil _ _ _ _ _ | exact Kd.V_nil _ _ _ _ _ | exact Kd.Q_nil _ _ _ _ _ | exact Kd.S_nil _ _ _ _ _⟩, ⟨by repeat (first | (with_reducible first | exact HB.out | apply below_alloc | apply pw_below_drewN | apply below_drew1) | exact HB.out)⟩⟩
 case round =>
  clear H'
  try clear p2
  obtain ⟨x7_1, x8_1, x9_1, rfl, HA, HK1, HO_7, HO_8, HB⟩ := hrel
  cases gk with
  | zero => exact absurd HA.out (by simp [quoinref13_pairs.l0])
  | succ k1 =>
   have H := HA.out
   clear HA
   simp only [quoinref13_pairs.l0] at H
   by_cases c4 : x9_1 < (l0.length : Int)
   ·rw [if_pos c4] at H
    have c4b0 : decide (x9_1 < (l0.length : Int)) = true := decide_eq_true c4
    clear c4
    by_cases c5 : 0 ≤ x9_1
    ·rw [if_pos c5] at H
     have c5b0 : decide (0 ≤ x9_1) = true := decide_eq_true c5
     clear c5
     by_cases c6 : (rd l0 x9_1) = a1
     ·rw [if_pos c6] at H
      have c6b0 : ((rd l0 x9_1) == a1) = true := beq_iff_eq.mpr c6
      have c6b1 : ((rd l0 x9_1) != a1) = false := bne_eq_false_iff_eq.mpr c6
      clear c6
      by_cases c7 : x8_1.length < 17592186044416
      ·rw [if_pos c7] at H
       have LMc7 := Aside0.mk c7
       clear c7
       obtain ⟨y368, hy368⟩ : ∃ y_ : List Int, y_ = (x8_1 ++ [x9_1]) := ⟨_, rfl⟩
       replace H : (if (rd l0 x9_1) = a2 then (if (y368.length : Int) > 0 then (if 0 ≤ (wrap64 ((y368.length : Int) - 1)) then (if (wrap64 ((y368.length : Int) - 1)) < (y368.length : Int) then (if x7_1.length < 5864062014805 then (if (wrap64 ((y368.length : Int) - 1)) ≤ (y368.length : Int) then (quoinref13_pairs.l0 k1 l0 a1 a2 (x7_1 ++ [(⟨rd y368 (wrap64 ((y368.length : Int) - 1)), x9_1, false⟩ : S48)]) (y368.take ((wrap64 ((y368.length : Int) - 1)) : Int).toNat) (wrap64 (x9_1 + 1))) else (none)) else (none)) else (none)) else (none)) else (quoinref13_pairs.l0 k1 l0 a1 a2 x7_1 y368 (wrap64 (x9_1 + 1)))) else (quoinref13_pairs.l0 k1 l0 a1 a2 x7_1 y368 (wrap64 (x9_1 + 1)))) = some r := by first | (rw [hy368]; with_reducible exact H) | (have H2_ := (Option.bind_some _ _).symm.trans H; rw [hy368]; with_reducible exact H2_) | (have H2_ := (Option.bind_some _ _).symm.trans H; with_reducible exact H2_) | with_reducible exact H | (rw [hy368]; exact H) | exact H
       have Ny368 := Aside0.mk hy368
       clear hy368
       by_cases c8 : (rd l0 x9_1) = a2
       ·rw [if_pos c8] at H
        have c8b0 : ((rd l0 x9_1) == a2) = true := beq_iff_eq.mpr c8
        have c8b1 : ((rd l0 x9_1) != a2) = false := bne_eq_false_iff_eq.mpr c8
        clear c8
        by_cases c9 : (y368.length : Int) > 0
        ·rw [if_pos c9] at H
         have c9b0 : decide (0 < (y368.length : Int)) = true := decide_eq_true c9
         have c9b1 : decide (0 < y368.length) = true := decide_eq_true (by omega)
         clear c9
         obtain ⟨ji10, hji10⟩ : ∃ j_ : Int, (wrap64 ((y368.length : Int) - 1)) = j_ := ⟨_, rfl⟩
         replace H : (if 0 ≤ (ji10) then (if (ji10) < (y368.length : Int) then (if x7_1.length < 5864062014805 then (if (ji10) ≤ (y368.length : Int) then (quoinref13_pairs.l0 k1 l0 a1 a2 (x7_1 ++ [(⟨rd y368 (ji10), x9_1, false⟩ : S48)]) (y368.take ((ji10) : Int).toNat) (wrap64 (x9_1 + 1))) else (none)) else (none)) else (none)) else (none)) = some r := by first | (rw [hji10] at H; exact H) | (simp only [hji10] at H ⊢; exact H)
         have hji10w : (IntKind.i64.wrap ((y368.length : Int) - 1)) = ji10 := (i64_w _).trans hji10
         by_cases c11 : 0 ≤ (ji10)
         ·rw [if_pos c11] at H
          have c11b0 : decide (0 ≤ (ji10)) = true := decide_eq_true c11
          clear c11
          by_cases c12 : (ji10) < (y368.length : Int)
          ·rw [if_pos c12] at H
           have c12b0 : decide ((ji10) < (y368.length : Int)) = true := decide_eq_true c12
           clear c12
           by_cases c13 : x7_1.length < 5864062014805
           ·rw [if_pos c13] at H
            have LMc13 := Aside0.mk c13
            clear c13
            obtain ⟨y373, hy373⟩ : ∃ y_ : List (S48), y_ = (x7_1 ++ [(⟨rd y368 (ji10), x9_1, false⟩ : S48)]) := ⟨_, rfl⟩
            replace H : (if (ji10) ≤ (y368.length : Int) then (quoinref13_pairs.l0 k1 l0 a1 a2 y373 (y368.take ((ji10) : Int).toNat) (wrap64 (x9_1 + 1))) else (none)) = some r := by first | (rw [hy373]; with_reducible exact H) | (have H2_ := (Option.bind_some _ _).symm.trans H; rw [hy373]; with_reducible exact H2_) | (have H2_ := (Option.bind_some _ _).symm.trans H; with_reducible exact H2_) | with_reducible exact H | (rw [hy373]; exact H) | exact H
            have Ny373 := Aside0.mk hy373
            clear hy373
            by_cases c14 : (ji10) ≤ (y368.length : Int)
            ·rw [if_pos c14] at H
             have c14b0 := eq_true c14
             have c14b1 : decide ((ji10) ≤ (y368.length : Int)) = true := decide_eq_true c14
             clear c14
             obtain ⟨y376, hy376⟩ : ∃ y_ : List Int, y_ = (y368.take ((ji10) : Int).toNat) := ⟨_, rfl⟩
             replace H : (quoinref13_pairs.l0 k1 l0 a1 a2 y373 y376 (wrap64 (x9_1 + 1))) = some r := by first | (rw [hy376]; with_reducible exact H) | (have H2_ := (Option.bind_some _ _).symm.trans H; rw [hy376]; with_reducible exact H2_) | (have H2_ := (Option.bind_some _ _).symm.trans H; with_reducible exact H2_) | with_reducible exact H | (rw [hy376]; exact H) | exact H
             have Ny376 := Aside0.mk hy376
             clear hy376
             have H' := Aside0.mk H
             clear H
             have p367 : 0 ≤ (x9_1 : Int) := of_decide_eq_true (by first | (with_reducible assumption) | assumption)
             have q367 : x9_1 < (l0.length : Int) := of_decide_eq_true (by first | (with_reducible assumption) | assumption)
             obtain ⟨ad367, e367, hx367_0⟩ := Kd.at_int HR0.out x9_1 p367 q367
             cases e367
             replace hx367_0 := (HB.out.cell (World.block_lt_of_cell? w _ hx367_0)).trans hx367_0
             replace p367 := eq_true p367
             replace q367 := eq_true q367
             go_wp2_with (first | ((with_reducible refine gate_builtin (b := .append) (xs := #[.tmp 22, .tmp 24]) rfl ?_); (try (refine gate_guard (by rfl) ?_; dsimp only)); at_builtin; refine Kd.R_append (Kd.int .i64) (w0 := w) w.heap.size rfl (.tmp 22) (.tmp 24) 68 3 (.int .i64 0) 8 rfl Tryd.underlying68 info3 rfl (by decide) (by omega) u8 x8_1 x9_1 [.int .i64 x9_1] (fun _ => True) (fun _ => False) rfl rfl ?aP (fun _ hk => hk.elim) ?aF ?aO ?aB ?aS ?aL ?_; (case aP => exact rfl); (case aB => exact (by repeat (first | (with_reducible first | exact HB.out | apply below_alloc | apply pw_below_drewN | apply below_drew1) | exact HB.out))); (case aF => exact (fun _ _ => trivial)); (case aO => exact (by (with_reducible repeat (first | apply Kd.R_alloc | apply Kd.R_drewN | apply Kd.R_drew)); exact HO_8.out)); (case aS => exact (below_size (by repeat (first | (with_reducible first | exact HB.out | apply below_alloc | apply pw_below_drewN | apply below_drew1) | exact HB.out)))); (case aL => have := LMc7.out; omega); intro v369 w15 ho hb hg hat; rw [← Ny368.out] at ho; have n0_ := Aside0.mk (Kd.R_over' (by (with_reducible repeat (first | apply Kd.R_alloc | apply Kd.R_drewN | apply Kd.R_drew)); exact HO_7.out) (Kd.R_typed (by (with_reducible repeat (first | apply Kd.R_alloc | apply Kd.R_drewN | apply Kd.R_drew)); exact HO_8.out)) (by decide) hg); have n1_ := Aside0.mk (hb); have n2_ := Aside0.mk (ho); clear HO_7; clear HB; clear HO_8; have HO_7 := n0_; have HB := n1_; have HO370 := n2_; clear n0_ n1_ n2_; clear ho hb hg hat; have p371 : 0 ≤ (x9_1 : Int) := of_decide_eq_true (by first | (with_reducible assumption) | assumption); have q371 : x9_1 < (l0.length : Int) := of_decide_eq_true (by first | (with_reducible assumption) | assumption); obtain ⟨ad371, e371, hx371_0⟩ := Kd.at_int HR0.out x9_1 p371 q371; obtain rfl : ad367 = ad371 := (by injection e371); replace hx371_0 := (HB.out.cell (World.block_lt_of_cell? w _ hx371_0)).trans hx371_0; replace p371 := eq_true p371; replace q371 := eq_true q371; obtain ⟨Ao16, co16, eo16⟩ := Kd.R_slice HO370.out; subst eo16; have p372 : 0 ≤ ((ji10) : Int) := of_decide_eq_true (by first | (with_reducible assumption) | assumption); have q372 : (ji10) < (y368.length : Int) := of_decide_eq_true (by first | (with_reducible assumption) | assumption); obtain ⟨ad372, e372, hx372_0⟩ := Kd.at_int (Kd.R_reads' HO370.out).2.2 (ji10) p372 q372; cases e372; replace p372 := eq_true p372; replace q372 := eq_true q372) | ((with_reducible refine gate_builtin (b := .append) (xs := #[.tmp 37, .tmp 46]) rfl ?_); (try (refine gate_guard (by rfl) ?_; dsimp only)); at_builtin; refine Kd.R_append k48 (w0 := w) w.heap.size rfl (.tmp 37) (.tmp 46) 49 48 (.agg #[(.int .i64 0), (.int .i64 0), (.bool false)]) 24 rfl Tryd.underlying49 info48 rfl (by decide) (by omega) u7 x7_1 (⟨rd y368 (ji10), x9_1, false⟩ : S48) [.int .i64 (rd y368 (ji10)), .int .i64 x9_1, .bool false] (fun _ => True) (fun _ => False) rfl rfl ?aP (fun _ hk => hk.elim) ?aF ?aO ?aB ?aS ?aL ?_; (case aP => exact k48_mkM _ _ _ (⟨rd y368 (ji10), x9_1, false⟩ : S48)); (case aB => exact (by repeat (first | (with_reducible first | exact HB.out | apply below_alloc | apply pw_below_drewN | apply below_drew1) | exact HB.out))); (case aF => exact (fun _ _ => trivial)); (case aO => exact (by (with_reducible repeat (first | apply Kd.R_alloc | apply Kd.R_drewN | apply Kd.R_drew)); exact HO_7.out)); (case aS => exact (below_size (by repeat (first | (with_reducible first | exact HB.out | apply below_alloc | apply pw_below_drewN | apply below_drew1) | exact HB.out)))); (case aL => have := LMc13.out; omega); intro v374 w17 ho hb hg hat; rw [← Ny373.out] at ho; have n0_ := Aside0.mk (Kd.R_over' (by (with_reducible repeat (first | apply Kd.R_alloc | apply Kd.R_drewN | apply Kd.R_drew)); exact HO370.out) (Kd.R_typed (by (with_reducible repeat (first | apply Kd.R_alloc | apply Kd.R_drewN | apply Kd.R_drew)); exact HO_7.out)) (by decide) hg); have n1_ := Aside0.mk (hb); have n2_ := Aside0.mk (ho); clear HO370; clear HB; clear HO_7; have HO370 := n0_; have HB := n1_; have HO375 := n2_; clear n0_ n1_ n2_; clear ho hb hg hat; have q18 : ((ji10) : Int) ≤ ((y368.length : Int) : Int) := of_decide_eq_true (by first | (with_reducible assumption) | assumption); obtain ⟨i018, hi018, _, hsz18, _⟩ := info_parts info3; have hcut18 := cut_to (P := Tryd.prog) 68 3 .i64 Tryd.underlying68 hi018 (some ad372) y368.length co16 (ji10) (of_decide_eq_true (by first | (with_reducible assumption) | assumption)) q18 (Kd.R_reads' HO370.out).2.1; have hr18 := Kd.R_take (m := ((ji10) : Int).toNat) HO370.out (by omega); have hy18 : y376.length = ((ji10) : Int).toNat := (by rw [Ny376.out, List.length_take]; omega); rw [← Ny376.out] at hr18; rw [← hy18] at hr18 hcut18; clear hy18 hi018 hsz18 HO370; have HO378 := Aside0.mk hr18; clear hr18; replace q18 := eq_true q18))
             go_roundg k1
             case measure => have := HK1.out; omega
             case rel => exact ⟨(y373), (y376), (wrap64 (x9_1 + 1)), (by first | rfl | (simp; done) | (simp [*]; done)), H', ⟨by have := HK1.out; omega⟩, ⟨by (with_reducible repeat (first | apply Kd.R_alloc | apply Kd.R_drewN | apply Kd.R_drew)); exact HO375.out⟩, ⟨by (with_reducible repeat (first | apply Kd.R_alloc | apply Kd.R_drewN | apply Kd.R_drew)); exact HO378.out⟩, ⟨by repeat (first | (with_reducible first | exact HB.out | apply below_alloc | apply pw_below_drewN | apply below_drew1) | exact HB.out)⟩⟩
            ·rw [if_neg c14] at H
             exact absurd H (by simp)
           ·rw [if_neg c13] at H
            exact absurd H (by simp)
          ·rw [if_neg c12] at H
           exact absurd H (by simp)
         ·rw [if_neg c11] at H
          exact absurd H (by simp)
        ·rw [if_neg c9] at H
         have c9b0 : decide (0 < (y368.length : Int)) = false := decide_eq_false c9
         have c9b1 : decide (0 < y368.length) = false := decide_eq_false (by omega)
         clear c9
         have H' := Aside0.mk H
         clear H
         have p367 : 0 ≤ (x9_1 : Int) := of_decide_eq_true (by first | (with_reducible assumption) | assumption)
         have q367 : x9_1 < (l0.length : Int) := of_decide_eq_true (by first | (with_reducible assumption) | assumption)
         obtain ⟨ad367, e367, hx367_0⟩ := Kd.at_int HR0.out x9_1 p367 q367
         cases e367
         replace hx367_0 := (HB.out.cell (World.block_lt_of_cell? w _ hx367_0)).trans hx367_0
         replace p367 := eq_true p367
         replace q367 := eq_true q367
         go_wp2_with (first | ((with_reducible refine gate_builtin (b := .append) (xs := #[.tmp 22, .tmp 24]) rfl ?_); (try (refine gate_guard (by rfl) ?_; dsimp only)); at_builtin; refine Kd.R_append (Kd.int .i64) (w0 := w) w.heap.size rfl (.tmp 22) (.tmp 24) 68 3 (.int .i64 0) 8 rfl Tryd.underlying68 info3 rfl (by decide) (by omega) u8 x8_1 x9_1 [.int .i64 x9_1] (fun _ => True) (fun _ => False) rfl rfl ?aP (fun _ hk => hk.elim) ?aF ?aO ?aB ?aS ?aL ?_; (case aP => exact rfl); (case aB => exact (by repeat (first | (with_reducible first | exact HB.out | apply below_alloc | apply pw_below_drewN | apply below_drew1) | exact HB.out))); (case aF => exact (fun _ _ => trivial)); (case aO => exact (by (with_reducible repeat (first | apply Kd.R_alloc | apply Kd.R_drewN | apply Kd.R_drew)); exact HO_8.out)); (case aS => exact (below_size (by repeat (first | (with_reducible first | exact HB.out | apply below_alloc | apply pw_below_drewN | apply below_drew1) | exact HB.out)))); (case aL => have := LMc7.out; omega); intro v369 w19 ho hb hg hat; rw [← Ny368.out] at ho; have n0_ := Aside0.mk (Kd.R_over' (by (with_reducible repeat (first | apply Kd.R_alloc | apply Kd.R_drewN | apply Kd.R_drew)); exact HO_7.out) (Kd.R_typed (by (with_reducible repeat (first | apply Kd.R_alloc | apply Kd.R_drewN | apply Kd.R_drew)); exact HO_8.out)) (by decide) hg); have n1_ := Aside0.mk (hb); have n2_ := Aside0.mk (ho); clear HO_7; clear HB; clear HO_8; have HO_7 := n0_; have HB := n1_; have HO370 := n2_; clear n0_ n1_ n2_; clear ho hb hg hat; have p371 : 0 ≤ (x9_1 : Int) := of_decide_eq_true (by first | (with_reducible assumption) | assumption); have q371 : x9_1 < (l0.length : Int) := of_decide_eq_true (by first | (with_reducible assumption) | assumption); obtain ⟨ad371, e371, hx371_0⟩ := Kd.at_int HR0.out x9_1 p371 q371; obtain rfl : ad367 = ad371 := (by injection e371); replace hx371_0 := (HB.out.cell (World.block_lt_of_cell? w _ hx371_0)).trans hx371_0; replace p371 := eq_true p371; replace q371 := eq_true q371; obtain ⟨Ao20, co20, eo20⟩ := Kd.R_slice HO370.out; subst eo20))
         go_roundg k1
         case measure => have := HK1.out; omega
         case rel => exact ⟨(x7_1), (y368), (wrap64 (x9_1 + 1)), (by first | rfl | (simp; done) | (simp [*]; done)), H', ⟨by have := HK1.out; omega⟩, ⟨by (with_reducible repeat (first | apply Kd.R_alloc | apply Kd.R_drewN | apply Kd.R_drew)); exact HO_7.out⟩, ⟨by (with_reducible repeat (first | apply Kd.R_alloc | apply Kd.R_drewN | apply Kd.R_drew)); exact HO370.out⟩, ⟨by repeat (first | (with_reducible first | exact HB.out | apply below_alloc | apply pw_below_drewN | apply below_drew1) | exact HB.out)⟩⟩
       ·rw [if_neg c8] at H
        have c8b0 : ((rd l0 x9_1) == a2) = false := beq_eq_false_iff_ne.mpr c8
        have c8b1 : ((rd l0 x9_1) != a2) = true := bne_iff_ne.mpr c8
        have H' := Aside0.mk H
        clear H
        have p367 : 0 ≤ (x9_1 : Int) := of_decide_eq_true (by first | (with_reducible assumption) | assumption)
        have q367 : x9_1 < (l0.length : Int) := of_decide_eq_true (by first | (with_reducible assumption) | assumption)
        obtain ⟨ad367, e367, hx367_0⟩ := Kd.at_int HR0.out x9_1 p367 q367
        cases e367
        replace hx367_0 := (HB.out.cell (World.block_lt_of_cell? w _ hx367_0)).trans hx367_0
        replace p367 := eq_true p367
        replace q367 := eq_true q367
        go_wp2_with (first | ((with_reducible refine gate_builtin (b := .append) (xs := #[.tmp 22, .tmp 24]) rfl ?_); (try (refine gate_guard (by rfl) ?_; dsimp only)); at_builtin; refine Kd.R_append (Kd.int .i64) (w0 := w) w.heap.size rfl (.tmp 22) (.tmp 24) 68 3 (.int .i64 0) 8 rfl Tryd.underlying68 info3 rfl (by decide) (by omega) u8 x8_1 x9_1 [.int .i64 x9_1] (fun _ => True) (fun _ => False) rfl rfl ?aP (fun _ hk => hk.elim) ?aF ?aO ?aB ?aS ?aL ?_; (case aP => exact rfl); (case aB => exact (by repeat (first | (with_reducible first | exact HB.out | apply below_alloc | apply pw_below_drewN | apply below_drew1) | exact HB.out))); (case aF => exact (fun _ _ => trivial)); (case aO => exact (by (with_reducible repeat (first | apply Kd.R_alloc | apply Kd.R_drewN | apply Kd.R_drew)); exact HO_8.out)); (case aS => exact (below_size (by repeat (first | (with_reducible first | exact HB.out | apply below_alloc | apply pw_below_drewN | apply below_drew1) | exact HB.out)))); (case aL => have := LMc7.out; omega); intro v369 w21 ho hb hg hat; rw [← Ny368.out] at ho; have n0_ := Aside0.mk (Kd.R_over' (by (with_reducible repeat (first | apply Kd.R_alloc | apply Kd.R_drewN | apply Kd.R_drew)); exact HO_7.out) (Kd.R_typed (by (with_reducible repeat (first | apply Kd.R_alloc | apply Kd.R_drewN | apply Kd.R_drew)); exact HO_8.out)) (by decide) hg); have n1_ := Aside0.mk (hb); have n2_ := Aside0.mk (ho); clear HO_7; clear HB; clear HO_8; have HO_7 := n0_; have HB := n1_; have HO370 := n2_; clear n0_ n1_ n2_; clear ho hb hg hat; have p371 : 0 ≤ (x9_1 : Int) := of_decide_eq_true (by first | (with_reducible assumption) | assumption); have q371 : x9_1 < (l0.length : Int) := of_decide_eq_true (by first | (with_reducible assumption) | assumption); obtain ⟨ad371, e371, hx371_0⟩ := Kd.at_int HR0.out x9_1 p371 q371; obtain rfl : ad367 = ad371 := (by injection e371); replace hx371_0 := (HB.out.cell (World.block_lt_of_cell? w _ hx371_0)).trans hx371_0; replace p371 := eq_true p371; replace q371 := eq_true q371))
        go_roundg k1
        case measure => have := HK1.out; omega
        case rel => exact ⟨(x7_1), (y368), (wrap64 (x9_1 + 1)), (by first | rfl | (simp; done) | (simp [*]; done)), H', ⟨by have := HK1.out; omega⟩, ⟨by (with_reducible repeat (first | apply Kd.R_alloc | apply Kd.R_drewN | apply Kd.R_drew)); exact HO_7.out⟩, ⟨by (with_reducible repeat (first | apply Kd.R_alloc | apply Kd.R_drewN | apply Kd.R_drew)); exact HO370.out⟩, ⟨by repeat (first | (with_reducible first | exact HB.out | apply below_alloc | apply pw_below_drewN | apply below_drew1) | exact HB.out)⟩⟩
      ·rw [if_neg c7] at H
       exact absurd H (by simp)
     ·rw [if_neg c6] at H
      have c6b0 : ((rd l0 x9_1) == a1) = false := beq_eq_false_iff_ne.mpr c6
      have c6b1 : ((rd l0 x9_1) != a1) = true := bne_iff_ne.mpr c6
      by_cases c22 : (rd l0 x9_1) = a2
      ·rw [if_pos c22] at H
       have c22b0 : ((rd l0 x9_1) == a2) = true := beq_iff_eq.mpr c22
       have c22b1 : ((rd l0 x9_1) != a2) = false := bne_eq_false_iff_eq.mpr c22
       clear c22
       by_cases c23 : (x8_1.length : Int) > 0
       ·rw [if_pos c23] at H
        have c23b0 : decide (0 < (x8_1.length : Int)) = true := decide_eq_true c23
        have c23b1 : decide (0 < x8_1.length) = true := decide_eq_true (by omega)
        clear c23
        obtain ⟨ji24, hji24⟩ : ∃ j_ : Int, (wrap64 ((x8_1.length : Int) - 1)) = j_ := ⟨_, rfl⟩
        replace H : (if 0 ≤ (ji24) then (if (ji24) < (x8_1.length : Int) then (if x7_1.length < 5864062014805 then (if (ji24) ≤ (x8_1.length : Int) then (quoinref13_pairs.l0 k1 l0 a1 a2 (x7_1 ++ [(⟨rd x8_1 (ji24), x9_1, false⟩ : S48)]) (x8_1.take ((ji24) : Int).toNat) (wrap64 (x9_1 + 1))) else (none)) else (none)) else (none)) else (none)) = some r := by first | (rw [hji24] at H; exact H) | (simp only [hji24] at H ⊢; exact H)
        have hji24w : (IntKind.i64.wrap ((x8_1.length : Int) - 1)) = ji24 := (i64_w _).trans hji24
        by_cases c25 : 0 ≤ (ji24)
        ·rw [if_pos c25] at H
         have c25b0 : decide (0 ≤ (ji24)) = true := decide_eq_true c25
         clear c25
         by_cases c26 : (ji24) < (x8_1.length : Int)
         ·rw [if_pos c26] at H
          have c26b0 : decide ((ji24) < (x8_1.length : Int)) = true := decide_eq_true c26
          clear c26
          by_cases c27 : x7_1.length < 5864062014805
          ·rw [if_pos c27] at H
           have LMc27 := Aside0.mk c27
           clear c27
           obtain ⟨y381, hy381⟩ : ∃ y_ : List (S48), y_ = (x7_1 ++ [(⟨rd x8_1 (ji24), x9_1, false⟩ : S48)]) := ⟨_, rfl⟩
           replace H : (if (ji24) ≤ (x8_1.length : Int) then (quoinref13_pairs.l0 k1 l0 a1 a2 y381 (x8_1.take ((ji24) : Int).toNat) (wrap64 (x9_1 + 1))) else (none)) = some r := by first | (rw [hy381]; with_reducible exact H) | (have H2_ := (Option.bind_some _ _).symm.trans H; rw [hy381]; with_reducible exact H2_) | (have H2_ := (Option.bind_some _ _).symm.trans H; with_reducible exact H2_) | with_reducible exact H | (rw [hy381]; exact H) | exact H
           have Ny381 := Aside0.mk hy381
           clear hy381
           by_cases c28 : (ji24) ≤ (x8_1.length : Int)
           ·rw [if_pos c28] at H
            have c28b0 := eq_true c28
            have c28b1 : decide ((ji24) ≤ (x8_1.length : Int)) = true := decide_eq_true c28
            clear c28
            obtain ⟨y384, hy384⟩ : ∃ y_ : List Int, y_ = (x8_1.take ((ji24) : Int).toNat) := ⟨_, rfl⟩
            replace H : (quoinref13_pairs.l0 k1 l0 a1 a2 y381 y384 (wrap64 (x9_1 + 1))) = some r := by first | (rw [hy384]; with_reducible exact H) | (have H2_ := (Option.bind_some _ _).symm.trans H; rw [hy384]; with_reducible exact H2_) | (have H2_ := (Option.bind_some _ _).symm.trans H; with_reducible exact H2_) | with_reducible exact H | (rw [hy384]; exact H) | exact H
            have Ny384 := Aside0.mk hy384
            clear hy384
            have H' := Aside0.mk H
            clear H
            have p367 : 0 ≤ (x9_1 : Int) := of_decide_eq_true (by first | (with_reducible assumption) | assumption)
            have q367 : x9_1 < (l0.length : Int) := of_decide_eq_true (by first | (with_reducible assumption) | assumption)
            obtain ⟨ad367, e367, hx367_0⟩ := Kd.at_int HR0.out x9_1 p367 q367
            cases e367
            replace hx367_0 := (HB.out.cell (World.block_lt_of_cell? w _ hx367_0)).trans hx367_0
            replace p367 := eq_true p367
            replace q367 := eq_true q367
            have p379 : 0 ≤ (x9_1 : Int) := of_decide_eq_true (by first | (with_reducible assumption) | assumption)
            have q379 : x9_1 < (l0.length : Int) := of_decide_eq_true (by first | (with_reducible assumption) | assumption)
            obtain ⟨ad379, e379, hx379_0⟩ := Kd.at_int HR0.out x9_1 p379 q379
            obtain rfl : ad367 = ad379 := (by injection e379)
            replace hx379_0 := (HB.out.cell (World.block_lt_of_cell? w _ hx379_0)).trans hx379_0
            replace p379 := eq_true p379
            replace q379 := eq_true q379
            obtain ⟨Ao29, co29, eo29⟩ := Kd.R_slice HO_8.out
            subst eo29
            have p380 : 0 ≤ ((ji24) : Int) := of_decide_eq_true (by first | (with_reducible assumption) | assumption)
            have q380 : (ji24) < (x8_1.length : Int) := of_decide_eq_true (by first | (with_reducible assumption) | assumption)
            obtain ⟨ad380, e380, hx380_0⟩ := Kd.at_int (Kd.R_reads' HO_8.out).2.2 (ji24) p380 q380
            cases e380
            replace p380 := eq_true p380
            replace q380 := eq_true q380
            go_wp2_with (first | ((with_reducible refine gate_builtin (b := .append) (xs := #[.tmp 37, .tmp 46]) rfl ?_); (try (refine gate_guard (by rfl) ?_; dsimp only)); at_builtin; refine Kd.R_append k48 (w0 := w) w.heap.size rfl (.tmp 37) (.tmp 46) 49 48 (.agg #[(.int .i64 0), (.int .i64 0), (.bool false)]) 24 rfl Tryd.underlying49 info48 rfl (by decide) (by omega) u7 x7_1 (⟨rd x8_1 (ji24), x9_1, false⟩ : S48) [.int .i64 (rd x8_1 (ji24)), .int .i64 x9_1, .bool false] (fun _ => True) (fun _ => False) rfl rfl ?aP (fun _ hk => hk.elim) ?aF ?aO ?aB ?aS ?aL ?_; (case aP => exact k48_mkM _ _ _ (⟨rd x8_1 (ji24), x9_1, false⟩ : S48)); (case aB => exact (by repeat (first | (with_reducible first | exact HB.out | apply below_alloc | apply pw_below_drewN | apply below_drew1) | exact HB.out))); (case aF => exact (fun _ _ => trivial)); (case aO => exact (by (with_reducible repeat (first | apply Kd.R_alloc | apply Kd.R_drewN | apply Kd.R_drew)); exact HO_7.out)); (case aS => exact (below_size (by repeat (first | (with_reducible first | exact HB.out | apply below_alloc | apply pw_below_drewN | apply below_drew1) | exact HB.out)))); (case aL => have := LMc27.out; omega); intro v382 w30 ho hb hg hat; rw [← Ny381.out] at ho; have n0_ := Aside0.mk (Kd.R_over' (by (with_reducible repeat (first | apply Kd.R_alloc | apply Kd.R_drewN | apply Kd.R_drew)); exact HO_8.out) (Kd.R_typed (by (with_reducible repeat (first | apply Kd.R_alloc | apply Kd.R_drewN | apply Kd.R_drew)); exact HO_7.out)) (by decide) hg); have n1_ := Aside0.mk (hb); have n2_ := Aside0.mk (ho); clear HO_8; clear HB; clear HO_7; have HO_8 := n0_; have HB := n1_; have HO383 := n2_; clear n0_ n1_ n2_; clear ho hb hg hat; have q31 : ((ji24) : Int) ≤ ((x8_1.length : Int) : Int) := of_decide_eq_true (by first | (with_reducible assumption) | assumption); obtain ⟨i031, hi031, _, hsz31, _⟩ := info_parts info3; have hcut31 := cut_to (P := Tryd.prog) 68 3 .i64 Tryd.underlying68 hi031 (some ad380) x8_1.length co29 (ji24) (of_decide_eq_true (by first | (with_reducible assumption) | assumption)) q31 (Kd.R_reads' HO_8.out).2.1; have hr31 := Kd.R_take (m := ((ji24) : Int).toNat) HO_8.out (by omega); have hy31 : y384.length = ((ji24) : Int).toNat := (by rw [Ny384.out, List.length_take]; omega); rw [← Ny384.out] at hr31; rw [← hy31] at hr31 hcut31; clear hy31 hi031 hsz31 HO_8; have HO386 := Aside0.mk hr31; clear hr31; replace q31 := eq_true q31))
            go_roundg k1
            case measure => have := HK1.out; omega
            case rel => exact ⟨(y381), (y384), (wrap64 (x9_1 + 1)), (by first | rfl | (simp; done) | (simp [*]; done)), H', ⟨by have := HK1.out; omega⟩, ⟨by (with_reducible repeat (first | apply Kd.R_alloc | apply Kd.R_drewN | apply Kd.R_drew)); exact HO383.out⟩, ⟨by (with_reducible repeat (first | apply Kd.R_alloc | apply Kd.R_drewN | apply Kd.R_drew)); exact HO386.out⟩, ⟨by repeat (first | (with_reducible first | exact HB.out | apply below_alloc | apply pw_below_drewN | apply below_drew1) | exact HB.out)⟩⟩
           ·rw [if_neg c28] at H
            exact absurd H (by simp)
          ·rw [if_neg c27] at H
           exact absurd H (by simp)
         ·rw [if_neg c26] at H
          exact absurd H (by simp)
        ·rw [if_neg c25] at H
         exact absurd H (by simp)
       ·rw [if_neg c23] at H
        have c23b0 : decide (0 < (x8_1.length : Int)) = false := decide_eq_false c23
        have c23b1 : decide (0 < x8_1.length) = false := decide_eq_false (by omega)
        clear c23
        have H' := Aside0.mk H
        clear H
        have p367 : 0 ≤ (x9_1 : Int) := of_decide_eq_true (by first | (with_reducible assumption) | assumption)
        have q367 : x9_1 < (l0.length : Int) := of_decide_eq_true (by first | (with_reducible assumption) | assumption)
        obtain ⟨ad367, e367, hx367_0⟩ := Kd.at_int HR0.out x9_1 p367 q367
        cases e367
        replace hx367_0 := (HB.out.cell (World.block_lt_of_cell? w _ hx367_0)).trans hx367_0
        replace p367 := eq_true p367
        replace q367 := eq_true q367
        have p379 : 0 ≤ (x9_1 : Int) := of_decide_eq_true (by first | (with_reducible assumption) | assumption)
        have q379 : x9_1 < (l0.length : Int) := of_decide_eq_true (by first | (with_reducible assumption) | assumption)
        obtain ⟨ad379, e379, hx379_0⟩ := Kd.at_int HR0.out x9_1 p379 q379
        obtain rfl : ad367 = ad379 := (by injection e379)
        replace hx379_0 := (HB.out.cell (World.block_lt_of_cell? w _ hx379_0)).trans hx379_0
        replace p379 := eq_true p379
        replace q379 := eq_true q379
        obtain ⟨Ao32, co32, eo32⟩ := Kd.R_slice HO_8.out
        subst eo32
        go_wp2
        go_roundg k1
        case measure => have := HK1.out; omega
        case rel => exact ⟨(x7_1), (x8_1), (wrap64 (x9_1 + 1)), (by first | rfl | (simp; done) | (simp [*]; done)), H', ⟨by have := HK1.out; omega⟩, ⟨by (with_reducible repeat (first | apply Kd.R_alloc | apply Kd.R_drewN | apply Kd.R_drew)); exact HO_7.out⟩, ⟨by (with_reducible repeat (first | apply Kd.R_alloc | apply Kd.R_drewN | apply Kd.R_drew)); exact HO_8.out⟩, ⟨by repeat (first | (with_reducible first | exact HB.out | apply below_alloc | apply pw_below_drewN | apply below_drew1) | exact HB.out)⟩⟩
      ·rw [if_neg c22] at H
       have c22b0 : ((rd l0 x9_1) == a2) = false := beq_eq_false_iff_ne.mpr c22
       have c22b1 : ((rd l0 x9_1) != a2) = true := bne_iff_ne.mpr c22
       have H' := Aside0.mk H
       clear H
       have p367 : 0 ≤ (x9_1 : Int) := of_decide_eq_true (by first | (with_reducible assumption) | assumption)
       have q367 : x9_1 < (l0.length : Int) := of_decide_eq_true (by first | (with_reducible assumption) | assumption)
       obtain ⟨ad367, e367, hx367_0⟩ := Kd.at_int HR0.out x9_1 p367 q367
       cases e367
       replace hx367_0 := (HB.out.cell (World.block_lt_of_cell? w _ hx367_0)).trans hx367_0
       replace p367 := eq_true p367
       replace q367 := eq_true q367
       have p379 : 0 ≤ (x9_1 : Int) := of_decide_eq_true (by first | (with_reducible assumption) | assumption)
       have q379 : x9_1 < (l0.length : Int) := of_decide_eq_true (by first | (with_reducible assumption) | assumption)
       obtain ⟨ad379, e379, hx379_0⟩ := Kd.at_int HR0.out x9_1 p379 q379
       obtain rfl : ad367 = ad379 := (by injection e379)
       replace hx379_0 := (HB.out.cell (World.block_lt_of_cell? w _ hx379_0)).trans hx379_0
       replace p379 := eq_true p379
       replace q379 := eq_true q379
       go_wp2
       go_roundg k1
       case measure => have := HK1.out; omega
       case rel => exact ⟨(x7_1), (x8_1), (wrap64 (x9_1 + 1)), (by first | rfl | (simp; done) | (simp [*]; done)), H', ⟨by have := HK1.out; omega⟩, ⟨by (with_reducible repeat (first | apply Kd.R_alloc | apply Kd.R_drewN | apply Kd.R_drew)); exact HO_7.out⟩, ⟨by (with_reducible repeat (first | apply Kd.R_alloc | apply Kd.R_drewN | apply Kd.R_drew)); exact HO_8.out⟩, ⟨by repeat (first | (with_reducible first | exact HB.out | apply below_alloc | apply pw_below_drewN | apply below_drew1) | exact HB.out)⟩⟩
    ·rw [if_neg c5] at H
     exact absurd H (by simp)
   ·rw [if_neg c4] at H
    have c4b0 : decide (x9_1 < (l0.length : Int)) = false := decide_eq_false c4
    clear c4
    obtain rfl := Option.some.inj H
    go_wp2
    go_ret
    exact ⟨_, by first | rfl | (simp [errW_none, errW_some] <;> rfl) | (simp [*, errW_none, errW_some] <;> rfl), by (with_reducible repeat (first | apply Kd.R_alloc | apply Kd.R_drewN | apply Kd.R_drew)); exact HO_7.out, by repeat (first | (with_reducible first | exact HB.out | apply below_alloc | apply pw_below_drewN | apply below_drew1) | exact HB.out)⟩

end Go.Proofs.YtcochbkdgjgaeaaDoor.X
