-- Written by wip/xprint.py over the kit's print.py: the Lean function of each Go function, and the proof that the Go text comes to it.
import Derived.Test.YtofkcdnkbjpmmaaX0
import Derived.Test.YtofkcdnkbjpmmaaX7
import Derived.Test.YtofkcdnkbjpmmaaX8
namespace Go.Proofs.Ytofkcdnkbjpmmaa.X
open Go.RowKit Go.Proofs.YtofkcdnkbjpmmaaW.PrintWords Go.Proofs.YtofkcdnkbjpmmaaW.PrintLast Go.Proofs.YtofkcdnkbjpmmaaW.PrintMore
attribute [local go_sem] max2_int min2_int max_two min_two max_three min_three max_four min_four   -- for this text's walks alone
set_option linter.unusedVariables false
set_option linter.unusedSimpArgs false

/-! ### lines_First: function 16 -/
def lines_First.l0 : Nat → List Int → Int → Int → Int → Option (Int × Int)
 | 0, _, _, _, _ => none
 | k + 1, x0, x6, x8, x9 => if x9 < x8 then (if 0 ≤ x9 then (if x9 < (x0.length : Int) then (if (rd x0 x9) = 32 then (lines_First.l0 k x0 x6 x8 (wrap64 (x9 + 1))) else (if (rd x0 x9) = 9 then (lines_First.l0 k x0 x6 x8 (wrap64 (x9 + 1))) else (some (x9, 0)))) else (none)) else (none)) else (some (mx x6 (wrap64 (x8 - 1)), 0))
def lines_First.f (k : Nat) (l0 : List Int) (a1 : Int) : Option (Int × Int) := (lines_Start.f k l0 a1).bind fun bt121 => (if bt121.2 = 0 then ((lines_tail.f l0 bt121.1).bind fun t123 => (lines_First.l0 k l0 bt121.1 t123 bt121.1)) else (some (0, bt121.2)))
theorem lines_First.mono_l : ∀ k, (∀ y0 y1 y2 y3, LeO (lines_First.l0 k y0 y1 y2 y3) (lines_First.l0 (k + 1) y0 y1 y2 y3))
 | 0 => fun _ _ _ _ r h => by simp [lines_First.l0] at h
 | k + 1 => by
  have ih0 := lines_First.mono_l k
  ·intro y0 y1 y2 y3
   unfold lines_First.l0
   repeat' first
   | (with_reducible exact ih0 _ _ _ _)
   | (with_reducible exact lines_Start.mono _ _ _)
   | (with_reducible exact LeO.refl _)
   | (with_reducible exact LeO.none _)
   | (with_reducible refine LeO.ite ?_ ?_)
   | (with_reducible refine LeO.bind ?_ (fun _ => ?_))
   | exact ih0 _ _ _ _
   | exact lines_Start.mono _ _ _
   | exact LeO.none _
   | refine LeO.ite ?_ ?_
   | refine LeO.bind ?_ (fun _ => ?_)
theorem lines_First.mono : ∀ a0 a1 k, LeO (lines_First.f k a0 a1) (lines_First.f (k + 1) a0 a1) := by
 intro a0 a1 k
 have ih0 := lines_First.mono_l k
 unfold lines_First.f
 repeat' first
   | (with_reducible exact ih0 _ _ _ _)
   | (with_reducible exact lines_Start.mono _ _ _)
   | (with_reducible exact LeO.refl _)
   | (with_reducible exact LeO.none _)
   | (with_reducible refine LeO.ite ?_ ?_)
   | (with_reducible refine LeO.bind ?_ (fun _ => ?_))
   | exact ih0 _ _ _ _
   | exact lines_Start.mono _ _ _
   | exact LeO.none _
   | refine LeO.ite ?_ ?_
   | refine LeO.bind ?_ (fun _ => ?_)
set_option maxHeartbeats 8000000 in
set_option maxRecDepth 100000 in
theorem lines_First.calls (k : Nat) (A0 : Option Addr) (c0 : Nat) (l0 : List Int) (a1 : Int) (r1 : Int) (r2 : Int) (w : World) (hr0 : Kd.C (Kd.int .u8) w A0 l0.length l0) (hc0 : l0.length ≤ c0) (h : lines_First.f k l0 a1 = some (r1, r2)) :
  Calls Try.prog 16 #[.slice A0 l0.length c0, .int .i64 a1] w fun e w' => e = .returned (.tuple #[.int .i64 r1, .int .i64 r2]) ∧ Below w.heap.size w w' := by
 have HR0 := Aside0.mk hr0
 have HC0 := Aside0.mk hc0
 clear hr0 hc0
 have HB := Aside0.mk (Below.refl w.heap.size w)
 have H : ((lines_Start.f k l0 a1).bind fun bt121 => (if bt121.2 = 0 then ((lines_tail.f l0 bt121.1).bind fun t123 => (lines_First.l0 k l0 bt121.1 t123 bt121.1)) else (some (0, bt121.2)))) = some (r1, r2) := h
 clear h
 replace H := Option.bind_eq_some_iff.mp H
 obtain ⟨⟨t121, t122⟩, A30, H⟩ := H
 replace H : (if t122 = 0 then ((lines_tail.f l0 t121).bind fun t123 => (lines_First.l0 k l0 t121 t123 t121)) else (some (0, t122))) = some (r1, r2) := H
 have A3 := Aside0.mk A30
 clear A30
 by_cases c4 : t122 = 0
 ·rw [if_pos c4] at H
  have c4b0 : (t122 == 0) = true := beq_iff_eq.mpr c4
  have c4b1 : (t122 != 0) = false := bne_eq_false_iff_eq.mpr c4
  clear c4
  replace H := Option.bind_eq_some_iff.mp H
  obtain ⟨t123, A50, H⟩ := H
  replace H : (lines_First.l0 k l0 t121 t123 t121) = some (r1, r2) := H
  have A5 := Aside0.mk A50
  clear A50
  have H' := Aside0.mk H
  clear H
  go_enter Try.func16, Try.ntmps16
  go_wp2_with (first | ((with_reducible refine gate_callee (f := 28) rfl ?_); refine goesL_ (some 13) rfl rfl Try.func28 (by kernel_rfl) rfl #[.slice A0 l0.length c0, .int .i64 a1] rfl (by (try simp only [List.map_toArray, List.map_cons, List.map_nil]); first | done | rfl | (simp only [List.length_drop, List.length_take]; rfl)) ?_; (with_reducible refine (lines_Start.calls k _ _ l0 a1 t121 t122 _ ?side1 ?side2 A3.out).mono ?_); (case side1 => repeat (first | exact HR0.out | (with_reducible refine Kd.C_alloc ?_ _) | (with_reducible refine Kd.C_drewN ?_ _) | (with_reducible refine Kd.C_drew ?_))); (case side2 => exact HC0.out); rintro e w' ⟨rfl, ⟨nd, rfl⟩⟩; refine ⟨_, rfl, ?_⟩) | ((with_reducible refine gate_callee (f := 33) rfl ?_); refine goesL_ (some 21) rfl rfl Try.func33 (by kernel_rfl) rfl #[.slice A0 l0.length c0, .int .i64 t121] rfl (by (try simp only [List.map_toArray, List.map_cons, List.map_nil]); first | done | rfl | (simp only [List.length_drop, List.length_take]; rfl)) ?_; (with_reducible refine (lines_tail.calls _ _ l0 t121 t123 _ ?side1 ?side2 A5.out).mono ?_); (case side1 => repeat (first | exact HR0.out | (with_reducible refine Kd.C_alloc ?_ _) | (with_reducible refine Kd.C_drewN ?_ _) | (with_reducible refine Kd.C_drew ?_))); (case side2 => exact HC0.out); rintro e w' ⟨rfl, ⟨nd, rfl⟩⟩; refine ⟨_, rfl, ?_⟩))
  go_loopg [9] k (fun kq v9 w' => ∃ (x9_1 : Int), v9 = .int .i64 x9_1 ∧ Aside0 (lines_First.l0 kq l0 t121 t123 x9_1 = some (r1, r2)) ∧ Aside0 (kq ≤ k) ∧ Aside0 (Below w.heap.size w w'))
  case atStart => exact ⟨(t121), (by first | rfl | (simp; done) | (simp [*]; done)), H', ⟨Nat.le_refl _⟩, ⟨by repeat (first | (with_reducible first | exact HB.out | apply below_alloc | apply pw_below_drewN | apply below_drew1) | exact HB.out)⟩⟩
  case round =>
   clear H'
   try clear c1
   try clear c2
   try clear p2
   try clear c3
   try clear c4
   try clear c4b0
   try clear c4b1
   obtain ⟨x9_1, rfl, HA, HK1, HB⟩ := hrel
   cases gk with
   | zero => exact absurd HA.out (by simp [lines_First.l0])
   | succ k1 =>
    have H := HA.out
    clear HA
    simp only [lines_First.l0] at H
    by_cases c6 : x9_1 < t123
    ·rw [if_pos c6] at H
     have c6b0 : decide (x9_1 < t123) = true := decide_eq_true c6
     clear c6
     by_cases c7 : 0 ≤ x9_1
     ·rw [if_pos c7] at H
      have c7b0 : decide (0 ≤ x9_1) = true := decide_eq_true c7
      clear c7
      by_cases c8 : x9_1 < (l0.length : Int)
      ·rw [if_pos c8] at H
       have c8b0 : decide (x9_1 < (l0.length : Int)) = true := decide_eq_true c8
       clear c8
       by_cases c9 : (rd l0 x9_1) = 32
       ·rw [if_pos c9] at H
        have c9b0 : ((rd l0 x9_1) == 32) = true := beq_iff_eq.mpr c9
        have c9b1 : ((rd l0 x9_1) != 32) = false := bne_eq_false_iff_eq.mpr c9
        clear c9
        have H' := Aside0.mk H
        clear H
        have p124 : 0 ≤ (x9_1 : Int) := of_decide_eq_true (by first | (with_reducible assumption) | assumption)
        have q124 : x9_1 < (l0.length : Int) := of_decide_eq_true (by first | (with_reducible assumption) | assumption)
        obtain ⟨ad124, e124, hx124_0⟩ := Kd.at_int HR0.out x9_1 p124 q124
        cases e124
        replace hx124_0 := (HB.out.cell (World.block_lt_of_cell? w _ hx124_0)).trans hx124_0
        replace p124 := eq_true p124
        replace q124 := eq_true q124
        go_wp2
        go_roundg k1
        case measure => have := HK1.out; omega
        case rel => exact ⟨(wrap64 (x9_1 + 1)), (by first | rfl | (simp; done) | (simp [*]; done)), H', ⟨by have := HK1.out; omega⟩, ⟨by repeat (first | (with_reducible first | exact HB.out | apply below_alloc | apply pw_below_drewN | apply below_drew1) | exact HB.out)⟩⟩
       ·rw [if_neg c9] at H
        have c9b0 : ((rd l0 x9_1) == 32) = false := beq_eq_false_iff_ne.mpr c9
        have c9b1 : ((rd l0 x9_1) != 32) = true := bne_iff_ne.mpr c9
        by_cases c10 : (rd l0 x9_1) = 9
        ·rw [if_pos c10] at H
         have c10b0 : ((rd l0 x9_1) == 9) = true := beq_iff_eq.mpr c10
         have c10b1 : ((rd l0 x9_1) != 9) = false := bne_eq_false_iff_eq.mpr c10
         clear c10
         have H' := Aside0.mk H
         clear H
         have p124 : 0 ≤ (x9_1 : Int) := of_decide_eq_true (by first | (with_reducible assumption) | assumption)
         have q124 : x9_1 < (l0.length : Int) := of_decide_eq_true (by first | (with_reducible assumption) | assumption)
         obtain ⟨ad124, e124, hx124_0⟩ := Kd.at_int HR0.out x9_1 p124 q124
         cases e124
         replace hx124_0 := (HB.out.cell (World.block_lt_of_cell? w _ hx124_0)).trans hx124_0
         replace p124 := eq_true p124
         replace q124 := eq_true q124
         have p125 : 0 ≤ (x9_1 : Int) := of_decide_eq_true (by first | (with_reducible assumption) | assumption)
         have q125 : x9_1 < (l0.length : Int) := of_decide_eq_true (by first | (with_reducible assumption) | assumption)
         obtain ⟨ad125, e125, hx125_0⟩ := Kd.at_int HR0.out x9_1 p125 q125
         obtain rfl : ad124 = ad125 := (by injection e125)
         replace hx125_0 := (HB.out.cell (World.block_lt_of_cell? w _ hx125_0)).trans hx125_0
         replace p125 := eq_true p125
         replace q125 := eq_true q125
         go_wp2
         go_roundg k1
         case measure => have := HK1.out; omega
         case rel => exact ⟨(wrap64 (x9_1 + 1)), (by first | rfl | (simp; done) | (simp [*]; done)), H', ⟨by have := HK1.out; omega⟩, ⟨by repeat (first | (with_reducible first | exact HB.out | apply below_alloc | apply pw_below_drewN | apply below_drew1) | exact HB.out)⟩⟩
        ·rw [if_neg c10] at H
         have c10b0 : ((rd l0 x9_1) == 9) = false := beq_eq_false_iff_ne.mpr c10
         have c10b1 : ((rd l0 x9_1) != 9) = true := bne_iff_ne.mpr c10
         simp only [Option.some.injEq, Prod.mk.injEq] at H
         obtain ⟨rfl, rfl⟩ := H
         have p124 : 0 ≤ (x9_1 : Int) := of_decide_eq_true (by first | (with_reducible assumption) | assumption)
         have q124 : x9_1 < (l0.length : Int) := of_decide_eq_true (by first | (with_reducible assumption) | assumption)
         obtain ⟨ad124, e124, hx124_0⟩ := Kd.at_int HR0.out x9_1 p124 q124
         cases e124
         replace hx124_0 := (HB.out.cell (World.block_lt_of_cell? w _ hx124_0)).trans hx124_0
         replace p124 := eq_true p124
         replace q124 := eq_true q124
         have p125 : 0 ≤ (x9_1 : Int) := of_decide_eq_true (by first | (with_reducible assumption) | assumption)
         have q125 : x9_1 < (l0.length : Int) := of_decide_eq_true (by first | (with_reducible assumption) | assumption)
         obtain ⟨ad125, e125, hx125_0⟩ := Kd.at_int HR0.out x9_1 p125 q125
         obtain rfl : ad124 = ad125 := (by injection e125)
         replace hx125_0 := (HB.out.cell (World.block_lt_of_cell? w _ hx125_0)).trans hx125_0
         replace p125 := eq_true p125
         replace q125 := eq_true q125
         go_wp2
         go_ret2
         exact ⟨by first | rfl | (simp [errW_none, errW_some] <;> rfl) | (simp [*, errW_none, errW_some] <;> rfl), by repeat (first | (with_reducible first | exact HB.out | apply below_alloc | apply pw_below_drewN | apply below_drew1) | exact HB.out)⟩
      ·rw [if_neg c8] at H
       exact absurd H (by simp)
     ·rw [if_neg c7] at H
      exact absurd H (by simp)
    ·rw [if_neg c6] at H
     have c6b0 : decide (x9_1 < t123) = false := decide_eq_false c6
     clear c6
     obtain ⟨ji11, hji11⟩ : ∃ j_ : Int, (mx t121 (wrap64 (t123 - 1))) = j_ := ⟨_, rfl⟩
     replace H : (some (ji11, 0)) = some (r1, r2) := by first | (rw [hji11] at H; exact H) | (simp only [hji11] at H ⊢; exact H)
     have hji11_ : (if t121 < (wrap64 (t123 - 1)) then (wrap64 (t123 - 1)) else t121) = ji11 := hji11
     simp only [Option.some.injEq, Prod.mk.injEq] at H
     obtain ⟨rfl, rfl⟩ := H
     go_wp2
     go_ret2
     exact ⟨by first | rfl | (simp [errW_none, errW_some] <;> rfl) | (simp only [← hji11]; first | rfl | (simp [errW_none, errW_some] <;> rfl)) | (simp [*, errW_none, errW_some] <;> rfl), by repeat (first | (with_reducible first | exact HB.out | apply below_alloc | apply pw_below_drewN | apply below_drew1) | exact HB.out)⟩
 ·rw [if_neg c4] at H
  have c4b0 : (t122 == 0) = false := beq_eq_false_iff_ne.mpr c4
  have c4b1 : (t122 != 0) = true := bne_iff_ne.mpr c4
  simp only [Option.some.injEq, Prod.mk.injEq] at H
  obtain ⟨rfl, rfl⟩ := H
  go_enter Try.func16, Try.ntmps16
  go_wp2_with (first | ((with_reducible refine gate_callee (f := 28) rfl ?_); refine goesL_ (some 13) rfl rfl Try.func28 (by kernel_rfl) rfl #[.slice A0 l0.length c0, .int .i64 a1] rfl (by (try simp only [List.map_toArray, List.map_cons, List.map_nil]); first | done | rfl | (simp only [List.length_drop, List.length_take]; rfl)) ?_; (with_reducible refine (lines_Start.calls k _ _ l0 a1 t121 t122 _ ?side1 ?side2 A3.out).mono ?_); (case side1 => repeat (first | exact HR0.out | (with_reducible refine Kd.C_alloc ?_ _) | (with_reducible refine Kd.C_drewN ?_ _) | (with_reducible refine Kd.C_drew ?_))); (case side2 => exact HC0.out); rintro e w' ⟨rfl, ⟨nd, rfl⟩⟩; refine ⟨_, rfl, ?_⟩))
  go_ret2
  exact ⟨by first | rfl | (simp [errW_none, errW_some] <;> rfl) | (simp [*, errW_none, errW_some] <;> rfl), by repeat (first | (with_reducible first | exact HB.out | apply below_alloc | apply pw_below_drewN | apply below_drew1) | exact HB.out)⟩

end Go.Proofs.Ytofkcdnkbjpmmaa.X
