-- Written by wip/xprint.py over the kit's print.py: the Lean function of each Go function, and the proof that the Go text comes to it.
import Derived.Test.YtofkcdnkbjpmmaaX0
import Derived.Test.YtofkcdnkbjpmmaaX28
import Derived.Test.YtofkcdnkbjpmmaaX29
namespace Go.Proofs.Ytofkcdnkbjpmmaa.X
open Go.RowKit Go.Proofs.YtofkcdnkbjpmmaaW.PrintWords Go.Proofs.YtofkcdnkbjpmmaaW.PrintLast Go.Proofs.YtofkcdnkbjpmmaaW.PrintMore
attribute [local go_sem] max2_int min2_int max_two min_two max_three min_three max_four min_four   -- for this text's walks alone
set_option linter.unusedVariables false
set_option linter.unusedSimpArgs false

/-! ### quoinref05_First: function 36 -/
def quoinref05_First.l0 : Nat → List Int → Int → Int → Int → Option (Int × Int)
 | 0, _, _, _, _ => none
 | k + 1, x0, x6, x8, x10 => if x10 < x8 then (if 0 ≤ x10 then (if x10 < (x0.length : Int) then (if (rd x0 x10) = 32 then (quoinref05_First.l0 k x0 x6 x8 (wrap64 (x10 + 1))) else (if (rd x0 x10) = 9 then (quoinref05_First.l0 k x0 x6 x8 (wrap64 (x10 + 1))) else (some (x10, 0)))) else (none)) else (none)) else (if x6 < x8 then (some (wrap64 (x8 - 1), 0)) else (some (x6, 0)))
def quoinref05_First.f (k : Nat) (l0 : List Int) (a1 : Int) : Option (Int × Int) := (quoinref05_Start.f k l0 a1).bind fun bt311 => (if bt311.2 = 0 then ((quoinref05_End.f k l0 a1).bind fun bt313 => (quoinref05_First.l0 k l0 bt311.1 bt313.1 bt311.1)) else (some (0, bt311.2)))
theorem quoinref05_First.mono_l : ∀ k, (∀ y0 y1 y2 y3, LeO (quoinref05_First.l0 k y0 y1 y2 y3) (quoinref05_First.l0 (k + 1) y0 y1 y2 y3))
 | 0 => fun _ _ _ _ r h => by simp [quoinref05_First.l0] at h
 | k + 1 => by
  have ih0 := quoinref05_First.mono_l k
  ·intro y0 y1 y2 y3
   unfold quoinref05_First.l0
   repeat' first
   | (with_reducible exact ih0 _ _ _ _)
   | (with_reducible exact quoinref05_End.mono _ _ _)
   | (with_reducible exact quoinref05_Start.mono _ _ _)
   | (with_reducible exact LeO.refl _)
   | (with_reducible exact LeO.none _)
   | (with_reducible refine LeO.ite ?_ ?_)
   | (with_reducible refine LeO.bind ?_ (fun _ => ?_))
   | exact ih0 _ _ _ _
   | exact quoinref05_End.mono _ _ _
   | exact quoinref05_Start.mono _ _ _
   | exact LeO.none _
   | refine LeO.ite ?_ ?_
   | refine LeO.bind ?_ (fun _ => ?_)
theorem quoinref05_First.mono : ∀ a0 a1 k, LeO (quoinref05_First.f k a0 a1) (quoinref05_First.f (k + 1) a0 a1) := by
 intro a0 a1 k
 have ih0 := quoinref05_First.mono_l k
 unfold quoinref05_First.f
 repeat' first
   | (with_reducible exact ih0 _ _ _ _)
   | (with_reducible exact quoinref05_End.mono _ _ _)
   | (with_reducible exact quoinref05_Start.mono _ _ _)
   | (with_reducible exact LeO.refl _)
   | (with_reducible exact LeO.none _)
   | (with_reducible refine LeO.ite ?_ ?_)
   | (with_reducible refine LeO.bind ?_ (fun _ => ?_))
   | exact ih0 _ _ _ _
   | exact quoinref05_End.mono _ _ _
   | exact quoinref05_Start.mono _ _ _
   | exact LeO.none _
   | refine LeO.ite ?_ ?_
   | refine LeO.bind ?_ (fun _ => ?_)
set_option maxHeartbeats 8000000 in
set_option maxRecDepth 100000 in
theorem quoinref05_First.calls (k : Nat) (A0 : Option Addr) (c0 : Nat) (l0 : List Int) (a1 : Int) (r1 : Int) (r2 : Int) (w : World) (hr0 : Kd.C (Kd.int .u8) w A0 l0.length l0) (hc0 : l0.length ≤ c0) (h : quoinref05_First.f k l0 a1 = some (r1, r2)) :
  Calls Try.prog 36 #[.slice A0 l0.length c0, .int .i64 a1] w fun e w' => e = .returned (.tuple #[.int .i64 r1, .int .i64 r2]) ∧ Drawn0 w w' := by
 have HR0 := Aside0.mk hr0
 have HC0 := Aside0.mk hc0
 clear hr0 hc0
 have H : ((quoinref05_Start.f k l0 a1).bind fun bt311 => (if bt311.2 = 0 then ((quoinref05_End.f k l0 a1).bind fun bt313 => (quoinref05_First.l0 k l0 bt311.1 bt313.1 bt311.1)) else (some (0, bt311.2)))) = some (r1, r2) := h
 clear h
 replace H := Option.bind_eq_some_iff.mp H
 obtain ⟨⟨t311, t312⟩, A30, H⟩ := H
 replace H : (if t312 = 0 then ((quoinref05_End.f k l0 a1).bind fun bt313 => (quoinref05_First.l0 k l0 t311 bt313.1 t311)) else (some (0, t312))) = some (r1, r2) := H
 have A3 := Aside0.mk A30
 clear A30
 by_cases c4 : t312 = 0
 ·rw [if_pos c4] at H
  have c4b0 : (t312 == 0) = true := beq_iff_eq.mpr c4
  have c4b1 : (t312 != 0) = false := bne_eq_false_iff_eq.mpr c4
  clear c4
  replace H := Option.bind_eq_some_iff.mp H
  obtain ⟨⟨t313, t314⟩, A50, H⟩ := H
  replace H : (quoinref05_First.l0 k l0 t311 t313 t311) = some (r1, r2) := H
  have A5 := Aside0.mk A50
  clear A50
  have H' := Aside0.mk H
  clear H
  go_enter Try.func36, Try.ntmps36
  go_wp2_with (first | ((with_reducible refine gate_callee (f := 38) rfl ?_); refine goesL_ (some 14) rfl rfl Try.func38 (by kernel_rfl) rfl #[.slice A0 l0.length c0, .int .i64 a1] rfl (by (try simp only [List.map_toArray, List.map_cons, List.map_nil]); first | done | rfl | (simp only [List.length_drop, List.length_take]; rfl)) ?_; (with_reducible refine (quoinref05_Start.calls k _ _ l0 a1 t311 t312 _ ?side1 ?side2 A3.out).mono ?_); (case side1 => repeat (first | exact HR0.out | (with_reducible refine Kd.C_alloc ?_ _) | (with_reducible refine Kd.C_drewN ?_ _) | (with_reducible refine Kd.C_drew ?_))); (case side2 => exact HC0.out); rintro e w' ⟨rfl, ⟨nd, rfl⟩⟩; refine ⟨_, rfl, ?_⟩) | ((with_reducible refine gate_callee (f := 25) rfl ?_); refine goesL_ (some 23) rfl rfl Try.func25 (by kernel_rfl) rfl #[.slice A0 l0.length c0, .int .i64 a1] rfl (by (try simp only [List.map_toArray, List.map_cons, List.map_nil]); first | done | rfl | (simp only [List.length_drop, List.length_take]; rfl)) ?_; (with_reducible refine (quoinref05_End.calls k _ _ l0 a1 t313 t314 _ ?side1 ?side2 A5.out).mono ?_); (case side1 => repeat (first | exact HR0.out | (with_reducible refine Kd.C_alloc ?_ _) | (with_reducible refine Kd.C_drewN ?_ _) | (with_reducible refine Kd.C_drew ?_))); (case side2 => exact HC0.out); rintro e w' ⟨rfl, ⟨nd, rfl⟩⟩; refine ⟨_, rfl, ?_⟩))
  go_loopg [10] k (fun kq v10 w' => ∃ (x10_1 : Int), v10 = .int .i64 x10_1 ∧ Aside0 (quoinref05_First.l0 kq l0 t311 t313 x10_1 = some (r1, r2)) ∧ Aside0 (kq ≤ k) ∧ Drawn0 w w')
  case atStart => exact ⟨(t311), (by first | rfl | (simp; done) | (simp [*]; done)), H', ⟨Nat.le_refl _⟩, by repeat (first | exact Drawn0.refl _ | apply Drawn0.step)⟩
  case round =>
   clear H'
   try clear c2
   try clear p2
   try clear c3
   try clear c4
   try clear c4b0
   try clear c4b1
   obtain ⟨x10_1, rfl, HA, HK1, ⟨m1, rfl⟩⟩ := hrel
   cases gk with
   | zero => exact absurd HA.out (by simp [quoinref05_First.l0])
   | succ k1 =>
    have H := HA.out
    clear HA
    simp only [quoinref05_First.l0] at H
    by_cases c6 : x10_1 < t313
    ·rw [if_pos c6] at H
     have c6b0 : decide (x10_1 < t313) = true := decide_eq_true c6
     clear c6
     by_cases c7 : 0 ≤ x10_1
     ·rw [if_pos c7] at H
      have c7b0 : decide (0 ≤ x10_1) = true := decide_eq_true c7
      clear c7
      by_cases c8 : x10_1 < (l0.length : Int)
      ·rw [if_pos c8] at H
       have c8b0 : decide (x10_1 < (l0.length : Int)) = true := decide_eq_true c8
       clear c8
       by_cases c9 : (rd l0 x10_1) = 32
       ·rw [if_pos c9] at H
        have c9b0 : ((rd l0 x10_1) == 32) = true := beq_iff_eq.mpr c9
        have c9b1 : ((rd l0 x10_1) != 32) = false := bne_eq_false_iff_eq.mpr c9
        clear c9
        have H' := Aside0.mk H
        clear H
        have p315 : 0 ≤ (x10_1 : Int) := of_decide_eq_true (by first | (with_reducible assumption) | assumption)
        have q315 : x10_1 < (l0.length : Int) := of_decide_eq_true (by first | (with_reducible assumption) | assumption)
        obtain ⟨ad315, e315, hx315_0⟩ := Kd.at_int HR0.out x10_1 p315 q315
        cases e315
        replace p315 := eq_true p315
        replace q315 := eq_true q315
        go_wp2
        go_roundg k1
        case measure => have := HK1.out; omega
        case rel => exact ⟨(wrap64 (x10_1 + 1)), (by first | rfl | (simp; done) | (simp [*]; done)), H', ⟨by have := HK1.out; omega⟩, by repeat (first | exact Drawn0.refl _ | apply Drawn0.step)⟩
       ·rw [if_neg c9] at H
        have c9b0 : ((rd l0 x10_1) == 32) = false := beq_eq_false_iff_ne.mpr c9
        have c9b1 : ((rd l0 x10_1) != 32) = true := bne_iff_ne.mpr c9
        by_cases c10 : (rd l0 x10_1) = 9
        ·rw [if_pos c10] at H
         have c10b0 : ((rd l0 x10_1) == 9) = true := beq_iff_eq.mpr c10
         have c10b1 : ((rd l0 x10_1) != 9) = false := bne_eq_false_iff_eq.mpr c10
         clear c10
         have H' := Aside0.mk H
         clear H
         have p315 : 0 ≤ (x10_1 : Int) := of_decide_eq_true (by first | (with_reducible assumption) | assumption)
         have q315 : x10_1 < (l0.length : Int) := of_decide_eq_true (by first | (with_reducible assumption) | assumption)
         obtain ⟨ad315, e315, hx315_0⟩ := Kd.at_int HR0.out x10_1 p315 q315
         cases e315
         replace p315 := eq_true p315
         replace q315 := eq_true q315
         have p316 : 0 ≤ (x10_1 : Int) := of_decide_eq_true (by first | (with_reducible assumption) | assumption)
         have q316 : x10_1 < (l0.length : Int) := of_decide_eq_true (by first | (with_reducible assumption) | assumption)
         obtain ⟨ad316, e316, hx316_0⟩ := Kd.at_int HR0.out x10_1 p316 q316
         obtain rfl : ad315 = ad316 := (by injection e316)
         replace p316 := eq_true p316
         replace q316 := eq_true q316
         go_wp2
         go_roundg k1
         case measure => have := HK1.out; omega
         case rel => exact ⟨(wrap64 (x10_1 + 1)), (by first | rfl | (simp; done) | (simp [*]; done)), H', ⟨by have := HK1.out; omega⟩, by repeat (first | exact Drawn0.refl _ | apply Drawn0.step)⟩
        ·rw [if_neg c10] at H
         have c10b0 : ((rd l0 x10_1) == 9) = false := beq_eq_false_iff_ne.mpr c10
         have c10b1 : ((rd l0 x10_1) != 9) = true := bne_iff_ne.mpr c10
         simp only [Option.some.injEq, Prod.mk.injEq] at H
         obtain ⟨rfl, rfl⟩ := H
         have p315 : 0 ≤ (x10_1 : Int) := of_decide_eq_true (by first | (with_reducible assumption) | assumption)
         have q315 : x10_1 < (l0.length : Int) := of_decide_eq_true (by first | (with_reducible assumption) | assumption)
         obtain ⟨ad315, e315, hx315_0⟩ := Kd.at_int HR0.out x10_1 p315 q315
         cases e315
         replace p315 := eq_true p315
         replace q315 := eq_true q315
         have p316 : 0 ≤ (x10_1 : Int) := of_decide_eq_true (by first | (with_reducible assumption) | assumption)
         have q316 : x10_1 < (l0.length : Int) := of_decide_eq_true (by first | (with_reducible assumption) | assumption)
         obtain ⟨ad316, e316, hx316_0⟩ := Kd.at_int HR0.out x10_1 p316 q316
         obtain rfl : ad315 = ad316 := (by injection e316)
         replace p316 := eq_true p316
         replace q316 := eq_true q316
         go_wp2
         go_ret2
         exact ⟨by first | rfl | (simp; done) | (simp [*]; done), by repeat (first | exact Drawn0.refl _ | apply Drawn0.step)⟩
      ·rw [if_neg c8] at H
       exact absurd H (by simp)
     ·rw [if_neg c7] at H
      exact absurd H (by simp)
    ·rw [if_neg c6] at H
     have c6b0 : decide (x10_1 < t313) = false := decide_eq_false c6
     clear c6
     by_cases c11 : t311 < t313
     ·rw [if_pos c11] at H
      have c11b0 : decide (t311 < t313) = true := decide_eq_true c11
      clear c11
      simp only [Option.some.injEq, Prod.mk.injEq] at H
      obtain ⟨rfl, rfl⟩ := H
      go_wp2
      go_ret2
      exact ⟨by first | rfl | (simp; done) | (simp [*]; done), by repeat (first | exact Drawn0.refl _ | apply Drawn0.step)⟩
     ·rw [if_neg c11] at H
      have c11b0 : decide (t311 < t313) = false := decide_eq_false c11
      clear c11
      simp only [Option.some.injEq, Prod.mk.injEq] at H
      obtain ⟨rfl, rfl⟩ := H
      go_wp2
      go_ret2
      exact ⟨by first | rfl | (simp; done) | (simp [*]; done), by repeat (first | exact Drawn0.refl _ | apply Drawn0.step)⟩
 ·rw [if_neg c4] at H
  have c4b0 : (t312 == 0) = false := beq_eq_false_iff_ne.mpr c4
  have c4b1 : (t312 != 0) = true := bne_iff_ne.mpr c4
  simp only [Option.some.injEq, Prod.mk.injEq] at H
  obtain ⟨rfl, rfl⟩ := H
  go_enter Try.func36, Try.ntmps36
  go_wp2_with (first | ((with_reducible refine gate_callee (f := 38) rfl ?_); refine goesL_ (some 14) rfl rfl Try.func38 (by kernel_rfl) rfl #[.slice A0 l0.length c0, .int .i64 a1] rfl (by (try simp only [List.map_toArray, List.map_cons, List.map_nil]); first | done | rfl | (simp only [List.length_drop, List.length_take]; rfl)) ?_; (with_reducible refine (quoinref05_Start.calls k _ _ l0 a1 t311 t312 _ ?side1 ?side2 A3.out).mono ?_); (case side1 => repeat (first | exact HR0.out | (with_reducible refine Kd.C_alloc ?_ _) | (with_reducible refine Kd.C_drewN ?_ _) | (with_reducible refine Kd.C_drew ?_))); (case side2 => exact HC0.out); rintro e w' ⟨rfl, ⟨nd, rfl⟩⟩; refine ⟨_, rfl, ?_⟩))
  go_ret2
  exact ⟨by first | rfl | (simp; done) | (simp [*]; done), by repeat (first | exact Drawn0.refl _ | apply Drawn0.step)⟩

end Go.Proofs.Ytofkcdnkbjpmmaa.X
