-- Written by wip/xprint.py over the kit's print.py: the Lean function of each Go function, and the proof that the Go text comes to it.
import Derived.Test.YtcochbkdgjgaeaaDoorX0
namespace Go.Proofs.YtcochbkdgjgaeaaDoor.X
open Go.RowKit Go.Proofs.YtcochbkdgjgaeaaDoorW.PrintWords Go.Proofs.YtcochbkdgjgaeaaDoorW.PrintLast Go.Proofs.YtcochbkdgjgaeaaDoorW.PrintMore
attribute [local go_sem] max2_int min2_int max_two min_two max_three min_three max_four min_four   -- for this text's walks alone
set_option linter.unusedVariables false
set_option linter.unusedSimpArgs false

/-! ### quoinref13_kept: function 19 -/
mutual
def quoinref13_kept.j0 : Nat → Int → Bool → Option (Int × Int)
 | 0, _, _ => none
 | k + 1, x4, x5 => if x5 = true then (some (40, 41)) else (if x4 = 91 then (quoinref13_kept.j1 k x4 (x4 == 91)) else (quoinref13_kept.j1 k x4 (x4 == 93)))
def quoinref13_kept.j1 : Nat → Int → Bool → Option (Int × Int)
 | 0, _, _ => none
 | k + 1, x4, x9 => if x9 = true then (some (91, 93)) else (if x4 = 123 then (some (123, 125)) else (if x4 = 125 then (some (123, 125)) else (if x4 = 66 then (some (123, 125)) else (some (0, 0)))))
end
def quoinref13_kept.f (k : Nat) (a0 : Int) : Option (Int × Int) := if a0 = 40 then (quoinref13_kept.j0 k a0 (a0 == 40)) else (if a0 = 41 then (quoinref13_kept.j0 k a0 (a0 == 41)) else (quoinref13_kept.j0 k a0 (a0 == 98)))
theorem quoinref13_kept.mono_l : ∀ k, (∀ y0 y1, LeO (quoinref13_kept.j0 k y0 y1) (quoinref13_kept.j0 (k + 1) y0 y1)) ∧ (∀ y0 y1, LeO (quoinref13_kept.j1 k y0 y1) (quoinref13_kept.j1 (k + 1) y0 y1))
 | 0 => ⟨fun _ _ r h => by simp [quoinref13_kept.j0] at h, fun _ _ r h => by simp [quoinref13_kept.j1] at h⟩
 | k + 1 => by
  obtain ⟨ih0, ih1⟩ := quoinref13_kept.mono_l k
  refine ⟨?_, ?_⟩
  ·intro y0 y1
   unfold quoinref13_kept.j0
   repeat' first
   | (with_reducible exact ih0 _ _)
   | (with_reducible exact ih1 _ _)
   | (with_reducible exact LeO.refl _)
   | (with_reducible exact LeO.none _)
   | (with_reducible refine LeO.ite ?_ ?_)
   | (with_reducible refine LeO.bind ?_ (fun _ => ?_))
   | exact ih0 _ _
   | exact ih1 _ _
   | exact LeO.none _
   | refine LeO.ite ?_ ?_
   | refine LeO.bind ?_ (fun _ => ?_)
  ·intro y0 y1
   unfold quoinref13_kept.j1
   repeat' first
   | (with_reducible exact ih0 _ _)
   | (with_reducible exact ih1 _ _)
   | (with_reducible exact LeO.refl _)
   | (with_reducible exact LeO.none _)
   | (with_reducible refine LeO.ite ?_ ?_)
   | (with_reducible refine LeO.bind ?_ (fun _ => ?_))
   | exact ih0 _ _
   | exact ih1 _ _
   | exact LeO.none _
   | refine LeO.ite ?_ ?_
   | refine LeO.bind ?_ (fun _ => ?_)
theorem quoinref13_kept.mono : ∀ a0 k, LeO (quoinref13_kept.f k a0) (quoinref13_kept.f (k + 1) a0) := by
 intro a0 k
 obtain ⟨ih0, ih1⟩ := quoinref13_kept.mono_l k
 unfold quoinref13_kept.f
 repeat' first
   | (with_reducible exact ih0 _ _)
   | (with_reducible exact ih1 _ _)
   | (with_reducible exact LeO.refl _)
   | (with_reducible exact LeO.none _)
   | (with_reducible refine LeO.ite ?_ ?_)
   | (with_reducible refine LeO.bind ?_ (fun _ => ?_))
   | exact ih0 _ _
   | exact ih1 _ _
   | exact LeO.none _
   | refine LeO.ite ?_ ?_
   | refine LeO.bind ?_ (fun _ => ?_)
set_option maxHeartbeats 8000000 in
set_option maxRecDepth 100000 in
theorem quoinref13_kept.calls (k : Nat) (a0 : Int) (r1 : Int) (r2 : Int) (w : World) (h : quoinref13_kept.f k a0 = some (r1, r2)) :
  Calls Tryd.prog 19 #[.int .u8 a0] w fun e w' => e = .returned (.tuple #[.int .u8 r1, .int .u8 r2]) ∧ Drawn0 w w' := by
 have H : (if a0 = 40 then (quoinref13_kept.j0 k a0 (a0 == 40)) else (if a0 = 41 then (quoinref13_kept.j0 k a0 (a0 == 41)) else (quoinref13_kept.j0 k a0 (a0 == 98)))) = some (r1, r2) := h
 clear h
 have HC2 := Aside0.mk H
 clear H
 go_enter Tryd.func19, Tryd.ntmps19
 go_upto_if 5 with (fail)
 go_cut [5] (fun v5 wc => ∃ (kq : Nat) (x5_1 : Bool), v5 = .bool x5_1 ∧ Aside0 (quoinref13_kept.j0 kq a0 x5_1 = some (r1, r2)) ∧ Aside0 (kq ≤ k) ∧ Drawn0 w wc)
 case first =>
  have H := HC2.out
  clear HC2
  by_cases c3 : a0 = 40
  ·rw [if_pos c3] at H
   have c3b0 : (a0 == 40) = true := beq_iff_eq.mpr c3
   have c3b1 : (a0 != 40) = false := bne_eq_false_iff_eq.mpr c3
   clear c3
   (first | rw [c3b0] | (simp only [i64_w, i32_w]; rw [c3b0]) | skip)
   have H' := Aside0.mk H
   clear H
   go_wp2
   go_meet
   case rel => exact ⟨_, ((a0 == 40)), (by first | rfl | (simp; done) | (simp [*]; done)), H', ⟨by first | omega | exact Nat.le_refl _⟩, by repeat (first | exact Drawn0.refl _ | apply Drawn0.step)⟩
  ·rw [if_neg c3] at H
   have c3b0 : (a0 == 40) = false := beq_eq_false_iff_ne.mpr c3
   have c3b1 : (a0 != 40) = true := bne_iff_ne.mpr c3
   (first | rw [c3b0] | (simp only [i64_w, i32_w]; rw [c3b0]) | skip)
   by_cases c4 : a0 = 41
   ·rw [if_pos c4] at H
    have c4b0 : (a0 == 41) = true := beq_iff_eq.mpr c4
    have c4b1 : (a0 != 41) = false := bne_eq_false_iff_eq.mpr c4
    clear c4
    have H' := Aside0.mk H
    clear H
    go_wp2
    go_meet
    case rel => exact ⟨_, ((a0 == 41)), (by first | rfl | (simp; done) | (simp [*]; done)), H', ⟨by first | omega | exact Nat.le_refl _⟩, by repeat (first | exact Drawn0.refl _ | apply Drawn0.step)⟩
   ·rw [if_neg c4] at H
    have c4b0 : (a0 == 41) = false := beq_eq_false_iff_ne.mpr c4
    have c4b1 : (a0 != 41) = true := bne_iff_ne.mpr c4
    have H' := Aside0.mk H
    clear H
    go_wp2
    go_meet
    case rel => exact ⟨_, ((a0 == 98)), (by first | rfl | (simp; done) | (simp [*]; done)), H', ⟨by first | omega | exact Nat.le_refl _⟩, by repeat (first | exact Drawn0.refl _ | apply Drawn0.step)⟩
 case rest =>
  clear HC2
  try clear c1
  try clear p2
  try clear c3
  try clear c3b0
  try clear c3b1
  try clear c4
  try clear c4b0
  try clear c4b1
  obtain ⟨kq, x5_1, rfl, HA, HJ1, ⟨mc1, rfl⟩⟩ := hcut
  cases kq with
  | zero => exact absurd HA.out (by simp [quoinref13_kept.j0])
  | succ kj1 =>
   have H := HA.out
   clear HA
   simp only [quoinref13_kept.j0] at H
   by_cases c5 : x5_1 = true
   ·subst c5
    have H1 : (some (40, 41)) = some (r1, r2) := by rw [if_pos rfl] at H; exact H
    clear H
    have H := H1
    clear H1
    simp only [Option.some.injEq, Prod.mk.injEq] at H
    obtain ⟨rfl, rfl⟩ := H
    go_wp2
    go_ret2
    exact ⟨by first | rfl | (simp; done) | (simp [*]; done), by repeat (first | exact Drawn0.refl _ | apply Drawn0.step)⟩
   ·replace c5 := Bool.eq_false_iff.mpr c5
    subst c5
    have H1 : (if a0 = 91 then (quoinref13_kept.j1 kj1 a0 (a0 == 91)) else (quoinref13_kept.j1 kj1 a0 (a0 == 93))) = some (r1, r2) := by rw [if_neg (show ¬ (false = true) by decide)] at H; exact H
    clear H
    have H := H1
    clear H1
    have HC6 := Aside0.mk H
    clear H
    go_upto_if 9 with (fail)
    go_cut [9] (fun v9 wc => ∃ (kq : Nat) (x9_5 : Bool), v9 = .bool x9_5 ∧ Aside0 (quoinref13_kept.j1 kq a0 x9_5 = some (r1, r2)) ∧ Aside0 (kq ≤ kj1) ∧ Drawn0 w wc)
    case first =>
     have H := HC6.out
     clear HC6
     by_cases c7 : a0 = 91
     ·rw [if_pos c7] at H
      have c7b0 : (a0 == 91) = true := beq_iff_eq.mpr c7
      have c7b1 : (a0 != 91) = false := bne_eq_false_iff_eq.mpr c7
      clear c7
      (first | rw [c7b0] | (simp only [i64_w, i32_w]; rw [c7b0]) | skip)
      have H' := Aside0.mk H
      clear H
      go_wp2
      go_meet
      case rel => exact ⟨_, ((a0 == 91)), (by first | rfl | (simp; done) | (simp [*]; done)), H', ⟨by have := HJ1.out; first | omega | exact Nat.le_refl _⟩, by repeat (first | exact Drawn0.refl _ | apply Drawn0.step)⟩
     ·rw [if_neg c7] at H
      have c7b0 : (a0 == 91) = false := beq_eq_false_iff_ne.mpr c7
      have c7b1 : (a0 != 91) = true := bne_iff_ne.mpr c7
      (first | rw [c7b0] | (simp only [i64_w, i32_w]; rw [c7b0]) | skip)
      have H' := Aside0.mk H
      clear H
      go_wp2
      go_meet
      case rel => exact ⟨_, ((a0 == 93)), (by first | rfl | (simp; done) | (simp [*]; done)), H', ⟨by have := HJ1.out; first | omega | exact Nat.le_refl _⟩, by repeat (first | exact Drawn0.refl _ | apply Drawn0.step)⟩
    case rest =>
     clear HC6
     try clear c1
     try clear p2
     try clear c3
     try clear c3b0
     try clear c3b1
     try clear c4
     try clear c4b0
     try clear c4b1
     try clear c5
     try clear c7
     try clear c7b0
     try clear c7b1
     try clear p2
     obtain ⟨kq, x9_5, rfl, HA, HJ5, ⟨mc5, rfl⟩⟩ := hcut
     cases kq with
     | zero => exact absurd HA.out (by simp [quoinref13_kept.j1])
     | succ kj5 =>
      have H := HA.out
      clear HA
      simp only [quoinref13_kept.j1] at H
      by_cases c8 : x9_5 = true
      ·subst c8
       have H1 : (some (91, 93)) = some (r1, r2) := by rw [if_pos rfl] at H; exact H
       clear H
       have H := H1
       clear H1
       simp only [Option.some.injEq, Prod.mk.injEq] at H
       obtain ⟨rfl, rfl⟩ := H
       go_wp2
       go_ret2
       exact ⟨by first | rfl | (simp; done) | (simp [*]; done), by repeat (first | exact Drawn0.refl _ | apply Drawn0.step)⟩
      ·replace c8 := Bool.eq_false_iff.mpr c8
       subst c8
       have H1 : (if a0 = 123 then (some (123, 125)) else (if a0 = 125 then (some (123, 125)) else (if a0 = 66 then (some (123, 125)) else (some (0, 0))))) = some (r1, r2) := by rw [if_neg (show ¬ (false = true) by decide)] at H; exact H
       clear H
       have H := H1
       clear H1
       by_cases c9 : a0 = 123
       ·rw [if_pos c9] at H
        have c9b0 : (a0 == 123) = true := beq_iff_eq.mpr c9
        have c9b1 : (a0 != 123) = false := bne_eq_false_iff_eq.mpr c9
        clear c9
        simp only [Option.some.injEq, Prod.mk.injEq] at H
        obtain ⟨rfl, rfl⟩ := H
        go_wp2
        go_ret2
        exact ⟨by first | rfl | (simp; done) | (simp [*]; done), by repeat (first | exact Drawn0.refl _ | apply Drawn0.step)⟩
       ·rw [if_neg c9] at H
        have c9b0 : (a0 == 123) = false := beq_eq_false_iff_ne.mpr c9
        have c9b1 : (a0 != 123) = true := bne_iff_ne.mpr c9
        by_cases c10 : a0 = 125
        ·rw [if_pos c10] at H
         have c10b0 : (a0 == 125) = true := beq_iff_eq.mpr c10
         have c10b1 : (a0 != 125) = false := bne_eq_false_iff_eq.mpr c10
         clear c10
         simp only [Option.some.injEq, Prod.mk.injEq] at H
         obtain ⟨rfl, rfl⟩ := H
         go_wp2
         go_ret2
         exact ⟨by first | rfl | (simp; done) | (simp [*]; done), by repeat (first | exact Drawn0.refl _ | apply Drawn0.step)⟩
        ·rw [if_neg c10] at H
         have c10b0 : (a0 == 125) = false := beq_eq_false_iff_ne.mpr c10
         have c10b1 : (a0 != 125) = true := bne_iff_ne.mpr c10
         by_cases c11 : a0 = 66
         ·rw [if_pos c11] at H
          have c11b0 : (a0 == 66) = true := beq_iff_eq.mpr c11
          have c11b1 : (a0 != 66) = false := bne_eq_false_iff_eq.mpr c11
          clear c11
          simp only [Option.some.injEq, Prod.mk.injEq] at H
          obtain ⟨rfl, rfl⟩ := H
          go_wp2
          go_ret2
          exact ⟨by first | rfl | (simp; done) | (simp [*]; done), by repeat (first | exact Drawn0.refl _ | apply Drawn0.step)⟩
         ·rw [if_neg c11] at H
          have c11b0 : (a0 == 66) = false := beq_eq_false_iff_ne.mpr c11
          have c11b1 : (a0 != 66) = true := bne_iff_ne.mpr c11
          simp only [Option.some.injEq, Prod.mk.injEq] at H
          obtain ⟨rfl, rfl⟩ := H
          go_wp2
          go_ret2
          exact ⟨by first | rfl | (simp; done) | (simp [*]; done), by repeat (first | exact Drawn0.refl _ | apply Drawn0.step)⟩

end Go.Proofs.YtcochbkdgjgaeaaDoor.X
