-- Written by wip/xprint.py over the kit's print.py: the Lean function of each Go function, and the proof that the Go text comes to it.
import Derived.Test.YtcochbkdgjgaeaaDoorX0
import Derived.Test.YtcochbkdgjgaeaaDoorX5
import Derived.Test.YtcochbkdgjgaeaaDoorX6
namespace Go.Proofs.YtcochbkdgjgaeaaDoor.X
open Go.RowKit Go.Proofs.YtcochbkdgjgaeaaDoorW.PrintWords Go.Proofs.YtcochbkdgjgaeaaDoorW.PrintLast Go.Proofs.YtcochbkdgjgaeaaDoorW.PrintMore
attribute [local go_sem] max2_int min2_int max_two min_two max_three min_three max_four min_four   -- for this text's walks alone
set_option linter.unusedVariables false
set_option linter.unusedSimpArgs false

/-! ### class_Of: function 15 -/
def class_Of.j0 : Nat → Int → Bool → Bool → Option (Int)
 | 0, _, _, _ => none
 | k + 1, x0, x1, x8 => if x8 = true then (some 0) else (if x1 = true then (some 2) else ((class_small.f x0).bind fun t107 => (if t107 = true then (some 2) else ((class_great.f x0).bind fun t108 => (if t108 = true then (some 2) else (if x0 ≥ 48 then (if x0 ≤ 57 then (some 2) else (if x0 = 95 then (some 2) else (if x0 ≥ 128 then (some 2) else (some 1)))) else (if x0 = 95 then (some 2) else (if x0 ≥ 128 then (some 2) else (some 1)))))))))
def class_Of.f (k : Nat) (a0 : Int) (a1 : Bool) : Option (Int) := if a0 = 10 then (some 3) else (if a0 = 32 then (class_Of.j0 k a0 a1 true) else (class_Of.j0 k a0 a1 (a0 == 9)))
theorem class_Of.mono_l : ∀ k, (∀ y0 y1 y2, LeO (class_Of.j0 k y0 y1 y2) (class_Of.j0 (k + 1) y0 y1 y2))
 | 0 => fun _ _ _ r h => by simp [class_Of.j0] at h
 | k + 1 => by
  have ih0 := class_Of.mono_l k
  ·intro y0 y1 y2
   unfold class_Of.j0
   repeat' first
   | (with_reducible exact ih0 _ _ _)
   | (with_reducible exact LeO.refl _)
   | (with_reducible exact LeO.none _)
   | (with_reducible refine LeO.ite ?_ ?_)
   | (with_reducible refine LeO.bind ?_ (fun _ => ?_))
   | exact ih0 _ _ _
   | exact LeO.none _
   | refine LeO.ite ?_ ?_
   | refine LeO.bind ?_ (fun _ => ?_)
theorem class_Of.mono : ∀ a0 a1 k, LeO (class_Of.f k a0 a1) (class_Of.f (k + 1) a0 a1) := by
 intro a0 a1 k
 have ih0 := class_Of.mono_l k
 unfold class_Of.f
 repeat' first
   | (with_reducible exact ih0 _ _ _)
   | (with_reducible exact LeO.refl _)
   | (with_reducible exact LeO.none _)
   | (with_reducible refine LeO.ite ?_ ?_)
   | (with_reducible refine LeO.bind ?_ (fun _ => ?_))
   | exact ih0 _ _ _
   | exact LeO.none _
   | refine LeO.ite ?_ ?_
   | refine LeO.bind ?_ (fun _ => ?_)
set_option maxHeartbeats 8000000 in
set_option maxRecDepth 100000 in
theorem class_Of.calls (k : Nat) (a0 : Int) (a1 : Bool) (r : Int) (w : World) (h : class_Of.f k a0 a1 = some r) :
  Calls Tryd.prog 15 #[.int .u8 a0, .bool a1] w fun e w' => e = .returned (.int .i64 r) ∧ Drawn0 w w' := by
 have H : (if a0 = 10 then (some 3) else (if a0 = 32 then (class_Of.j0 k a0 a1 true) else (class_Of.j0 k a0 a1 (a0 == 9)))) = some r := h
 clear h
 by_cases c3 : a0 = 10
 ·rw [if_pos c3] at H
  have c3b0 : (a0 == 10) = true := beq_iff_eq.mpr c3
  have c3b1 : (a0 != 10) = false := bne_eq_false_iff_eq.mpr c3
  clear c3
  obtain rfl := Option.some.inj H
  go_enter Tryd.func15, Tryd.ntmps15
  go_wp2
  go_ret
  exact ⟨by first | rfl | (simp; done) | (simp [*]; done), by repeat (first | exact Drawn0.refl _ | apply Drawn0.step)⟩
 ·rw [if_neg c3] at H
  have c3b0 : (a0 == 10) = false := beq_eq_false_iff_ne.mpr c3
  have c3b1 : (a0 != 10) = true := bne_iff_ne.mpr c3
  have HC4 := Aside0.mk H
  clear H
  go_enter Tryd.func15, Tryd.ntmps15
  go_upto_region 3 with (fail)
  go_cut [8] (fun v8 wc => ∃ (kq : Nat) (x8_3 : Bool), v8 = .bool x8_3 ∧ Aside0 (class_Of.j0 kq a0 a1 x8_3 = some r) ∧ Aside0 (kq ≤ k) ∧ Drawn0 w wc)
  case first =>
   have H := HC4.out
   clear HC4
   by_cases c5 : a0 = 32
   ·rw [if_pos c5] at H
    have c5b0 : (a0 == 32) = true := beq_iff_eq.mpr c5
    have c5b1 : (a0 != 32) = false := bne_eq_false_iff_eq.mpr c5
    clear c5
    (first | rw [c5b0] | (simp only [i64_w, i32_w]; rw [c5b0]) | skip)
    have H' := Aside0.mk H
    clear H
    go_wp2
    go_meet
    case rel => exact ⟨_, (true), (by first | rfl | (simp; done) | (simp [*]; done)), H', ⟨by first | omega | exact Nat.le_refl _⟩, by repeat (first | exact Drawn0.refl _ | apply Drawn0.step)⟩
   ·rw [if_neg c5] at H
    have c5b0 : (a0 == 32) = false := beq_eq_false_iff_ne.mpr c5
    have c5b1 : (a0 != 32) = true := bne_iff_ne.mpr c5
    (first | rw [c5b0] | (simp only [i64_w, i32_w]; rw [c5b0]) | skip)
    have H' := Aside0.mk H
    clear H
    go_wp2
    go_meet
    case rel => exact ⟨_, ((a0 == 9)), (by first | rfl | (simp; done) | (simp [*]; done)), H', ⟨by first | omega | exact Nat.le_refl _⟩, by repeat (first | exact Drawn0.refl _ | apply Drawn0.step)⟩
  case rest =>
   clear HC4
   try clear c1
   try clear p2
   try clear c3
   try clear c3b0
   try clear c3b1
   try clear c5
   try clear c5b0
   try clear c5b1
   obtain ⟨kq, x8_3, rfl, HA, HJ3, ⟨mc3, rfl⟩⟩ := hcut
   cases kq with
   | zero => exact absurd HA.out (by simp [class_Of.j0])
   | succ kj3 =>
    have H := HA.out
    clear HA
    simp only [class_Of.j0] at H
    by_cases c6 : x8_3 = true
    ·subst c6
     have H1 : (some 0) = some r := by rw [if_pos rfl] at H; exact H
     clear H
     have H := H1
     clear H1
     obtain rfl := Option.some.inj H
     go_wp2
     go_ret
     exact ⟨by first | rfl | (simp; done) | (simp [*]; done), by repeat (first | exact Drawn0.refl _ | apply Drawn0.step)⟩
    ·replace c6 := Bool.eq_false_iff.mpr c6
     subst c6
     have H1 : (if a1 = true then (some 2) else ((class_small.f a0).bind fun t107 => (if t107 = true then (some 2) else ((class_great.f a0).bind fun t108 => (if t108 = true then (some 2) else (if a0 ≥ 48 then (if a0 ≤ 57 then (some 2) else (if a0 = 95 then (some 2) else (if a0 ≥ 128 then (some 2) else (some 1)))) else (if a0 = 95 then (some 2) else (if a0 ≥ 128 then (some 2) else (some 1))))))))) = some r := by rw [if_neg (show ¬ (false = true) by decide)] at H; exact H
     clear H
     have H := H1
     clear H1
     by_cases c7 : a1 = true
     ·subst c7
      have H1 : (some 2) = some r := by rw [if_pos rfl] at H; exact H
      clear H
      have H := H1
      clear H1
      obtain rfl := Option.some.inj H
      go_wp2
      go_ret
      exact ⟨by first | rfl | (simp; done) | (simp [*]; done), by repeat (first | exact Drawn0.refl _ | apply Drawn0.step)⟩
     ·replace c7 := Bool.eq_false_iff.mpr c7
      subst c7
      have H1 : ((class_small.f a0).bind fun t107 => (if t107 = true then (some 2) else ((class_great.f a0).bind fun t108 => (if t108 = true then (some 2) else (if a0 ≥ 48 then (if a0 ≤ 57 then (some 2) else (if a0 = 95 then (some 2) else (if a0 ≥ 128 then (some 2) else (some 1)))) else (if a0 = 95 then (some 2) else (if a0 ≥ 128 then (some 2) else (some 1)))))))) = some r := by rw [if_neg (show ¬ (false = true) by decide)] at H; exact H
      clear H
      have H := H1
      clear H1
      replace H := Option.bind_eq_some_iff.mp H
      obtain ⟨t107, A80, H⟩ := H
      replace H : (if t107 = true then (some 2) else ((class_great.f a0).bind fun t108 => (if t108 = true then (some 2) else (if a0 ≥ 48 then (if a0 ≤ 57 then (some 2) else (if a0 = 95 then (some 2) else (if a0 ≥ 128 then (some 2) else (some 1)))) else (if a0 = 95 then (some 2) else (if a0 ≥ 128 then (some 2) else (some 1))))))) = some r := H
      have A8 := Aside0.mk A80
      clear A80
      by_cases c9 : t107 = true
      ·subst c9
       have H1 : (some 2) = some r := by rw [if_pos rfl] at H; exact H
       clear H
       have H := H1
       clear H1
       obtain rfl := Option.some.inj H
       go_wp2_with (first | (go_at_call 33; (with_reducible refine (class_small.calls a0 true _ A8.out).mono ?_); rintro e w' ⟨rfl, ⟨nd, rfl⟩⟩))
       go_ret
       exact ⟨by first | rfl | (simp; done) | (simp [*]; done), by repeat (first | exact Drawn0.refl _ | apply Drawn0.step)⟩
      ·replace c9 := Bool.eq_false_iff.mpr c9
       subst c9
       have H1 : ((class_great.f a0).bind fun t108 => (if t108 = true then (some 2) else (if a0 ≥ 48 then (if a0 ≤ 57 then (some 2) else (if a0 = 95 then (some 2) else (if a0 ≥ 128 then (some 2) else (some 1)))) else (if a0 = 95 then (some 2) else (if a0 ≥ 128 then (some 2) else (some 1)))))) = some r := by rw [if_neg (show ¬ (false = true) by decide)] at H; exact H
       clear H
       have H := H1
       clear H1
       replace H := Option.bind_eq_some_iff.mp H
       obtain ⟨t108, A100, H⟩ := H
       replace H : (if t108 = true then (some 2) else (if a0 ≥ 48 then (if a0 ≤ 57 then (some 2) else (if a0 = 95 then (some 2) else (if a0 ≥ 128 then (some 2) else (some 1)))) else (if a0 = 95 then (some 2) else (if a0 ≥ 128 then (some 2) else (some 1))))) = some r := H
       have A10 := Aside0.mk A100
       clear A100
       by_cases c11 : t108 = true
       ·subst c11
        have H1 : (some 2) = some r := by rw [if_pos rfl] at H; exact H
        clear H
        have H := H1
        clear H1
        obtain rfl := Option.some.inj H
        go_wp2_with (first | (go_at_call 33; (with_reducible refine (class_small.calls a0 false _ A8.out).mono ?_); rintro e w' ⟨rfl, ⟨nd, rfl⟩⟩) | (go_at_call 34; (with_reducible refine (class_great.calls a0 true _ A10.out).mono ?_); rintro e w' ⟨rfl, ⟨nd, rfl⟩⟩))
        go_ret
        exact ⟨by first | rfl | (simp; done) | (simp [*]; done), by repeat (first | exact Drawn0.refl _ | apply Drawn0.step)⟩
       ·replace c11 := Bool.eq_false_iff.mpr c11
        subst c11
        have H1 : (if a0 ≥ 48 then (if a0 ≤ 57 then (some 2) else (if a0 = 95 then (some 2) else (if a0 ≥ 128 then (some 2) else (some 1)))) else (if a0 = 95 then (some 2) else (if a0 ≥ 128 then (some 2) else (some 1)))) = some r := by rw [if_neg (show ¬ (false = true) by decide)] at H; exact H
        clear H
        have H := H1
        clear H1
        by_cases c12 : a0 ≥ 48
        ·rw [if_pos c12] at H
         have c12b0 : decide (48 ≤ a0) = true := decide_eq_true c12
         clear c12
         by_cases c13 : a0 ≤ 57
         ·rw [if_pos c13] at H
          have c13b0 : decide (a0 ≤ 57) = true := decide_eq_true c13
          clear c13
          obtain rfl := Option.some.inj H
          go_wp2_with (first | (go_at_call 33; (with_reducible refine (class_small.calls a0 false _ A8.out).mono ?_); rintro e w' ⟨rfl, ⟨nd, rfl⟩⟩) | (go_at_call 34; (with_reducible refine (class_great.calls a0 false _ A10.out).mono ?_); rintro e w' ⟨rfl, ⟨nd, rfl⟩⟩))
          go_ret
          exact ⟨by first | rfl | (simp; done) | (simp [*]; done), by repeat (first | exact Drawn0.refl _ | apply Drawn0.step)⟩
         ·rw [if_neg c13] at H
          have c13b0 : decide (a0 ≤ 57) = false := decide_eq_false c13
          clear c13
          by_cases c14 : a0 = 95
          ·rw [if_pos c14] at H
           have c14b0 : (a0 == 95) = true := beq_iff_eq.mpr c14
           have c14b1 : (a0 != 95) = false := bne_eq_false_iff_eq.mpr c14
           clear c14
           obtain rfl := Option.some.inj H
           go_wp2_with (first | (go_at_call 33; (with_reducible refine (class_small.calls a0 false _ A8.out).mono ?_); rintro e w' ⟨rfl, ⟨nd, rfl⟩⟩) | (go_at_call 34; (with_reducible refine (class_great.calls a0 false _ A10.out).mono ?_); rintro e w' ⟨rfl, ⟨nd, rfl⟩⟩))
           go_ret
           exact ⟨by first | rfl | (simp; done) | (simp [*]; done), by repeat (first | exact Drawn0.refl _ | apply Drawn0.step)⟩
          ·rw [if_neg c14] at H
           have c14b0 : (a0 == 95) = false := beq_eq_false_iff_ne.mpr c14
           have c14b1 : (a0 != 95) = true := bne_iff_ne.mpr c14
           by_cases c15 : a0 ≥ 128
           ·rw [if_pos c15] at H
            have c15b0 : decide (128 ≤ a0) = true := decide_eq_true c15
            clear c15
            obtain rfl := Option.some.inj H
            go_wp2_with (first | (go_at_call 33; (with_reducible refine (class_small.calls a0 false _ A8.out).mono ?_); rintro e w' ⟨rfl, ⟨nd, rfl⟩⟩) | (go_at_call 34; (with_reducible refine (class_great.calls a0 false _ A10.out).mono ?_); rintro e w' ⟨rfl, ⟨nd, rfl⟩⟩))
            go_ret
            exact ⟨by first | rfl | (simp; done) | (simp [*]; done), by repeat (first | exact Drawn0.refl _ | apply Drawn0.step)⟩
           ·rw [if_neg c15] at H
            have c15b0 : decide (128 ≤ a0) = false := decide_eq_false c15
            clear c15
            obtain rfl := Option.some.inj H
            go_wp2_with (first | (go_at_call 33; (with_reducible refine (class_small.calls a0 false _ A8.out).mono ?_); rintro e w' ⟨rfl, ⟨nd, rfl⟩⟩) | (go_at_call 34; (with_reducible refine (class_great.calls a0 false _ A10.out).mono ?_); rintro e w' ⟨rfl, ⟨nd, rfl⟩⟩))
            go_ret
            exact ⟨by first | rfl | (simp; done) | (simp [*]; done), by repeat (first | exact Drawn0.refl _ | apply Drawn0.step)⟩
        ·rw [if_neg c12] at H
         have c12b0 : decide (48 ≤ a0) = false := decide_eq_false c12
         clear c12
         by_cases c16 : a0 = 95
         ·rw [if_pos c16] at H
          have c16b0 : (a0 == 95) = true := beq_iff_eq.mpr c16
          have c16b1 : (a0 != 95) = false := bne_eq_false_iff_eq.mpr c16
          clear c16
          obtain rfl := Option.some.inj H
          go_wp2_with (first | (go_at_call 33; (with_reducible refine (class_small.calls a0 false _ A8.out).mono ?_); rintro e w' ⟨rfl, ⟨nd, rfl⟩⟩) | (go_at_call 34; (with_reducible refine (class_great.calls a0 false _ A10.out).mono ?_); rintro e w' ⟨rfl, ⟨nd, rfl⟩⟩))
          go_ret
          exact ⟨by first | rfl | (simp; done) | (simp [*]; done), by repeat (first | exact Drawn0.refl _ | apply Drawn0.step)⟩
         ·rw [if_neg c16] at H
          have c16b0 : (a0 == 95) = false := beq_eq_false_iff_ne.mpr c16
          have c16b1 : (a0 != 95) = true := bne_iff_ne.mpr c16
          by_cases c17 : a0 ≥ 128
          ·rw [if_pos c17] at H
           have c17b0 : decide (128 ≤ a0) = true := decide_eq_true c17
           clear c17
           obtain rfl := Option.some.inj H
           go_wp2_with (first | (go_at_call 33; (with_reducible refine (class_small.calls a0 false _ A8.out).mono ?_); rintro e w' ⟨rfl, ⟨nd, rfl⟩⟩) | (go_at_call 34; (with_reducible refine (class_great.calls a0 false _ A10.out).mono ?_); rintro e w' ⟨rfl, ⟨nd, rfl⟩⟩))
           go_ret
           exact ⟨by first | rfl | (simp; done) | (simp [*]; done), by repeat (first | exact Drawn0.refl _ | apply Drawn0.step)⟩
          ·rw [if_neg c17] at H
           have c17b0 : decide (128 ≤ a0) = false := decide_eq_false c17
           clear c17
           obtain rfl := Option.some.inj H
           go_wp2_with (first | (go_at_call 33; (with_reducible refine (class_small.calls a0 false _ A8.out).mono ?_); rintro e w' ⟨rfl, ⟨nd, rfl⟩⟩) | (go_at_call 34; (with_reducible refine (class_great.calls a0 false _ A10.out).mono ?_); rintro e w' ⟨rfl, ⟨nd, rfl⟩⟩))
           go_ret
           exact ⟨by first | rfl | (simp; done) | (simp [*]; done), by repeat (first | exact Drawn0.refl _ | apply Drawn0.step)⟩

end Go.Proofs.YtcochbkdgjgaeaaDoor.X
