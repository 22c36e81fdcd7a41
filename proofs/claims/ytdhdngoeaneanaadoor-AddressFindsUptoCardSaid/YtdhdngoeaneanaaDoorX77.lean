-- Written by wip/xprint.py over the kit's print.py: the Lean function of each Go function, and the proof that the Go text comes to it.
import Derived.Test.YtdhdngoeaneanaaDoorX0
namespace Go.Proofs.YtdhdngoeaneanaaDoor.X
open Go.RowKit Go.Proofs.YtdhdngoeaneanaaDoorW.PrintWords Go.Proofs.YtdhdngoeaneanaaDoorW.PrintLast Go.Proofs.YtdhdngoeaneanaaDoorW.PrintMore
attribute [local go_sem] max2_int min2_int max_two min_two max_three min_three max_four min_four   -- for this text's walks alone
set_option linter.unusedVariables false
set_option linter.unusedSimpArgs false

/-! ### quoinref23_sum: function 35 -/
def quoinref23_sum.j0 : Nat → Int → Int → Bool → Option (Int × Bool)
  | 0, _, _, _ => none
  | k + 1, x0, x1, x20 => if x20 = true then (some (0, false)) else (some (wrap64 (x0 + x1), true))
def quoinref23_sum.f (k : Nat) (a0 : Int) (a1 : Int) (a2 : Int) : Option (Int × Bool) := if a1 ≥ 0 then (if a0 < (wrap64 (-a1)) then (quoinref23_sum.j0 k a0 a1 true) else (quoinref23_sum.j0 k a0 a1 (decide (a0 > (wrap64 (a2 - a1)))))) else (if a1 = (-9223372036854775808) then (some (0, false)) else (if a0 < (wrap64 (-a1)) then (some (0, false)) else (if (wrap64 (a0 - a2)) > (wrap64 (-a1)) then (some (0, false)) else (some (wrap64 (a0 + a1), true)))))
theorem quoinref23_sum.mono_l : ∀ k, (∀ y0 y1 y2, LeO (quoinref23_sum.j0 k y0 y1 y2) (quoinref23_sum.j0 (k + 1) y0 y1 y2))
  | 0 => fun _ _ _ r h => by simp [quoinref23_sum.j0] at h
  | k + 1 => by
    have ih0 := quoinref23_sum.mono_l k
    · intro y0 y1 y2
      unfold quoinref23_sum.j0
      repeat' first
      | (with_reducible exact ih0 _ _ _)
      | (with_reducible exact LeO.refl _)
      | (with_reducible exact LeO.none _)
      | (with_reducible refine LeO.ite ?_ ?_)
      | (with_reducible refine LeO.bind ?_ (fun _ => ?_))
      | exact ih0 _ _ _
      | exact LeO.none _
      | refine LeO.ite ?_ ?_
      | refine LeO.bind ?_ (fun _ => ?_)
theorem quoinref23_sum.mono : ∀ a0 a1 a2 k, LeO (quoinref23_sum.f k a0 a1 a2) (quoinref23_sum.f (k + 1) a0 a1 a2) := by
  intro a0 a1 a2 k
  have ih0 := quoinref23_sum.mono_l k
  unfold quoinref23_sum.f
  repeat' first
      | (with_reducible exact ih0 _ _ _)
      | (with_reducible exact LeO.refl _)
      | (with_reducible exact LeO.none _)
      | (with_reducible refine LeO.ite ?_ ?_)
      | (with_reducible refine LeO.bind ?_ (fun _ => ?_))
      | exact ih0 _ _ _
      | exact LeO.none _
      | refine LeO.ite ?_ ?_
      | refine LeO.bind ?_ (fun _ => ?_)
set_option maxHeartbeats 8000000 in
set_option maxRecDepth 100000 in
theorem quoinref23_sum.calls (k : Nat) (a0 : Int) (a1 : Int) (a2 : Int) (r1 : Int) (r2 : Bool) (w : World) (h : quoinref23_sum.f k a0 a1 a2 = some (r1, r2)) :
    Calls Tryd.prog 35 #[.int .i64 a0, .int .i64 a1, .int .i64 a2] w fun e w' => e = .returned (.tuple #[.int .i64 r1, .bool r2]) ∧ Drawn0 w w' := by
  have H : (if a1 ≥ 0 then (if a0 < (wrap64 (-a1)) then (quoinref23_sum.j0 k a0 a1 true) else (quoinref23_sum.j0 k a0 a1 (decide (a0 > (wrap64 (a2 - a1)))))) else (if a1 = (-9223372036854775808) then (some (0, false)) else (if a0 < (wrap64 (-a1)) then (some (0, false)) else (if (wrap64 (a0 - a2)) > (wrap64 (-a1)) then (some (0, false)) else (some (wrap64 (a0 + a1), true)))))) = some (r1, r2) := h
  clear h
  by_cases c4 : a1 ≥ 0
  · rw [if_pos c4] at H
    have c4b0 : decide (0 ≤ a1) = true := decide_eq_true c4
    clear c4
    have HC5 := Aside0.mk H
    clear H
    go_enter Tryd.func35, Tryd.ntmps35
    go_upto_region 2 with (fail)
    go_cut [20] (fun v20 wc => ∃ (kq : Nat) (x20_4 : Bool), v20 = .bool x20_4 ∧ Aside0 (quoinref23_sum.j0 kq a0 a1 x20_4 = some (r1, r2)) ∧ Aside0 (kq ≤ k) ∧ Drawn0 w wc)
    case first =>
      have H := HC5.out
      clear HC5
      by_cases c6 : a0 < (wrap64 (-a1))
      · rw [if_pos c6] at H
        have c6b0 : decide (a0 < (wrap64 (-a1))) = true := decide_eq_true c6
        clear c6
        (first | rw [c6b0] | (simp only [i64_w, i32_w]; rw [c6b0]) | skip)
        have H' := Aside0.mk H
        clear H
        go_wp2
        go_meet
        case rel => exact ⟨_, (true), (by first | rfl | (simp; done) | (simp [*]; done)), H', ⟨by first | omega | exact Nat.le_refl _⟩, by repeat (first | exact Drawn0.refl _ | apply Drawn0.step)⟩
      · rw [if_neg c6] at H
        have c6b0 : decide (a0 < (wrap64 (-a1))) = false := decide_eq_false c6
        clear c6
        (first | rw [c6b0] | (simp only [i64_w, i32_w]; rw [c6b0]) | skip)
        have H' := Aside0.mk H
        clear H
        go_wp2
        go_meet
        case rel => exact ⟨_, (decide (a0 > (wrap64 (a2 - a1)))), (by first | rfl | (simp; done) | (simp [*]; done)), H', ⟨by first | omega | exact Nat.le_refl _⟩, by repeat (first | exact Drawn0.refl _ | apply Drawn0.step)⟩
    case rest =>
      clear HC5
      try clear p2
      try clear c3
      try clear c4
      try clear c4b0
      try clear c6
      try clear c6b0
      try clear p6
      obtain ⟨kq, x20_4, rfl, HA, HJ4, ⟨mc4, rfl⟩⟩ := hcut
      cases kq with
      | zero => exact absurd HA.out (by simp [quoinref23_sum.j0])
      | succ kj4 =>
        have H := HA.out
        clear HA
        simp only [quoinref23_sum.j0] at H
        by_cases c7 : x20_4 = true
        · subst c7
          have H1 : (some (0, false)) = some (r1, r2) := by rw [if_pos rfl] at H; exact H
          clear H
          have H := H1
          clear H1
          simp only [Option.some.injEq, Prod.mk.injEq] at H
          obtain ⟨rfl, rfl⟩ := H
          go_wp2
          go_ret2
          exact ⟨by first | rfl | (simp; done) | (simp [*]; done), by repeat (first | exact Drawn0.refl _ | apply Drawn0.step)⟩
        · replace c7 := Bool.eq_false_iff.mpr c7
          subst c7
          have H1 : (some (wrap64 (a0 + a1), true)) = some (r1, r2) := by rw [if_neg (show ¬ (false = true) by decide)] at H; exact H
          clear H
          have H := H1
          clear H1
          simp only [Option.some.injEq, Prod.mk.injEq] at H
          obtain ⟨rfl, rfl⟩ := H
          go_wp2
          go_ret2
          exact ⟨by first | rfl | (simp; done) | (simp [*]; done), by repeat (first | exact Drawn0.refl _ | apply Drawn0.step)⟩
  · rw [if_neg c4] at H
    have c4b0 : decide (0 ≤ a1) = false := decide_eq_false c4
    clear c4
    by_cases c8 : a1 = (-9223372036854775808)
    · rw [if_pos c8] at H
      have c8b0 : (a1 == (-9223372036854775808)) = true := beq_iff_eq.mpr c8
      have c8b1 : (a1 != (-9223372036854775808)) = false := bne_eq_false_iff_eq.mpr c8
      clear c8
      simp only [Option.some.injEq, Prod.mk.injEq] at H
      obtain ⟨rfl, rfl⟩ := H
      go_enter Tryd.func35, Tryd.ntmps35
      go_wp2
      go_ret2
      exact ⟨by first | rfl | (simp; done) | (simp [*]; done), by repeat (first | exact Drawn0.refl _ | apply Drawn0.step)⟩
    · rw [if_neg c8] at H
      have c8b0 : (a1 == (-9223372036854775808)) = false := beq_eq_false_iff_ne.mpr c8
      have c8b1 : (a1 != (-9223372036854775808)) = true := bne_iff_ne.mpr c8
      by_cases c9 : a0 < (wrap64 (-a1))
      · rw [if_pos c9] at H
        have c9b0 : decide (a0 < (wrap64 (-a1))) = true := decide_eq_true c9
        clear c9
        simp only [Option.some.injEq, Prod.mk.injEq] at H
        obtain ⟨rfl, rfl⟩ := H
        go_enter Tryd.func35, Tryd.ntmps35
        go_wp2
        go_ret2
        exact ⟨by first | rfl | (simp; done) | (simp [*]; done), by repeat (first | exact Drawn0.refl _ | apply Drawn0.step)⟩
      · rw [if_neg c9] at H
        have c9b0 : decide (a0 < (wrap64 (-a1))) = false := decide_eq_false c9
        clear c9
        by_cases c10 : (wrap64 (a0 - a2)) > (wrap64 (-a1))
        · rw [if_pos c10] at H
          have c10b0 : decide ((wrap64 (-a1)) < (wrap64 (a0 - a2))) = true := decide_eq_true c10
          clear c10
          simp only [Option.some.injEq, Prod.mk.injEq] at H
          obtain ⟨rfl, rfl⟩ := H
          go_enter Tryd.func35, Tryd.ntmps35
          go_wp2
          go_ret2
          exact ⟨by first | rfl | (simp; done) | (simp [*]; done), by repeat (first | exact Drawn0.refl _ | apply Drawn0.step)⟩
        · rw [if_neg c10] at H
          have c10b0 : decide ((wrap64 (-a1)) < (wrap64 (a0 - a2))) = false := decide_eq_false c10
          clear c10
          simp only [Option.some.injEq, Prod.mk.injEq] at H
          obtain ⟨rfl, rfl⟩ := H
          go_enter Tryd.func35, Tryd.ntmps35
          go_wp2
          go_ret2
          exact ⟨by first | rfl | (simp; done) | (simp [*]; done), by repeat (first | exact Drawn0.refl _ | apply Drawn0.step)⟩

end Go.Proofs.YtdhdngoeaneanaaDoor.X
