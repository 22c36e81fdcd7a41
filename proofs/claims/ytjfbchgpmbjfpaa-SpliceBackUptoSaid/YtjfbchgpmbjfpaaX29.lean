-- Written by wip/xprint.py over the kit's print.py: the Lean function of each Go function, and the proof that the Go text comes to it.
import Derived.Test.YtjfbchgpmbjfpaaX0
namespace Go.Proofs.Ytjfbchgpmbjfpaa.X
open Go.RowKit Go.Proofs.YtjfbchgpmbjfpaaW.PrintWords Go.Proofs.YtjfbchgpmbjfpaaW.PrintLast Go.Proofs.YtjfbchgpmbjfpaaW.PrintMore
attribute [local go_sem] max2_int min2_int max_two min_two max_three min_three max_four min_four   -- for this text's walks alone
set_option linter.unusedVariables false
set_option linter.unusedSimpArgs false

/-! ### quoinlaw03_packed: function 24 -/
def quoinlaw03_packed.l0 : Nat → List (S29) → Int → Option (Bool)
  | 0, _, _ => none
  | k + 1, x0, x3 => if x3 < (x0.length : Int) then (if 0 ≤ x3 then (if ((rd_T29 x0 x3).f2) < 1 then (some false) else (if x3 > 0 then (if 0 ≤ (wrap64 (x3 - 1)) then (if (wrap64 (x3 - 1)) < (x0.length : Int) then (if ((rd_T29 x0 (wrap64 (x3 - 1))).f0) = ((rd_T29 x0 x3).f0) then (if (wrap64 (((rd_T29 x0 (wrap64 (x3 - 1))).f1) + ((rd_T29 x0 (wrap64 (x3 - 1))).f2))) = ((rd_T29 x0 x3).f1) then (some false) else (quoinlaw03_packed.l0 k x0 (wrap64 (x3 + 1)))) else (quoinlaw03_packed.l0 k x0 (wrap64 (x3 + 1)))) else (none)) else (none)) else (quoinlaw03_packed.l0 k x0 (wrap64 (x3 + 1))))) else (none)) else (some true)
def quoinlaw03_packed.f (k : Nat) (l0 : List (S29)) : Option (Bool) := quoinlaw03_packed.l0 k l0 0
theorem quoinlaw03_packed.mono_l : ∀ k, (∀ y0 y1, LeO (quoinlaw03_packed.l0 k y0 y1) (quoinlaw03_packed.l0 (k + 1) y0 y1))
  | 0 => fun _ _ r h => by simp [quoinlaw03_packed.l0] at h
  | k + 1 => by
    have ih0 := quoinlaw03_packed.mono_l k
    · intro y0 y1
      unfold quoinlaw03_packed.l0
      repeat' first
      | (with_reducible exact ih0 _ _)
      | (with_reducible exact LeO.refl _)
      | (with_reducible exact LeO.none _)
      | (with_reducible refine LeO.ite ?_ ?_)
      | (with_reducible refine LeO.bind ?_ (fun _ => ?_))
      | exact ih0 _ _
      | exact LeO.none _
      | refine LeO.ite ?_ ?_
      | refine LeO.bind ?_ (fun _ => ?_)
theorem quoinlaw03_packed.mono : ∀ a0 k, LeO (quoinlaw03_packed.f k a0) (quoinlaw03_packed.f (k + 1) a0) := by
  intro a0 k
  have ih0 := quoinlaw03_packed.mono_l k
  unfold quoinlaw03_packed.f
  repeat' first
      | (with_reducible exact ih0 _ _)
      | (with_reducible exact LeO.refl _)
      | (with_reducible exact LeO.none _)
      | (with_reducible refine LeO.ite ?_ ?_)
      | (with_reducible refine LeO.bind ?_ (fun _ => ?_))
      | exact ih0 _ _
      | exact LeO.none _
      | refine LeO.ite ?_ ?_
      | refine LeO.bind ?_ (fun _ => ?_)
set_option maxHeartbeats 8000000 in
set_option maxRecDepth 100000 in
theorem quoinlaw03_packed.calls (k : Nat) (A0 : Option Addr) (c0 : Nat) (l0 : List (S29)) (r : Bool) (w : World) (hr0 : Kd.C k29 w A0 l0.length l0) (hc0 : l0.length ≤ c0) (h : quoinlaw03_packed.f k l0 = some r) :
    Calls Try.prog 24 #[.slice A0 l0.length c0] w fun e w' => e = .returned (.bool r) ∧ Drawn0 w w' := by
  have HR0 := Aside0.mk hr0
  have HC0 := Aside0.mk hc0
  clear hr0 hc0
  have H : (quoinlaw03_packed.l0 k l0 0) = some r := h
  clear h
  have H' := Aside0.mk H
  clear H
  go_enter Try.func24, Try.ntmps24
  go_wp2
  repeat (go_quiet (fail); try go_wp2)
  go_loopg [3] k (fun kq v3 w' => ∃ (x3_1 : Int), v3 = .int .i64 x3_1 ∧ Aside0 (quoinlaw03_packed.l0 kq l0 x3_1 = some r) ∧ Aside0 (kq ≤ k) ∧ Drawn0 w w')
  case atStart => exact ⟨(0), (by first | rfl | (simp; done) | (simp [*]; done)), H', ⟨Nat.le_refl _⟩, by repeat (first | exact Drawn0.refl _ | apply Drawn0.step)⟩
  case round =>
    clear H'
    obtain ⟨x3_1, rfl, HA, HK1, ⟨m1, rfl⟩⟩ := hrel
    cases gk with
    | zero => exact absurd HA.out (by simp [quoinlaw03_packed.l0])
    | succ k1 =>
      have H := HA.out
      clear HA
      simp only [quoinlaw03_packed.l0] at H
      by_cases c2 : x3_1 < (l0.length : Int)
      · rw [if_pos c2] at H
        have c2b0 : decide (x3_1 < (l0.length : Int)) = true := decide_eq_true c2
        clear c2
        by_cases c3 : 0 ≤ x3_1
        · rw [if_pos c3] at H
          have c3b0 : decide (0 ≤ x3_1) = true := decide_eq_true c3
          clear c3
          by_cases c4 : ((rd_T29 l0 x3_1).f2) < 1
          · rw [if_pos c4] at H
            have c4b0 : decide (((rd_T29 l0 x3_1).f2) < 1) = true := decide_eq_true c4
            clear c4
            obtain rfl := Option.some.inj H
            have p356 : 0 ≤ (x3_1 : Int) := of_decide_eq_true (by first | (with_reducible assumption) | assumption)
            have q356 : x3_1 < (l0.length : Int) := of_decide_eq_true (by first | (with_reducible assumption) | assumption)
            obtain ⟨ad356, e356, hx356_0, hx356_1, hx356_2⟩ := at_T29 HR0.out x3_1 p356 q356
            cases e356
            replace p356 := eq_true p356
            replace q356 := eq_true q356
            go_wp2
            repeat (go_quiet (fail); try go_wp2)
            go_ret
            exact ⟨by first | rfl | (simp; done) | (simp [*]; done), by repeat (first | exact Drawn0.refl _ | apply Drawn0.step)⟩
          · rw [if_neg c4] at H
            have c4b0 : decide (((rd_T29 l0 x3_1).f2) < 1) = false := decide_eq_false c4
            clear c4
            by_cases c5 : x3_1 > 0
            · rw [if_pos c5] at H
              have c5b0 : decide (0 < x3_1) = true := decide_eq_true c5
              clear c5
              obtain ⟨ji6, hji6⟩ : ∃ j_ : Int, (wrap64 (x3_1 - 1)) = j_ := ⟨_, rfl⟩
              replace H : (if 0 ≤ (ji6) then (if (ji6) < (l0.length : Int) then (if ((rd_T29 l0 (ji6)).f0) = ((rd_T29 l0 x3_1).f0) then (if (wrap64 (((rd_T29 l0 (ji6)).f1) + ((rd_T29 l0 (ji6)).f2))) = ((rd_T29 l0 x3_1).f1) then (some false) else (quoinlaw03_packed.l0 k1 l0 (wrap64 (x3_1 + 1)))) else (quoinlaw03_packed.l0 k1 l0 (wrap64 (x3_1 + 1)))) else (none)) else (none)) = some r := by first | (rw [hji6] at H; exact H) | (simp only [hji6] at H ⊢; exact H)
              have hji6w : (IntKind.i64.wrap (x3_1 - 1)) = ji6 := (i64_w _).trans hji6
              by_cases c7 : 0 ≤ (ji6)
              · rw [if_pos c7] at H
                have c7b0 : decide (0 ≤ (ji6)) = true := decide_eq_true c7
                clear c7
                by_cases c8 : (ji6) < (l0.length : Int)
                · rw [if_pos c8] at H
                  have c8b0 : decide ((ji6) < (l0.length : Int)) = true := decide_eq_true c8
                  clear c8
                  by_cases c9 : ((rd_T29 l0 (ji6)).f0) = ((rd_T29 l0 x3_1).f0)
                  · rw [if_pos c9] at H
                    have c9b0 : (((rd_T29 l0 (ji6)).f0) == ((rd_T29 l0 x3_1).f0)) = true := beq_iff_eq.mpr c9
                    have c9b1 : (((rd_T29 l0 (ji6)).f0) != ((rd_T29 l0 x3_1).f0)) = false := bne_eq_false_iff_eq.mpr c9
                    clear c9
                    by_cases c10 : (wrap64 (((rd_T29 l0 (ji6)).f1) + ((rd_T29 l0 (ji6)).f2))) = ((rd_T29 l0 x3_1).f1)
                    · rw [if_pos c10] at H
                      have c10b0 : ((wrap64 (((rd_T29 l0 (ji6)).f1) + ((rd_T29 l0 (ji6)).f2))) == ((rd_T29 l0 x3_1).f1)) = true := beq_iff_eq.mpr c10
                      have c10b1 : ((wrap64 (((rd_T29 l0 (ji6)).f1) + ((rd_T29 l0 (ji6)).f2))) != ((rd_T29 l0 x3_1).f1)) = false := bne_eq_false_iff_eq.mpr c10
                      clear c10
                      obtain rfl := Option.some.inj H
                      have p356 : 0 ≤ (x3_1 : Int) := of_decide_eq_true (by first | (with_reducible assumption) | assumption)
                      have q356 : x3_1 < (l0.length : Int) := of_decide_eq_true (by first | (with_reducible assumption) | assumption)
                      obtain ⟨ad356, e356, hx356_0, hx356_1, hx356_2⟩ := at_T29 HR0.out x3_1 p356 q356
                      cases e356
                      replace p356 := eq_true p356
                      replace q356 := eq_true q356
                      have p357 : 0 ≤ ((ji6) : Int) := of_decide_eq_true (by first | (with_reducible assumption) | assumption)
                      have q357 : (ji6) < (l0.length : Int) := of_decide_eq_true (by first | (with_reducible assumption) | assumption)
                      obtain ⟨ad357, e357, hx357_0, hx357_1, hx357_2⟩ := at_T29 HR0.out (ji6) p357 q357
                      obtain rfl : ad356 = ad357 := (by injection e357)
                      replace p357 := eq_true p357
                      replace q357 := eq_true q357
                      have p358 : 0 ≤ (x3_1 : Int) := of_decide_eq_true (by first | (with_reducible assumption) | assumption)
                      have q358 : x3_1 < (l0.length : Int) := of_decide_eq_true (by first | (with_reducible assumption) | assumption)
                      obtain ⟨ad358, e358, hx358_0, hx358_1, hx358_2⟩ := at_T29 HR0.out x3_1 p358 q358
                      obtain rfl : ad356 = ad358 := (by injection e358)
                      replace p358 := eq_true p358
                      replace q358 := eq_true q358
                      have p359 : 0 ≤ ((ji6) : Int) := of_decide_eq_true (by first | (with_reducible assumption) | assumption)
                      have q359 : (ji6) < (l0.length : Int) := of_decide_eq_true (by first | (with_reducible assumption) | assumption)
                      obtain ⟨ad359, e359, hx359_0, hx359_1, hx359_2⟩ := at_T29 HR0.out (ji6) p359 q359
                      obtain rfl : ad356 = ad359 := (by injection e359)
                      replace p359 := eq_true p359
                      replace q359 := eq_true q359
                      have p360 : 0 ≤ ((ji6) : Int) := of_decide_eq_true (by first | (with_reducible assumption) | assumption)
                      have q360 : (ji6) < (l0.length : Int) := of_decide_eq_true (by first | (with_reducible assumption) | assumption)
                      obtain ⟨ad360, e360, hx360_0, hx360_1, hx360_2⟩ := at_T29 HR0.out (ji6) p360 q360
                      obtain rfl : ad356 = ad360 := (by injection e360)
                      replace p360 := eq_true p360
                      replace q360 := eq_true q360
                      have p361 : 0 ≤ (x3_1 : Int) := of_decide_eq_true (by first | (with_reducible assumption) | assumption)
                      have q361 : x3_1 < (l0.length : Int) := of_decide_eq_true (by first | (with_reducible assumption) | assumption)
                      obtain ⟨ad361, e361, hx361_0, hx361_1, hx361_2⟩ := at_T29 HR0.out x3_1 p361 q361
                      obtain rfl : ad356 = ad361 := (by injection e361)
                      replace p361 := eq_true p361
                      replace q361 := eq_true q361
                      go_wp2
                      repeat (go_quiet (fail); try go_wp2)
                      go_ret
                      exact ⟨by first | rfl | (simp; done) | (simp only [← hji6] <;> (first | rfl | simp)) | (simp [*]; done), by repeat (first | exact Drawn0.refl _ | apply Drawn0.step)⟩
                    · rw [if_neg c10] at H
                      have c10b0 : ((wrap64 (((rd_T29 l0 (ji6)).f1) + ((rd_T29 l0 (ji6)).f2))) == ((rd_T29 l0 x3_1).f1)) = false := beq_eq_false_iff_ne.mpr c10
                      have c10b1 : ((wrap64 (((rd_T29 l0 (ji6)).f1) + ((rd_T29 l0 (ji6)).f2))) != ((rd_T29 l0 x3_1).f1)) = true := bne_iff_ne.mpr c10
                      have H' := Aside0.mk H
                      clear H
                      have p356 : 0 ≤ (x3_1 : Int) := of_decide_eq_true (by first | (with_reducible assumption) | assumption)
                      have q356 : x3_1 < (l0.length : Int) := of_decide_eq_true (by first | (with_reducible assumption) | assumption)
                      obtain ⟨ad356, e356, hx356_0, hx356_1, hx356_2⟩ := at_T29 HR0.out x3_1 p356 q356
                      cases e356
                      replace p356 := eq_true p356
                      replace q356 := eq_true q356
                      have p357 : 0 ≤ ((ji6) : Int) := of_decide_eq_true (by first | (with_reducible assumption) | assumption)
                      have q357 : (ji6) < (l0.length : Int) := of_decide_eq_true (by first | (with_reducible assumption) | assumption)
                      obtain ⟨ad357, e357, hx357_0, hx357_1, hx357_2⟩ := at_T29 HR0.out (ji6) p357 q357
                      obtain rfl : ad356 = ad357 := (by injection e357)
                      replace p357 := eq_true p357
                      replace q357 := eq_true q357
                      have p358 : 0 ≤ (x3_1 : Int) := of_decide_eq_true (by first | (with_reducible assumption) | assumption)
                      have q358 : x3_1 < (l0.length : Int) := of_decide_eq_true (by first | (with_reducible assumption) | assumption)
                      obtain ⟨ad358, e358, hx358_0, hx358_1, hx358_2⟩ := at_T29 HR0.out x3_1 p358 q358
                      obtain rfl : ad356 = ad358 := (by injection e358)
                      replace p358 := eq_true p358
                      replace q358 := eq_true q358
                      have p359 : 0 ≤ ((ji6) : Int) := of_decide_eq_true (by first | (with_reducible assumption) | assumption)
                      have q359 : (ji6) < (l0.length : Int) := of_decide_eq_true (by first | (with_reducible assumption) | assumption)
                      obtain ⟨ad359, e359, hx359_0, hx359_1, hx359_2⟩ := at_T29 HR0.out (ji6) p359 q359
                      obtain rfl : ad356 = ad359 := (by injection e359)
                      replace p359 := eq_true p359
                      replace q359 := eq_true q359
                      have p360 : 0 ≤ ((ji6) : Int) := of_decide_eq_true (by first | (with_reducible assumption) | assumption)
                      have q360 : (ji6) < (l0.length : Int) := of_decide_eq_true (by first | (with_reducible assumption) | assumption)
                      obtain ⟨ad360, e360, hx360_0, hx360_1, hx360_2⟩ := at_T29 HR0.out (ji6) p360 q360
                      obtain rfl : ad356 = ad360 := (by injection e360)
                      replace p360 := eq_true p360
                      replace q360 := eq_true q360
                      have p361 : 0 ≤ (x3_1 : Int) := of_decide_eq_true (by first | (with_reducible assumption) | assumption)
                      have q361 : x3_1 < (l0.length : Int) := of_decide_eq_true (by first | (with_reducible assumption) | assumption)
                      obtain ⟨ad361, e361, hx361_0, hx361_1, hx361_2⟩ := at_T29 HR0.out x3_1 p361 q361
                      obtain rfl : ad356 = ad361 := (by injection e361)
                      replace p361 := eq_true p361
                      replace q361 := eq_true q361
                      go_wp2
                      repeat (go_quiet (fail); try go_wp2)
                      go_roundg k1
                      case measure => have := HK1.out; omega
                      case rel => exact ⟨(wrap64 (x3_1 + 1)), (by first | rfl | (simp; done) | (simp [*]; done)), H', ⟨by have := HK1.out; omega⟩, by repeat (first | exact Drawn0.refl _ | apply Drawn0.step)⟩
                  · rw [if_neg c9] at H
                    have c9b0 : (((rd_T29 l0 (ji6)).f0) == ((rd_T29 l0 x3_1).f0)) = false := beq_eq_false_iff_ne.mpr c9
                    have c9b1 : (((rd_T29 l0 (ji6)).f0) != ((rd_T29 l0 x3_1).f0)) = true := bne_iff_ne.mpr c9
                    have H' := Aside0.mk H
                    clear H
                    have p356 : 0 ≤ (x3_1 : Int) := of_decide_eq_true (by first | (with_reducible assumption) | assumption)
                    have q356 : x3_1 < (l0.length : Int) := of_decide_eq_true (by first | (with_reducible assumption) | assumption)
                    obtain ⟨ad356, e356, hx356_0, hx356_1, hx356_2⟩ := at_T29 HR0.out x3_1 p356 q356
                    cases e356
                    replace p356 := eq_true p356
                    replace q356 := eq_true q356
                    have p357 : 0 ≤ ((ji6) : Int) := of_decide_eq_true (by first | (with_reducible assumption) | assumption)
                    have q357 : (ji6) < (l0.length : Int) := of_decide_eq_true (by first | (with_reducible assumption) | assumption)
                    obtain ⟨ad357, e357, hx357_0, hx357_1, hx357_2⟩ := at_T29 HR0.out (ji6) p357 q357
                    obtain rfl : ad356 = ad357 := (by injection e357)
                    replace p357 := eq_true p357
                    replace q357 := eq_true q357
                    have p358 : 0 ≤ (x3_1 : Int) := of_decide_eq_true (by first | (with_reducible assumption) | assumption)
                    have q358 : x3_1 < (l0.length : Int) := of_decide_eq_true (by first | (with_reducible assumption) | assumption)
                    obtain ⟨ad358, e358, hx358_0, hx358_1, hx358_2⟩ := at_T29 HR0.out x3_1 p358 q358
                    obtain rfl : ad356 = ad358 := (by injection e358)
                    replace p358 := eq_true p358
                    replace q358 := eq_true q358
                    go_wp2
                    repeat (go_quiet (fail); try go_wp2)
                    go_roundg k1
                    case measure => have := HK1.out; omega
                    case rel => exact ⟨(wrap64 (x3_1 + 1)), (by first | rfl | (simp; done) | (simp [*]; done)), H', ⟨by have := HK1.out; omega⟩, by repeat (first | exact Drawn0.refl _ | apply Drawn0.step)⟩
                · rw [if_neg c8] at H
                  exact absurd H (by simp)
              · rw [if_neg c7] at H
                exact absurd H (by simp)
            · rw [if_neg c5] at H
              have c5b0 : decide (0 < x3_1) = false := decide_eq_false c5
              clear c5
              have H' := Aside0.mk H
              clear H
              have p356 : 0 ≤ (x3_1 : Int) := of_decide_eq_true (by first | (with_reducible assumption) | assumption)
              have q356 : x3_1 < (l0.length : Int) := of_decide_eq_true (by first | (with_reducible assumption) | assumption)
              obtain ⟨ad356, e356, hx356_0, hx356_1, hx356_2⟩ := at_T29 HR0.out x3_1 p356 q356
              cases e356
              replace p356 := eq_true p356
              replace q356 := eq_true q356
              go_wp2
              repeat (go_quiet (fail); try go_wp2)
              go_roundg k1
              case measure => have := HK1.out; omega
              case rel => exact ⟨(wrap64 (x3_1 + 1)), (by first | rfl | (simp; done) | (simp [*]; done)), H', ⟨by have := HK1.out; omega⟩, by repeat (first | exact Drawn0.refl _ | apply Drawn0.step)⟩
        · rw [if_neg c3] at H
          exact absurd H (by simp)
      · rw [if_neg c2] at H
        have c2b0 : decide (x3_1 < (l0.length : Int)) = false := decide_eq_false c2
        clear c2
        obtain rfl := Option.some.inj H
        go_wp2
        repeat (go_quiet (fail); try go_wp2)
        go_ret
        exact ⟨by first | rfl | (simp; done) | (simp [*]; done), by repeat (first | exact Drawn0.refl _ | apply Drawn0.step)⟩

end Go.Proofs.Ytjfbchgpmbjfpaa.X
