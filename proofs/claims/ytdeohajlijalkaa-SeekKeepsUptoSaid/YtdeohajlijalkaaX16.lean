-- Written by wip/xprint.py over the kit's print.py: the Lean function of each Go function, and the proof that the Go text comes to it.
import Derived.Test.YtdeohajlijalkaaX0
namespace Go.Proofs.Ytdeohajlijalkaa.X
open Go.RowKit Go.Proofs.YtdeohajlijalkaaW.PrintWords Go.Proofs.YtdeohajlijalkaaW.PrintLast Go.Proofs.YtdeohajlijalkaaW.PrintMore
attribute [local go_sem] max2_int min2_int max_two min_two max_three min_three max_four min_four   -- for this text's walks alone
set_option linter.unusedVariables false
set_option linter.unusedSimpArgs false

/-! ### quoinref09_isKey: function 16 -/
def quoinref09_isKey.f (a0 : Int) : Option (Bool) := if a0 = 102 then (some true) else (if a0 = 70 then (some true) else (if a0 = 116 then (some true) else (some (a0 == 84))))
set_option maxHeartbeats 8000000 in
set_option maxRecDepth 100000 in
theorem quoinref09_isKey.calls (a0 : Int) (r : Bool) (w : World) (h : quoinref09_isKey.f a0 = some r) :
    Calls Try.prog 16 #[.int .u8 a0] w fun e w' => e = .returned (.bool r) ∧ Drawn0 w w' := by
  have H : (if a0 = 102 then (some true) else (if a0 = 70 then (some true) else (if a0 = 116 then (some true) else (some (a0 == 84))))) = some r := h
  clear h
  by_cases c2 : a0 = 102
  · rw [if_pos c2] at H
    have c2b0 : (a0 == 102) = true := beq_iff_eq.mpr c2
    have c2b1 : (a0 != 102) = false := bne_eq_false_iff_eq.mpr c2
    clear c2
    obtain rfl := Option.some.inj H
    go_enter Try.func16, Try.ntmps16
    go_wp2
    go_ret
    exact ⟨by first | rfl | (simp; done) | (simp [*]; done), by repeat (first | exact Drawn0.refl _ | apply Drawn0.step)⟩
  · rw [if_neg c2] at H
    have c2b0 : (a0 == 102) = false := beq_eq_false_iff_ne.mpr c2
    have c2b1 : (a0 != 102) = true := bne_iff_ne.mpr c2
    by_cases c3 : a0 = 70
    · rw [if_pos c3] at H
      have c3b0 : (a0 == 70) = true := beq_iff_eq.mpr c3
      have c3b1 : (a0 != 70) = false := bne_eq_false_iff_eq.mpr c3
      clear c3
      obtain rfl := Option.some.inj H
      go_enter Try.func16, Try.ntmps16
      go_wp2
      go_ret
      exact ⟨by first | rfl | (simp; done) | (simp [*]; done), by repeat (first | exact Drawn0.refl _ | apply Drawn0.step)⟩
    · rw [if_neg c3] at H
      have c3b0 : (a0 == 70) = false := beq_eq_false_iff_ne.mpr c3
      have c3b1 : (a0 != 70) = true := bne_iff_ne.mpr c3
      by_cases c4 : a0 = 116
      · rw [if_pos c4] at H
        have c4b0 : (a0 == 116) = true := beq_iff_eq.mpr c4
        have c4b1 : (a0 != 116) = false := bne_eq_false_iff_eq.mpr c4
        clear c4
        obtain rfl := Option.some.inj H
        go_enter Try.func16, Try.ntmps16
        go_wp2
        go_ret
        exact ⟨by first | rfl | (simp; done) | (simp [*]; done), by repeat (first | exact Drawn0.refl _ | apply Drawn0.step)⟩
      · rw [if_neg c4] at H
        have c4b0 : (a0 == 116) = false := beq_eq_false_iff_ne.mpr c4
        have c4b1 : (a0 != 116) = true := bne_iff_ne.mpr c4
        obtain rfl := Option.some.inj H
        go_enter Try.func16, Try.ntmps16
        go_wp2
        go_ret
        exact ⟨by first | rfl | (simp; done) | (simp [*]; done), by repeat (first | exact Drawn0.refl _ | apply Drawn0.step)⟩

end Go.Proofs.Ytdeohajlijalkaa.X
