-- Written by wip/xprint.py over the kit's print.py: the Lean function of each Go function, and the proof that the Go text comes to it.
import Derived.Test.YtofkcdnkbjpmmaaX0
namespace Go.Proofs.Ytofkcdnkbjpmmaa.X
open Go.RowKit Go.Proofs.YtofkcdnkbjpmmaaW.PrintWords Go.Proofs.YtofkcdnkbjpmmaaW.PrintLast Go.Proofs.YtofkcdnkbjpmmaaW.PrintMore
attribute [local go_sem] max2_int min2_int max_two min_two max_three min_three max_four min_four   -- for this text's walks alone
set_option linter.unusedVariables false
set_option linter.unusedSimpArgs false

/-! ### quoinref07_known: function 20 -/
def quoinref07_known.f (a0 : ByteArray) : Option (Bool) := if a0.toList = ([104] : List UInt8) then (some true) else (if a0.toList = ([108] : List UInt8) then (some true) else (if a0.toList = ([106] : List UInt8) then (some true) else (if a0.toList = ([107] : List UInt8) then (some true) else (if a0.toList = ([43] : List UInt8) then (some true) else (if a0.toList = ([45] : List UInt8) then (some true) else (if a0.toList = ([95] : List UInt8) then (some true) else (if a0.toList = ([48] : List UInt8) then (some true) else (if a0.toList = ([94] : List UInt8) then (some true) else (if a0.toList = ([36] : List UInt8) then (some true) else (if a0.toList = ([124] : List UInt8) then (some true) else (if a0.toList = ([71] : List UInt8) then (some true) else (if a0.toList = ([103, 103] : List UInt8) then (some true) else (if a0.toList = ([32] : List UInt8) then (some true) else (if a0.toList = ([8] : List UInt8) then (some true) else (if a0.toList = ([13] : List UInt8) then (some true) else (some false))))))))))))))))
set_option maxHeartbeats 8000000 in
set_option maxRecDepth 100000 in
theorem quoinref07_known.calls (a0 : ByteArray) (r : Bool) (w : World) (h : quoinref07_known.f a0 = some r) :
  Calls Try.prog 20 #[.string a0] w fun e w' => e = .returned (.bool r) ∧ Drawn0 w w' := by
 have H : (if a0.toList = ([104] : List UInt8) then (some true) else (if a0.toList = ([108] : List UInt8) then (some true) else (if a0.toList = ([106] : List UInt8) then (some true) else (if a0.toList = ([107] : List UInt8) then (some true) else (if a0.toList = ([43] : List UInt8) then (some true) else (if a0.toList = ([45] : List UInt8) then (some true) else (if a0.toList = ([95] : List UInt8) then (some true) else (if a0.toList = ([48] : List UInt8) then (some true) else (if a0.toList = ([94] : List UInt8) then (some true) else (if a0.toList = ([36] : List UInt8) then (some true) else (if a0.toList = ([124] : List UInt8) then (some true) else (if a0.toList = ([71] : List UInt8) then (some true) else (if a0.toList = ([103, 103] : List UInt8) then (some true) else (if a0.toList = ([32] : List UInt8) then (some true) else (if a0.toList = ([8] : List UInt8) then (some true) else (if a0.toList = ([13] : List UInt8) then (some true) else (some false))))))))))))))))) = some r := h
 clear h
 by_cases c2 : a0.toList = ([104] : List UInt8)
 ·rw [if_pos c2] at H
  have c2b0 : (a0.toList == ([104] : List UInt8)) = true := beq_iff_eq.mpr c2
  have c2b1 : (a0.toList != ([104] : List UInt8)) = false := bne_eq_false_iff_eq.mpr c2
  clear c2
  obtain rfl := Option.some.inj H
  go_enter Try.func20, Try.ntmps20
  go_wp2
  go_ret
  exact ⟨by first | rfl | (simp; done) | (simp [*]; done), by repeat (first | exact Drawn0.refl _ | apply Drawn0.step)⟩
 ·rw [if_neg c2] at H
  have c2b0 : (a0.toList == ([104] : List UInt8)) = false := beq_eq_false_iff_ne.mpr c2
  have c2b1 : (a0.toList != ([104] : List UInt8)) = true := bne_iff_ne.mpr c2
  by_cases c3 : a0.toList = ([108] : List UInt8)
  ·rw [if_pos c3] at H
   have c3b0 : (a0.toList == ([108] : List UInt8)) = true := beq_iff_eq.mpr c3
   have c3b1 : (a0.toList != ([108] : List UInt8)) = false := bne_eq_false_iff_eq.mpr c3
   clear c3
   obtain rfl := Option.some.inj H
   go_enter Try.func20, Try.ntmps20
   go_wp2
   go_ret
   exact ⟨by first | rfl | (simp; done) | (simp [*]; done), by repeat (first | exact Drawn0.refl _ | apply Drawn0.step)⟩
  ·rw [if_neg c3] at H
   have c3b0 : (a0.toList == ([108] : List UInt8)) = false := beq_eq_false_iff_ne.mpr c3
   have c3b1 : (a0.toList != ([108] : List UInt8)) = true := bne_iff_ne.mpr c3
   by_cases c4 : a0.toList = ([106] : List UInt8)
   ·rw [if_pos c4] at H
    have c4b0 : (a0.toList == ([106] : List UInt8)) = true := beq_iff_eq.mpr c4
    have c4b1 : (a0.toList != ([106] : List UInt8)) = false := bne_eq_false_iff_eq.mpr c4
    clear c4
    obtain rfl := Option.some.inj H
    go_enter Try.func20, Try.ntmps20
    go_wp2
    go_ret
    exact ⟨by first | rfl | (simp; done) | (simp [*]; done), by repeat (first | exact Drawn0.refl _ | apply Drawn0.step)⟩
   ·rw [if_neg c4] at H
    have c4b0 : (a0.toList == ([106] : List UInt8)) = false := beq_eq_false_iff_ne.mpr c4
    have c4b1 : (a0.toList != ([106] : List UInt8)) = true := bne_iff_ne.mpr c4
    by_cases c5 : a0.toList = ([107] : List UInt8)
    ·rw [if_pos c5] at H
     have c5b0 : (a0.toList == ([107] : List UInt8)) = true := beq_iff_eq.mpr c5
     have c5b1 : (a0.toList != ([107] : List UInt8)) = false := bne_eq_false_iff_eq.mpr c5
     clear c5
     obtain rfl := Option.some.inj H
     go_enter Try.func20, Try.ntmps20
     go_wp2
     go_ret
     exact ⟨by first | rfl | (simp; done) | (simp [*]; done), by repeat (first | exact Drawn0.refl _ | apply Drawn0.step)⟩
    ·rw [if_neg c5] at H
     have c5b0 : (a0.toList == ([107] : List UInt8)) = false := beq_eq_false_iff_ne.mpr c5
     have c5b1 : (a0.toList != ([107] : List UInt8)) = true := bne_iff_ne.mpr c5
     by_cases c6 : a0.toList = ([43] : List UInt8)
     ·rw [if_pos c6] at H
      have c6b0 : (a0.toList == ([43] : List UInt8)) = true := beq_iff_eq.mpr c6
      have c6b1 : (a0.toList != ([43] : List UInt8)) = false := bne_eq_false_iff_eq.mpr c6
      clear c6
      obtain rfl := Option.some.inj H
      go_enter Try.func20, Try.ntmps20
      go_wp2
      go_ret
      exact ⟨by first | rfl | (simp; done) | (simp [*]; done), by repeat (first | exact Drawn0.refl _ | apply Drawn0.step)⟩
     ·rw [if_neg c6] at H
      have c6b0 : (a0.toList == ([43] : List UInt8)) = false := beq_eq_false_iff_ne.mpr c6
      have c6b1 : (a0.toList != ([43] : List UInt8)) = true := bne_iff_ne.mpr c6
      by_cases c7 : a0.toList = ([45] : List UInt8)
      ·rw [if_pos c7] at H
       have c7b0 : (a0.toList == ([45] : List UInt8)) = true := beq_iff_eq.mpr c7
       have c7b1 : (a0.toList != ([45] : List UInt8)) = false := bne_eq_false_iff_eq.mpr c7
       clear c7
       obtain rfl := Option.some.inj H
       go_enter Try.func20, Try.ntmps20
       go_wp2
       go_ret
       exact ⟨by first | rfl | (simp; done) | (simp [*]; done), by repeat (first | exact Drawn0.refl _ | apply Drawn0.step)⟩
      ·rw [if_neg c7] at H
       have c7b0 : (a0.toList == ([45] : List UInt8)) = false := beq_eq_false_iff_ne.mpr c7
       have c7b1 : (a0.toList != ([45] : List UInt8)) = true := bne_iff_ne.mpr c7
       by_cases c8 : a0.toList = ([95] : List UInt8)
       ·rw [if_pos c8] at H
        have c8b0 : (a0.toList == ([95] : List UInt8)) = true := beq_iff_eq.mpr c8
        have c8b1 : (a0.toList != ([95] : List UInt8)) = false := bne_eq_false_iff_eq.mpr c8
        clear c8
        obtain rfl := Option.some.inj H
        go_enter Try.func20, Try.ntmps20
        go_wp2
        go_ret
        exact ⟨by first | rfl | (simp; done) | (simp [*]; done), by repeat (first | exact Drawn0.refl _ | apply Drawn0.step)⟩
       ·rw [if_neg c8] at H
        have c8b0 : (a0.toList == ([95] : List UInt8)) = false := beq_eq_false_iff_ne.mpr c8
        have c8b1 : (a0.toList != ([95] : List UInt8)) = true := bne_iff_ne.mpr c8
        by_cases c9 : a0.toList = ([48] : List UInt8)
        ·rw [if_pos c9] at H
         have c9b0 : (a0.toList == ([48] : List UInt8)) = true := beq_iff_eq.mpr c9
         have c9b1 : (a0.toList != ([48] : List UInt8)) = false := bne_eq_false_iff_eq.mpr c9
         clear c9
         obtain rfl := Option.some.inj H
         go_enter Try.func20, Try.ntmps20
         go_wp2
         go_ret
         exact ⟨by first | rfl | (simp; done) | (simp [*]; done), by repeat (first | exact Drawn0.refl _ | apply Drawn0.step)⟩
        ·rw [if_neg c9] at H
         have c9b0 : (a0.toList == ([48] : List UInt8)) = false := beq_eq_false_iff_ne.mpr c9
         have c9b1 : (a0.toList != ([48] : List UInt8)) = true := bne_iff_ne.mpr c9
         by_cases c10 : a0.toList = ([94] : List UInt8)
         ·rw [if_pos c10] at H
          have c10b0 : (a0.toList == ([94] : List UInt8)) = true := beq_iff_eq.mpr c10
          have c10b1 : (a0.toList != ([94] : List UInt8)) = false := bne_eq_false_iff_eq.mpr c10
          clear c10
          obtain rfl := Option.some.inj H
          go_enter Try.func20, Try.ntmps20
          go_wp2
          go_ret
          exact ⟨by first | rfl | (simp; done) | (simp [*]; done), by repeat (first | exact Drawn0.refl _ | apply Drawn0.step)⟩
         ·rw [if_neg c10] at H
          have c10b0 : (a0.toList == ([94] : List UInt8)) = false := beq_eq_false_iff_ne.mpr c10
          have c10b1 : (a0.toList != ([94] : List UInt8)) = true := bne_iff_ne.mpr c10
          by_cases c11 : a0.toList = ([36] : List UInt8)
          ·rw [if_pos c11] at H
           have c11b0 : (a0.toList == ([36] : List UInt8)) = true := beq_iff_eq.mpr c11
           have c11b1 : (a0.toList != ([36] : List UInt8)) = false := bne_eq_false_iff_eq.mpr c11
           clear c11
           obtain rfl := Option.some.inj H
           go_enter Try.func20, Try.ntmps20
           go_wp2
           go_ret
           exact ⟨by first | rfl | (simp; done) | (simp [*]; done), by repeat (first | exact Drawn0.refl _ | apply Drawn0.step)⟩
          ·rw [if_neg c11] at H
           have c11b0 : (a0.toList == ([36] : List UInt8)) = false := beq_eq_false_iff_ne.mpr c11
           have c11b1 : (a0.toList != ([36] : List UInt8)) = true := bne_iff_ne.mpr c11
           by_cases c12 : a0.toList = ([124] : List UInt8)
           ·rw [if_pos c12] at H
            have c12b0 : (a0.toList == ([124] : List UInt8)) = true := beq_iff_eq.mpr c12
            have c12b1 : (a0.toList != ([124] : List UInt8)) = false := bne_eq_false_iff_eq.mpr c12
            clear c12
            obtain rfl := Option.some.inj H
            go_enter Try.func20, Try.ntmps20
            go_wp2
            go_ret
            exact ⟨by first | rfl | (simp; done) | (simp [*]; done), by repeat (first | exact Drawn0.refl _ | apply Drawn0.step)⟩
           ·rw [if_neg c12] at H
            have c12b0 : (a0.toList == ([124] : List UInt8)) = false := beq_eq_false_iff_ne.mpr c12
            have c12b1 : (a0.toList != ([124] : List UInt8)) = true := bne_iff_ne.mpr c12
            by_cases c13 : a0.toList = ([71] : List UInt8)
            ·rw [if_pos c13] at H
             have c13b0 : (a0.toList == ([71] : List UInt8)) = true := beq_iff_eq.mpr c13
             have c13b1 : (a0.toList != ([71] : List UInt8)) = false := bne_eq_false_iff_eq.mpr c13
             clear c13
             obtain rfl := Option.some.inj H
             go_enter Try.func20, Try.ntmps20
             go_wp2
             go_ret
             exact ⟨by first | rfl | (simp; done) | (simp [*]; done), by repeat (first | exact Drawn0.refl _ | apply Drawn0.step)⟩
            ·rw [if_neg c13] at H
             have c13b0 : (a0.toList == ([71] : List UInt8)) = false := beq_eq_false_iff_ne.mpr c13
             have c13b1 : (a0.toList != ([71] : List UInt8)) = true := bne_iff_ne.mpr c13
             by_cases c14 : a0.toList = ([103, 103] : List UInt8)
             ·rw [if_pos c14] at H
              have c14b0 : (a0.toList == ([103, 103] : List UInt8)) = true := beq_iff_eq.mpr c14
              have c14b1 : (a0.toList != ([103, 103] : List UInt8)) = false := bne_eq_false_iff_eq.mpr c14
              clear c14
              obtain rfl := Option.some.inj H
              go_enter Try.func20, Try.ntmps20
              go_wp2
              go_ret
              exact ⟨by first | rfl | (simp; done) | (simp [*]; done), by repeat (first | exact Drawn0.refl _ | apply Drawn0.step)⟩
             ·rw [if_neg c14] at H
              have c14b0 : (a0.toList == ([103, 103] : List UInt8)) = false := beq_eq_false_iff_ne.mpr c14
              have c14b1 : (a0.toList != ([103, 103] : List UInt8)) = true := bne_iff_ne.mpr c14
              by_cases c15 : a0.toList = ([32] : List UInt8)
              ·rw [if_pos c15] at H
               have c15b0 : (a0.toList == ([32] : List UInt8)) = true := beq_iff_eq.mpr c15
               have c15b1 : (a0.toList != ([32] : List UInt8)) = false := bne_eq_false_iff_eq.mpr c15
               clear c15
               obtain rfl := Option.some.inj H
               go_enter Try.func20, Try.ntmps20
               go_wp2
               go_ret
               exact ⟨by first | rfl | (simp; done) | (simp [*]; done), by repeat (first | exact Drawn0.refl _ | apply Drawn0.step)⟩
              ·rw [if_neg c15] at H
               have c15b0 : (a0.toList == ([32] : List UInt8)) = false := beq_eq_false_iff_ne.mpr c15
               have c15b1 : (a0.toList != ([32] : List UInt8)) = true := bne_iff_ne.mpr c15
               by_cases c16 : a0.toList = ([8] : List UInt8)
               ·rw [if_pos c16] at H
                have c16b0 : (a0.toList == ([8] : List UInt8)) = true := beq_iff_eq.mpr c16
                have c16b1 : (a0.toList != ([8] : List UInt8)) = false := bne_eq_false_iff_eq.mpr c16
                clear c16
                obtain rfl := Option.some.inj H
                go_enter Try.func20, Try.ntmps20
                go_wp2
                go_ret
                exact ⟨by first | rfl | (simp; done) | (simp [*]; done), by repeat (first | exact Drawn0.refl _ | apply Drawn0.step)⟩
               ·rw [if_neg c16] at H
                have c16b0 : (a0.toList == ([8] : List UInt8)) = false := beq_eq_false_iff_ne.mpr c16
                have c16b1 : (a0.toList != ([8] : List UInt8)) = true := bne_iff_ne.mpr c16
                by_cases c17 : a0.toList = ([13] : List UInt8)
                ·rw [if_pos c17] at H
                 have c17b0 : (a0.toList == ([13] : List UInt8)) = true := beq_iff_eq.mpr c17
                 have c17b1 : (a0.toList != ([13] : List UInt8)) = false := bne_eq_false_iff_eq.mpr c17
                 clear c17
                 obtain rfl := Option.some.inj H
                 go_enter Try.func20, Try.ntmps20
                 go_wp2
                 go_ret
                 exact ⟨by first | rfl | (simp; done) | (simp [*]; done), by repeat (first | exact Drawn0.refl _ | apply Drawn0.step)⟩
                ·rw [if_neg c17] at H
                 have c17b0 : (a0.toList == ([13] : List UInt8)) = false := beq_eq_false_iff_ne.mpr c17
                 have c17b1 : (a0.toList != ([13] : List UInt8)) = true := bne_iff_ne.mpr c17
                 obtain rfl := Option.some.inj H
                 go_enter Try.func20, Try.ntmps20
                 go_wp2
                 go_ret
                 exact ⟨by first | rfl | (simp; done) | (simp [*]; done), by repeat (first | exact Drawn0.refl _ | apply Drawn0.step)⟩

end Go.Proofs.Ytofkcdnkbjpmmaa.X
