/-
  Texts of one proof in one file (wip/some.py): X19, X20, X21, X22, X23, RT5, RT6, RT7, RT8.
  Conditions: none.
-/
import Derived.Test.YtlbijhlbllolhaaX0
import Derived.Test.YtlbijhlbllolhaaRT4
import Derived.Test.YtlbijhlbllolhaaXO
import Derived.Test.YtlbijhlbllolhaaRT3
section
-- Written by wip/xprint.py over the kit's print.py: the Lean function of each Go function, and the proof that the Go text comes to it.
namespace Go.Proofs.Ytlbijhlbllolhaa.X
open Go.RowKit Go.Proofs.YtlbijhlbllolhaaW.PrintWords Go.Proofs.YtlbijhlbllolhaaW.PrintLast Go.Proofs.YtlbijhlbllolhaaW.PrintMore
attribute [local go_sem] max2_int min2_int max_two min_two max_three min_three max_four min_four   -- for this text's walks alone
set_option linter.unusedVariables false
set_option linter.unusedSimpArgs false

/-! ### quoinref11_least: function 35 -/
def quoinref11_least.f (a0 : Int) (a1 : Int) : Option (Int) := if a0 < 0 then (some a1) else (if a1 ≥ 0 then (if a1 < a0 then (some a1) else (some a0)) else (some a0))
set_option maxHeartbeats 8000000 in
set_option maxRecDepth 100000 in
theorem quoinref11_least.calls (a0 : Int) (a1 : Int) (r : Int) (w : World) (h : quoinref11_least.f a0 a1 = some r) :
    Calls Try.prog 35 #[.int .i64 a0, .int .i64 a1] w fun e w' => e = .returned (.int .i64 r) ∧ Drawn0 w w' := by
  have H : (if a0 < 0 then (some a1) else (if a1 ≥ 0 then (if a1 < a0 then (some a1) else (some a0)) else (some a0))) = some r := h
  clear h
  by_cases c3 : a0 < 0
  · rw [if_pos c3] at H
    have c3b0 : decide (a0 < 0) = true := decide_eq_true c3
    clear c3
    obtain rfl := Option.some.inj H
    go_enter Try.func35, Try.ntmps35
    go_wp2
    go_ret
    exact ⟨by first | rfl | (simp; done) | (simp [*]; done), by repeat (first | exact Drawn0.refl _ | apply Drawn0.step)⟩
  · rw [if_neg c3] at H
    have c3b0 : decide (a0 < 0) = false := decide_eq_false c3
    clear c3
    by_cases c4 : a1 ≥ 0
    · rw [if_pos c4] at H
      have c4b0 : decide (0 ≤ a1) = true := decide_eq_true c4
      clear c4
      by_cases c5 : a1 < a0
      · rw [if_pos c5] at H
        have c5b0 : decide (a1 < a0) = true := decide_eq_true c5
        clear c5
        obtain rfl := Option.some.inj H
        go_enter Try.func35, Try.ntmps35
        go_wp2
        go_ret
        exact ⟨by first | rfl | (simp; done) | (simp [*]; done), by repeat (first | exact Drawn0.refl _ | apply Drawn0.step)⟩
      · rw [if_neg c5] at H
        have c5b0 : decide (a1 < a0) = false := decide_eq_false c5
        clear c5
        obtain rfl := Option.some.inj H
        go_enter Try.func35, Try.ntmps35
        go_wp2
        go_ret
        exact ⟨by first | rfl | (simp; done) | (simp [*]; done), by repeat (first | exact Drawn0.refl _ | apply Drawn0.step)⟩
    · rw [if_neg c4] at H
      have c4b0 : decide (0 ≤ a1) = false := decide_eq_false c4
      clear c4
      obtain rfl := Option.some.inj H
      go_enter Try.func35, Try.ntmps35
      go_wp2
      go_ret
      exact ⟨by first | rfl | (simp; done) | (simp [*]; done), by repeat (first | exact Drawn0.refl _ | apply Drawn0.step)⟩

end Go.Proofs.Ytlbijhlbllolhaa.X
end
section
-- Written by wip/xprint.py over the kit's print.py: the Lean function of each Go function, and the proof that the Go text comes to it.
namespace Go.Proofs.Ytlbijhlbllolhaa.X
open Go.RowKit Go.Proofs.YtlbijhlbllolhaaW.PrintWords Go.Proofs.YtlbijhlbllolhaaW.PrintLast Go.Proofs.YtlbijhlbllolhaaW.PrintMore
attribute [local go_sem] max2_int min2_int max_two min_two max_three min_three max_four min_four   -- for this text's walks alone
set_option linter.unusedVariables false
set_option linter.unusedSimpArgs false

/-! ### quoinref06_small: function 42 -/
def quoinref06_small.f (a0 : Int) : Option (Bool) := if a0 ≥ 97 then (some (decide (a0 ≤ 122))) else (some false)
set_option maxHeartbeats 8000000 in
set_option maxRecDepth 100000 in
theorem quoinref06_small.calls (a0 : Int) (r : Bool) (w : World) (h : quoinref06_small.f a0 = some r) :
    Calls Try.prog 42 #[.int .u8 a0] w fun e w' => e = .returned (.bool r) ∧ Drawn0 w w' := by
  have H : (if a0 ≥ 97 then (some (decide (a0 ≤ 122))) else (some false)) = some r := h
  clear h
  by_cases c2 : a0 ≥ 97
  · rw [if_pos c2] at H
    have c2b0 : decide (97 ≤ a0) = true := decide_eq_true c2
    clear c2
    obtain rfl := Option.some.inj H
    go_enter Try.func42, Try.ntmps42
    go_wp2
    go_ret
    exact ⟨by first | rfl | (simp; done) | (simp [*]; done), by repeat (first | exact Drawn0.refl _ | apply Drawn0.step)⟩
  · rw [if_neg c2] at H
    have c2b0 : decide (97 ≤ a0) = false := decide_eq_false c2
    clear c2
    obtain rfl := Option.some.inj H
    go_enter Try.func42, Try.ntmps42
    go_wp2
    go_ret
    exact ⟨by first | rfl | (simp; done) | (simp [*]; done), by repeat (first | exact Drawn0.refl _ | apply Drawn0.step)⟩

end Go.Proofs.Ytlbijhlbllolhaa.X
end
section
-- Written by wip/xprint.py over the kit's print.py: the Lean function of each Go function, and the proof that the Go text comes to it.
namespace Go.Proofs.Ytlbijhlbllolhaa.X
open Go.RowKit Go.Proofs.YtlbijhlbllolhaaW.PrintWords Go.Proofs.YtlbijhlbllolhaaW.PrintLast Go.Proofs.YtlbijhlbllolhaaW.PrintMore
attribute [local go_sem] max2_int min2_int max_two min_two max_three min_three max_four min_four   -- for this text's walks alone
set_option linter.unusedVariables false
set_option linter.unusedSimpArgs false

/-! ### quoinref06_great: function 43 -/
def quoinref06_great.f (a0 : Int) : Option (Bool) := if a0 ≥ 65 then (some (decide (a0 ≤ 90))) else (some false)
set_option maxHeartbeats 8000000 in
set_option maxRecDepth 100000 in
theorem quoinref06_great.calls (a0 : Int) (r : Bool) (w : World) (h : quoinref06_great.f a0 = some r) :
    Calls Try.prog 43 #[.int .u8 a0] w fun e w' => e = .returned (.bool r) ∧ Drawn0 w w' := by
  have H : (if a0 ≥ 65 then (some (decide (a0 ≤ 90))) else (some false)) = some r := h
  clear h
  by_cases c2 : a0 ≥ 65
  · rw [if_pos c2] at H
    have c2b0 : decide (65 ≤ a0) = true := decide_eq_true c2
    clear c2
    obtain rfl := Option.some.inj H
    go_enter Try.func43, Try.ntmps43
    go_wp2
    go_ret
    exact ⟨by first | rfl | (simp; done) | (simp [*]; done), by repeat (first | exact Drawn0.refl _ | apply Drawn0.step)⟩
  · rw [if_neg c2] at H
    have c2b0 : decide (65 ≤ a0) = false := decide_eq_false c2
    clear c2
    obtain rfl := Option.some.inj H
    go_enter Try.func43, Try.ntmps43
    go_wp2
    go_ret
    exact ⟨by first | rfl | (simp; done) | (simp [*]; done), by repeat (first | exact Drawn0.refl _ | apply Drawn0.step)⟩

end Go.Proofs.Ytlbijhlbllolhaa.X
end
section
-- Written by wip/xprint.py over the kit's print.py: the Lean function of each Go function, and the proof that the Go text comes to it.
namespace Go.Proofs.Ytlbijhlbllolhaa.X
open Go.RowKit Go.Proofs.YtlbijhlbllolhaaW.PrintWords Go.Proofs.YtlbijhlbllolhaaW.PrintLast Go.Proofs.YtlbijhlbllolhaaW.PrintMore
attribute [local go_sem] max2_int min2_int max_two min_two max_three min_three max_four min_four   -- for this text's walks alone
set_option linter.unusedVariables false
set_option linter.unusedSimpArgs false

/-! ### quoinref06_Of: function 41 -/
def quoinref06_Of.j0 : Nat → Int → Bool → Bool → Option (Int)
  | 0, _, _, _ => none
  | k + 1, x0, x1, x12 => if x12 = true then (some 0) else ((quoinref06_small.f x0).bind fun t105 => (if t105 = true then (some 2) else ((quoinref06_great.f x0).bind fun t106 => (if t106 = true then (some 2) else (if x0 ≥ 48 then (if x0 ≤ 57 then (some 2) else (if x0 = 95 then (some 2) else (if x0 ≥ 128 then (some 2) else (if x1 = true then (some 2) else (some 1))))) else (if x0 = 95 then (some 2) else (if x0 ≥ 128 then (some 2) else (if x1 = true then (some 2) else (some 1)))))))))
def quoinref06_Of.f (k : Nat) (a0 : Int) (a1 : Bool) : Option (Int) := if a0 = 10 then (some 3) else (if a0 = 32 then (quoinref06_Of.j0 k a0 a1 true) else (quoinref06_Of.j0 k a0 a1 (a0 == 9)))
theorem quoinref06_Of.mono_l : ∀ k, (∀ y0 y1 y2, LeO (quoinref06_Of.j0 k y0 y1 y2) (quoinref06_Of.j0 (k + 1) y0 y1 y2))
  | 0 => fun _ _ _ r h => by simp [quoinref06_Of.j0] at h
  | k + 1 => by
    have ih0 := quoinref06_Of.mono_l k
    · intro y0 y1 y2
      unfold quoinref06_Of.j0
      repeat' first
      | (with_reducible exact ih0 _ _ _)
      | (with_reducible exact LeO.refl _)
      | (with_reducible exact LeO.none _)
      | (with_reducible refine LeO.ite ?_ ?_)
      | (with_reducible refine LeO.bind ?_ (fun _ => ?_))
      | exact ih0 _ _ _
      | exact LeO.none _
      | refine LeO.ite ?_ ?_
      | refine LeO.bind ?_ (fun _ => ?_)
theorem quoinref06_Of.mono : ∀ a0 a1 k, LeO (quoinref06_Of.f k a0 a1) (quoinref06_Of.f (k + 1) a0 a1) := by
  intro a0 a1 k
  have ih0 := quoinref06_Of.mono_l k
  unfold quoinref06_Of.f
  repeat' first
      | (with_reducible exact ih0 _ _ _)
      | (with_reducible exact LeO.refl _)
      | (with_reducible exact LeO.none _)
      | (with_reducible refine LeO.ite ?_ ?_)
      | (with_reducible refine LeO.bind ?_ (fun _ => ?_))
      | exact ih0 _ _ _
      | exact LeO.none _
      | refine LeO.ite ?_ ?_
      | refine LeO.bind ?_ (fun _ => ?_)
set_option maxHeartbeats 8000000 in
set_option maxRecDepth 100000 in
theorem quoinref06_Of.calls (k : Nat) (a0 : Int) (a1 : Bool) (r : Int) (w : World) (h : quoinref06_Of.f k a0 a1 = some r) :
    Calls Try.prog 41 #[.int .u8 a0, .bool a1] w fun e w' => e = .returned (.int .i64 r) ∧ Drawn0 w w' := by
  have H : (if a0 = 10 then (some 3) else (if a0 = 32 then (quoinref06_Of.j0 k a0 a1 true) else (quoinref06_Of.j0 k a0 a1 (a0 == 9)))) = some r := h
  clear h
  by_cases c3 : a0 = 10
  · rw [if_pos c3] at H
    have c3b0 : (a0 == 10) = true := beq_iff_eq.mpr c3
    have c3b1 : (a0 != 10) = false := bne_eq_false_iff_eq.mpr c3
    clear c3
    obtain rfl := Option.some.inj H
    go_enter Try.func41, Try.ntmps41
    go_wp2
    go_ret
    exact ⟨by first | rfl | (simp; done) | (simp [*]; done), by repeat (first | exact Drawn0.refl _ | apply Drawn0.step)⟩
  · rw [if_neg c3] at H
    have c3b0 : (a0 == 10) = false := beq_eq_false_iff_ne.mpr c3
    have c3b1 : (a0 != 10) = true := bne_iff_ne.mpr c3
    have HC4 := Aside0.mk H
    clear H
    go_enter Try.func41, Try.ntmps41
    go_upto_region 3 with (fail)
    go_cut [12] (fun v12 wc => ∃ (kq : Nat) (x12_3 : Bool), v12 = .bool x12_3 ∧ Aside0 (quoinref06_Of.j0 kq a0 a1 x12_3 = some r) ∧ Aside0 (kq ≤ k) ∧ Drawn0 w wc)
    case first =>
      have H := HC4.out
      clear HC4
      by_cases c5 : a0 = 32
      · rw [if_pos c5] at H
        have c5b0 : (a0 == 32) = true := beq_iff_eq.mpr c5
        have c5b1 : (a0 != 32) = false := bne_eq_false_iff_eq.mpr c5
        clear c5
        (first | rw [c5b0] | (simp only [i64_w, i32_w]; rw [c5b0]) | skip)
        have H' := Aside0.mk H
        clear H
        go_wp2
        go_meet
        case rel => exact ⟨_, (true), (by first | rfl | (simp; done) | (simp [*]; done)), H', ⟨by first | omega | exact Nat.le_refl _⟩, by repeat (first | exact Drawn0.refl _ | apply Drawn0.step)⟩
      · rw [if_neg c5] at H
        have c5b0 : (a0 == 32) = false := beq_eq_false_iff_ne.mpr c5
        have c5b1 : (a0 != 32) = true := bne_iff_ne.mpr c5
        (first | rw [c5b0] | (simp only [i64_w, i32_w]; rw [c5b0]) | skip)
        have H' := Aside0.mk H
        clear H
        go_wp2
        go_meet
        case rel => exact ⟨_, ((a0 == 9)), (by first | rfl | (simp; done) | (simp [*]; done)), H', ⟨by first | omega | exact Nat.le_refl _⟩, by repeat (first | exact Drawn0.refl _ | apply Drawn0.step)⟩
    case rest =>
      clear HC4
      try clear p2
      try clear c3
      try clear c3b0
      try clear c3b1
      try clear c4
      try clear c5
      try clear c5b0
      try clear c5b1
      obtain ⟨kq, x12_3, rfl, HA, HJ3, ⟨mc3, rfl⟩⟩ := hcut
      cases kq with
      | zero => exact absurd HA.out (by simp [quoinref06_Of.j0])
      | succ kj3 =>
        have H := HA.out
        clear HA
        simp only [quoinref06_Of.j0] at H
        by_cases c6 : x12_3 = true
        · subst c6
          have H1 : (some 0) = some r := by rw [if_pos rfl] at H; exact H
          clear H
          have H := H1
          clear H1
          obtain rfl := Option.some.inj H
          go_wp2
          go_ret
          exact ⟨by first | rfl | (simp; done) | (simp [*]; done), by repeat (first | exact Drawn0.refl _ | apply Drawn0.step)⟩
        · replace c6 := Bool.eq_false_iff.mpr c6
          subst c6
          have H1 : ((quoinref06_small.f a0).bind fun t105 => (if t105 = true then (some 2) else ((quoinref06_great.f a0).bind fun t106 => (if t106 = true then (some 2) else (if a0 ≥ 48 then (if a0 ≤ 57 then (some 2) else (if a0 = 95 then (some 2) else (if a0 ≥ 128 then (some 2) else (if a1 = true then (some 2) else (some 1))))) else (if a0 = 95 then (some 2) else (if a0 ≥ 128 then (some 2) else (if a1 = true then (some 2) else (some 1))))))))) = some r := by rw [if_neg (show ¬ (false = true) by decide)] at H; exact H
          clear H
          have H := H1
          clear H1
          replace H := Option.bind_eq_some_iff.mp H
          obtain ⟨t105, A70, H⟩ := H
          replace H : (if t105 = true then (some 2) else ((quoinref06_great.f a0).bind fun t106 => (if t106 = true then (some 2) else (if a0 ≥ 48 then (if a0 ≤ 57 then (some 2) else (if a0 = 95 then (some 2) else (if a0 ≥ 128 then (some 2) else (if a1 = true then (some 2) else (some 1))))) else (if a0 = 95 then (some 2) else (if a0 ≥ 128 then (some 2) else (if a1 = true then (some 2) else (some 1)))))))) = some r := H
          have A7 := Aside0.mk A70
          clear A70
          by_cases c8 : t105 = true
          · subst c8
            have H1 : (some 2) = some r := by rw [if_pos rfl] at H; exact H
            clear H
            have H := H1
            clear H1
            obtain rfl := Option.some.inj H
            go_wp2_with (first | ((with_reducible refine gate_callee (f := 42) rfl ?_); refine goesL_ (some 14) rfl rfl Try.func42 (by kernel_rfl) rfl #[.int .u8 a0] rfl (by (try simp only [List.map_toArray, List.map_cons, List.map_nil]); first | done | rfl | (simp only [List.length_drop, List.length_take]; rfl)) ?_; (with_reducible refine (quoinref06_small.calls a0 true _ A7.out).mono ?_); rintro e w' ⟨rfl, ⟨nd, rfl⟩⟩; refine ⟨_, rfl, ?_⟩))
            go_ret
            exact ⟨by first | rfl | (simp; done) | (simp [*]; done), by repeat (first | exact Drawn0.refl _ | apply Drawn0.step)⟩
          · replace c8 := Bool.eq_false_iff.mpr c8
            subst c8
            have H1 : ((quoinref06_great.f a0).bind fun t106 => (if t106 = true then (some 2) else (if a0 ≥ 48 then (if a0 ≤ 57 then (some 2) else (if a0 = 95 then (some 2) else (if a0 ≥ 128 then (some 2) else (if a1 = true then (some 2) else (some 1))))) else (if a0 = 95 then (some 2) else (if a0 ≥ 128 then (some 2) else (if a1 = true then (some 2) else (some 1))))))) = some r := by rw [if_neg (show ¬ (false = true) by decide)] at H; exact H
            clear H
            have H := H1
            clear H1
            replace H := Option.bind_eq_some_iff.mp H
            obtain ⟨t106, A90, H⟩ := H
            replace H : (if t106 = true then (some 2) else (if a0 ≥ 48 then (if a0 ≤ 57 then (some 2) else (if a0 = 95 then (some 2) else (if a0 ≥ 128 then (some 2) else (if a1 = true then (some 2) else (some 1))))) else (if a0 = 95 then (some 2) else (if a0 ≥ 128 then (some 2) else (if a1 = true then (some 2) else (some 1)))))) = some r := H
            have A9 := Aside0.mk A90
            clear A90
            by_cases c10 : t106 = true
            · subst c10
              have H1 : (some 2) = some r := by rw [if_pos rfl] at H; exact H
              clear H
              have H := H1
              clear H1
              obtain rfl := Option.some.inj H
              go_wp2_with (first | ((with_reducible refine gate_callee (f := 42) rfl ?_); refine goesL_ (some 14) rfl rfl Try.func42 (by kernel_rfl) rfl #[.int .u8 a0] rfl (by (try simp only [List.map_toArray, List.map_cons, List.map_nil]); first | done | rfl | (simp only [List.length_drop, List.length_take]; rfl)) ?_; (with_reducible refine (quoinref06_small.calls a0 false _ A7.out).mono ?_); rintro e w' ⟨rfl, ⟨nd, rfl⟩⟩; refine ⟨_, rfl, ?_⟩) | (go_at_call 43; (with_reducible refine (quoinref06_great.calls a0 true _ A9.out).mono ?_); rintro e w' ⟨rfl, ⟨nd, rfl⟩⟩))
              go_ret
              exact ⟨by first | rfl | (simp; done) | (simp [*]; done), by repeat (first | exact Drawn0.refl _ | apply Drawn0.step)⟩
            · replace c10 := Bool.eq_false_iff.mpr c10
              subst c10
              have H1 : (if a0 ≥ 48 then (if a0 ≤ 57 then (some 2) else (if a0 = 95 then (some 2) else (if a0 ≥ 128 then (some 2) else (if a1 = true then (some 2) else (some 1))))) else (if a0 = 95 then (some 2) else (if a0 ≥ 128 then (some 2) else (if a1 = true then (some 2) else (some 1))))) = some r := by rw [if_neg (show ¬ (false = true) by decide)] at H; exact H
              clear H
              have H := H1
              clear H1
              by_cases c11 : a0 ≥ 48
              · rw [if_pos c11] at H
                have c11b0 : decide (48 ≤ a0) = true := decide_eq_true c11
                clear c11
                by_cases c12 : a0 ≤ 57
                · rw [if_pos c12] at H
                  have c12b0 : decide (a0 ≤ 57) = true := decide_eq_true c12
                  clear c12
                  obtain rfl := Option.some.inj H
                  go_wp2_with (first | ((with_reducible refine gate_callee (f := 42) rfl ?_); refine goesL_ (some 14) rfl rfl Try.func42 (by kernel_rfl) rfl #[.int .u8 a0] rfl (by (try simp only [List.map_toArray, List.map_cons, List.map_nil]); first | done | rfl | (simp only [List.length_drop, List.length_take]; rfl)) ?_; (with_reducible refine (quoinref06_small.calls a0 false _ A7.out).mono ?_); rintro e w' ⟨rfl, ⟨nd, rfl⟩⟩; refine ⟨_, rfl, ?_⟩) | (go_at_call 43; (with_reducible refine (quoinref06_great.calls a0 false _ A9.out).mono ?_); rintro e w' ⟨rfl, ⟨nd, rfl⟩⟩))
                  go_ret
                  exact ⟨by first | rfl | (simp; done) | (simp [*]; done), by repeat (first | exact Drawn0.refl _ | apply Drawn0.step)⟩
                · rw [if_neg c12] at H
                  have c12b0 : decide (a0 ≤ 57) = false := decide_eq_false c12
                  clear c12
                  by_cases c13 : a0 = 95
                  · rw [if_pos c13] at H
                    have c13b0 : (a0 == 95) = true := beq_iff_eq.mpr c13
                    have c13b1 : (a0 != 95) = false := bne_eq_false_iff_eq.mpr c13
                    clear c13
                    obtain rfl := Option.some.inj H
                    go_wp2_with (first | ((with_reducible refine gate_callee (f := 42) rfl ?_); refine goesL_ (some 14) rfl rfl Try.func42 (by kernel_rfl) rfl #[.int .u8 a0] rfl (by (try simp only [List.map_toArray, List.map_cons, List.map_nil]); first | done | rfl | (simp only [List.length_drop, List.length_take]; rfl)) ?_; (with_reducible refine (quoinref06_small.calls a0 false _ A7.out).mono ?_); rintro e w' ⟨rfl, ⟨nd, rfl⟩⟩; refine ⟨_, rfl, ?_⟩) | (go_at_call 43; (with_reducible refine (quoinref06_great.calls a0 false _ A9.out).mono ?_); rintro e w' ⟨rfl, ⟨nd, rfl⟩⟩))
                    go_ret
                    exact ⟨by first | rfl | (simp; done) | (simp [*]; done), by repeat (first | exact Drawn0.refl _ | apply Drawn0.step)⟩
                  · rw [if_neg c13] at H
                    have c13b0 : (a0 == 95) = false := beq_eq_false_iff_ne.mpr c13
                    have c13b1 : (a0 != 95) = true := bne_iff_ne.mpr c13
                    by_cases c14 : a0 ≥ 128
                    · rw [if_pos c14] at H
                      have c14b0 : decide (128 ≤ a0) = true := decide_eq_true c14
                      clear c14
                      obtain rfl := Option.some.inj H
                      go_wp2_with (first | ((with_reducible refine gate_callee (f := 42) rfl ?_); refine goesL_ (some 14) rfl rfl Try.func42 (by kernel_rfl) rfl #[.int .u8 a0] rfl (by (try simp only [List.map_toArray, List.map_cons, List.map_nil]); first | done | rfl | (simp only [List.length_drop, List.length_take]; rfl)) ?_; (with_reducible refine (quoinref06_small.calls a0 false _ A7.out).mono ?_); rintro e w' ⟨rfl, ⟨nd, rfl⟩⟩; refine ⟨_, rfl, ?_⟩) | (go_at_call 43; (with_reducible refine (quoinref06_great.calls a0 false _ A9.out).mono ?_); rintro e w' ⟨rfl, ⟨nd, rfl⟩⟩))
                      go_ret
                      exact ⟨by first | rfl | (simp; done) | (simp [*]; done), by repeat (first | exact Drawn0.refl _ | apply Drawn0.step)⟩
                    · rw [if_neg c14] at H
                      have c14b0 : decide (128 ≤ a0) = false := decide_eq_false c14
                      clear c14
                      by_cases c15 : a1 = true
                      · subst c15
                        have H1 : (some 2) = some r := by rw [if_pos rfl] at H; exact H
                        clear H
                        have H := H1
                        clear H1
                        obtain rfl := Option.some.inj H
                        go_wp2_with (first | ((with_reducible refine gate_callee (f := 42) rfl ?_); refine goesL_ (some 14) rfl rfl Try.func42 (by kernel_rfl) rfl #[.int .u8 a0] rfl (by (try simp only [List.map_toArray, List.map_cons, List.map_nil]); first | done | rfl | (simp only [List.length_drop, List.length_take]; rfl)) ?_; (with_reducible refine (quoinref06_small.calls a0 false _ A7.out).mono ?_); rintro e w' ⟨rfl, ⟨nd, rfl⟩⟩; refine ⟨_, rfl, ?_⟩) | (go_at_call 43; (with_reducible refine (quoinref06_great.calls a0 false _ A9.out).mono ?_); rintro e w' ⟨rfl, ⟨nd, rfl⟩⟩))
                        go_ret
                        exact ⟨by first | rfl | (simp; done) | (simp [*]; done), by repeat (first | exact Drawn0.refl _ | apply Drawn0.step)⟩
                      · replace c15 := Bool.eq_false_iff.mpr c15
                        subst c15
                        have H1 : (some 1) = some r := by rw [if_neg (show ¬ (false = true) by decide)] at H; exact H
                        clear H
                        have H := H1
                        clear H1
                        obtain rfl := Option.some.inj H
                        go_wp2_with (first | ((with_reducible refine gate_callee (f := 42) rfl ?_); refine goesL_ (some 14) rfl rfl Try.func42 (by kernel_rfl) rfl #[.int .u8 a0] rfl (by (try simp only [List.map_toArray, List.map_cons, List.map_nil]); first | done | rfl | (simp only [List.length_drop, List.length_take]; rfl)) ?_; (with_reducible refine (quoinref06_small.calls a0 false _ A7.out).mono ?_); rintro e w' ⟨rfl, ⟨nd, rfl⟩⟩; refine ⟨_, rfl, ?_⟩) | (go_at_call 43; (with_reducible refine (quoinref06_great.calls a0 false _ A9.out).mono ?_); rintro e w' ⟨rfl, ⟨nd, rfl⟩⟩))
                        go_ret
                        exact ⟨by first | rfl | (simp; done) | (simp [*]; done), by repeat (first | exact Drawn0.refl _ | apply Drawn0.step)⟩
              · rw [if_neg c11] at H
                have c11b0 : decide (48 ≤ a0) = false := decide_eq_false c11
                clear c11
                by_cases c16 : a0 = 95
                · rw [if_pos c16] at H
                  have c16b0 : (a0 == 95) = true := beq_iff_eq.mpr c16
                  have c16b1 : (a0 != 95) = false := bne_eq_false_iff_eq.mpr c16
                  clear c16
                  obtain rfl := Option.some.inj H
                  go_wp2_with (first | ((with_reducible refine gate_callee (f := 42) rfl ?_); refine goesL_ (some 14) rfl rfl Try.func42 (by kernel_rfl) rfl #[.int .u8 a0] rfl (by (try simp only [List.map_toArray, List.map_cons, List.map_nil]); first | done | rfl | (simp only [List.length_drop, List.length_take]; rfl)) ?_; (with_reducible refine (quoinref06_small.calls a0 false _ A7.out).mono ?_); rintro e w' ⟨rfl, ⟨nd, rfl⟩⟩; refine ⟨_, rfl, ?_⟩) | (go_at_call 43; (with_reducible refine (quoinref06_great.calls a0 false _ A9.out).mono ?_); rintro e w' ⟨rfl, ⟨nd, rfl⟩⟩))
                  go_ret
                  exact ⟨by first | rfl | (simp; done) | (simp [*]; done), by repeat (first | exact Drawn0.refl _ | apply Drawn0.step)⟩
                · rw [if_neg c16] at H
                  have c16b0 : (a0 == 95) = false := beq_eq_false_iff_ne.mpr c16
                  have c16b1 : (a0 != 95) = true := bne_iff_ne.mpr c16
                  by_cases c17 : a0 ≥ 128
                  · rw [if_pos c17] at H
                    have c17b0 : decide (128 ≤ a0) = true := decide_eq_true c17
                    clear c17
                    obtain rfl := Option.some.inj H
                    go_wp2_with (first | ((with_reducible refine gate_callee (f := 42) rfl ?_); refine goesL_ (some 14) rfl rfl Try.func42 (by kernel_rfl) rfl #[.int .u8 a0] rfl (by (try simp only [List.map_toArray, List.map_cons, List.map_nil]); first | done | rfl | (simp only [List.length_drop, List.length_take]; rfl)) ?_; (with_reducible refine (quoinref06_small.calls a0 false _ A7.out).mono ?_); rintro e w' ⟨rfl, ⟨nd, rfl⟩⟩; refine ⟨_, rfl, ?_⟩) | (go_at_call 43; (with_reducible refine (quoinref06_great.calls a0 false _ A9.out).mono ?_); rintro e w' ⟨rfl, ⟨nd, rfl⟩⟩))
                    go_ret
                    exact ⟨by first | rfl | (simp; done) | (simp [*]; done), by repeat (first | exact Drawn0.refl _ | apply Drawn0.step)⟩
                  · rw [if_neg c17] at H
                    have c17b0 : decide (128 ≤ a0) = false := decide_eq_false c17
                    clear c17
                    by_cases c18 : a1 = true
                    · subst c18
                      have H1 : (some 2) = some r := by rw [if_pos rfl] at H; exact H
                      clear H
                      have H := H1
                      clear H1
                      obtain rfl := Option.some.inj H
                      go_wp2_with (first | ((with_reducible refine gate_callee (f := 42) rfl ?_); refine goesL_ (some 14) rfl rfl Try.func42 (by kernel_rfl) rfl #[.int .u8 a0] rfl (by (try simp only [List.map_toArray, List.map_cons, List.map_nil]); first | done | rfl | (simp only [List.length_drop, List.length_take]; rfl)) ?_; (with_reducible refine (quoinref06_small.calls a0 false _ A7.out).mono ?_); rintro e w' ⟨rfl, ⟨nd, rfl⟩⟩; refine ⟨_, rfl, ?_⟩) | (go_at_call 43; (with_reducible refine (quoinref06_great.calls a0 false _ A9.out).mono ?_); rintro e w' ⟨rfl, ⟨nd, rfl⟩⟩))
                      go_ret
                      exact ⟨by first | rfl | (simp; done) | (simp [*]; done), by repeat (first | exact Drawn0.refl _ | apply Drawn0.step)⟩
                    · replace c18 := Bool.eq_false_iff.mpr c18
                      subst c18
                      have H1 : (some 1) = some r := by rw [if_neg (show ¬ (false = true) by decide)] at H; exact H
                      clear H
                      have H := H1
                      clear H1
                      obtain rfl := Option.some.inj H
                      go_wp2_with (first | ((with_reducible refine gate_callee (f := 42) rfl ?_); refine goesL_ (some 14) rfl rfl Try.func42 (by kernel_rfl) rfl #[.int .u8 a0] rfl (by (try simp only [List.map_toArray, List.map_cons, List.map_nil]); first | done | rfl | (simp only [List.length_drop, List.length_take]; rfl)) ?_; (with_reducible refine (quoinref06_small.calls a0 false _ A7.out).mono ?_); rintro e w' ⟨rfl, ⟨nd, rfl⟩⟩; refine ⟨_, rfl, ?_⟩) | (go_at_call 43; (with_reducible refine (quoinref06_great.calls a0 false _ A9.out).mono ?_); rintro e w' ⟨rfl, ⟨nd, rfl⟩⟩))
                      go_ret
                      exact ⟨by first | rfl | (simp; done) | (simp [*]; done), by repeat (first | exact Drawn0.refl _ | apply Drawn0.step)⟩

end Go.Proofs.Ytlbijhlbllolhaa.X
end
section
-- Written by wip/xprint.py over the kit's print.py: the Lean function of each Go function, and the proof that the Go text comes to it.
namespace Go.Proofs.Ytlbijhlbllolhaa.X
open Go.RowKit Go.Proofs.YtlbijhlbllolhaaW.PrintWords Go.Proofs.YtlbijhlbllolhaaW.PrintLast Go.Proofs.YtlbijhlbllolhaaW.PrintMore
attribute [local go_sem] max2_int min2_int max_two min_two max_three min_three max_four min_four   -- for this text's walks alone
set_option linter.unusedVariables false
set_option linter.unusedSimpArgs false

/-! ### quoinref11_word: function 38 -/
def quoinref11_word.f (k : Nat) (l0 : List Int) (a1 : Int) : Option (Bool) := if a1 ≥ 0 then (if a1 < (l0.length : Int) then (if 0 ≤ a1 then ((quoinref06_Of.f k (rd l0 a1) false).bind fun t108 => (some (t108 == 2))) else (none)) else (some false)) else (some false)
theorem quoinref11_word.mono : ∀ a0 a1 k, LeO (quoinref11_word.f k a0 a1) (quoinref11_word.f (k + 1) a0 a1) := by
  intro a0 a1 k
  unfold quoinref11_word.f
  repeat' first
      | (with_reducible exact quoinref06_Of.mono _ _ _)
      | (with_reducible exact LeO.refl _)
      | (with_reducible exact LeO.none _)
      | (with_reducible refine LeO.ite ?_ ?_)
      | (with_reducible refine LeO.bind ?_ (fun _ => ?_))
      | exact quoinref06_Of.mono _ _ _
      | exact LeO.none _
      | refine LeO.ite ?_ ?_
      | refine LeO.bind ?_ (fun _ => ?_)
set_option maxHeartbeats 8000000 in
set_option maxRecDepth 100000 in
theorem quoinref11_word.calls (k : Nat) (A0 : Option Addr) (c0 : Nat) (l0 : List Int) (a1 : Int) (r : Bool) (w : World) (hr0 : Kd.C (Kd.int .u8) w A0 l0.length l0) (hc0 : l0.length ≤ c0) (h : quoinref11_word.f k l0 a1 = some r) :
    Calls Try.prog 38 #[.slice A0 l0.length c0, .int .i64 a1] w fun e w' => e = .returned (.bool r) ∧ Drawn0 w w' := by
  have HR0 := Aside0.mk hr0
  have HC0 := Aside0.mk hc0
  clear hr0 hc0
  have H : (if a1 ≥ 0 then (if a1 < (l0.length : Int) then (if 0 ≤ a1 then ((quoinref06_Of.f k (rd l0 a1) false).bind fun t108 => (some (t108 == 2))) else (none)) else (some false)) else (some false)) = some r := h
  clear h
  by_cases c3 : a1 ≥ 0
  · rw [if_pos c3] at H
    have c3b0 : decide (0 ≤ a1) = true := decide_eq_true c3
    clear c3
    by_cases c4 : a1 < (l0.length : Int)
    · rw [if_pos c4] at H
      have c4b0 : decide (a1 < (l0.length : Int)) = true := decide_eq_true c4
      clear c4
      by_cases c5 : 0 ≤ a1
      · rw [if_pos c5] at H
        have c5b0 : decide (0 ≤ a1) = true := decide_eq_true c5
        clear c5
        replace H := Option.bind_eq_some_iff.mp H
        obtain ⟨t108, A60, H⟩ := H
        replace H : (some (t108 == 2)) = some r := H
        have A6 := Aside0.mk A60
        clear A60
        obtain rfl := Option.some.inj H
        have p107 : 0 ≤ (a1 : Int) := of_decide_eq_true (by first | (with_reducible assumption) | assumption)
        have q107 : a1 < (l0.length : Int) := of_decide_eq_true (by first | (with_reducible assumption) | assumption)
        obtain ⟨ad107, e107, hx107_0⟩ := Kd.at_int HR0.out a1 p107 q107
        cases e107
        replace p107 := eq_true p107
        replace q107 := eq_true q107
        go_enter Try.func38, Try.ntmps38
        go_wp2_with (first | (go_at_call 41; (with_reducible refine (quoinref06_Of.calls k (rd l0 a1) false t108 _ A6.out).mono ?_); rintro e w' ⟨rfl, ⟨nd, rfl⟩⟩))
        go_ret
        exact ⟨by first | rfl | (simp; done) | (simp [*]; done), by repeat (first | exact Drawn0.refl _ | apply Drawn0.step)⟩
      · rw [if_neg c5] at H
        exact absurd H (by simp)
    · rw [if_neg c4] at H
      have c4b0 : decide (a1 < (l0.length : Int)) = false := decide_eq_false c4
      clear c4
      obtain rfl := Option.some.inj H
      go_enter Try.func38, Try.ntmps38
      go_wp2
      go_ret
      exact ⟨by first | rfl | (simp; done) | (simp [*]; done), by repeat (first | exact Drawn0.refl _ | apply Drawn0.step)⟩
  · rw [if_neg c3] at H
    have c3b0 : decide (0 ≤ a1) = false := decide_eq_false c3
    clear c3
    obtain rfl := Option.some.inj H
    go_enter Try.func38, Try.ntmps38
    go_wp2
    go_ret
    exact ⟨by first | rfl | (simp; done) | (simp [*]; done), by repeat (first | exact Drawn0.refl _ | apply Drawn0.step)⟩

end Go.Proofs.Ytlbijhlbllolhaa.X
end
section
namespace Go.Proofs.Ytlbijhlbllolhaa.PT
open Go.RowKit Go.Proofs.YtlbijhlbllolhaaW.PrintWords Go.Proofs.YtlbijhlbllolhaaW.PrintMore Go.Proofs.Ytlbijhlbllolhaa.XO
set_option linter.unusedVariables false
theorem compileV_or (p : List Int) : (∃ pl, compileV p = (some pl, 0, 0)) ∨ ∃ a e, compileV p = (none, a, e) ∧ (e = 1 ∨ e = 110) := by
  unfold compileV
  split
  · exact .inr ⟨_, _, rfl, .inl rfl⟩
  · split
    · exact .inr ⟨_, _, rfl, .inr rfl⟩
    · exact .inl ⟨_, rfl⟩
set_option maxHeartbeats 2000000 in
set_option maxRecDepth 100000 in
theorem rcompile_calls {w : World} {A : Option Addr} {c : Nat} {p : List Int} (hr : Kd.C (Kd.int .u8) w A p.length p) (hu : ∀ i, 0 ≤ rd p i ∧ rd p i ≤ 255) :
    Calls Try.prog 10 #[.slice A p.length c] w fun e w' => e = .returned (.tuple #[.int .i64 (compileV p).2.1, .int .i64 (compileV p).2.2]) ∧ Below w.heap.size w w' := by
  have HT := Aside0.mk (rthings_calls (c := c) hr hu)
  clear hr hu
  generalize compileV p = r at HT ⊢
  obtain ⟨r1, r2, r3⟩ := r
  simp only at HT ⊢
  go_enter Try.func10, Try.ntmps10
  go_wp2_with (go_at_call 17; refine HT.out.mono ?_; rintro e w' ⟨v, l, rfl, hx, _, _⟩; have H1 := Aside0.mk hx.1; clear hx)
  exact bodyPost_ret (v := .tuple #[.int .i64 r2, .int .i64 r3]) (by simp [results, Try.results10, go_sem]) rfl ⟨rfl, H1.out⟩
theorem ok_u8 {B : Nat} {l : List Int} (h : okSl B okU8 l) (i : Int) : 0 ≤ rd l i ∧ rd l i ≤ 255 := by
  unfold rd
  rw [List.getD_eq_getElem?_getD]
  cases e : l[i.toNat]? with
  | none => simp
  | some x =>
    have h1 := h.2 x (List.mem_of_getElem? e)
    unfold okU8 at h1
    simp only [Option.getD_some]
    omega
theorem sum_len (l : List Int) : l.length ≤ (l.map szOne).sum := by
  induction l with
  | nil => simp
  | cons x l ih => simp [szOne] at ih ⊢; omega
theorem str_app (xs ys : List Int) : strOfNums (xs ++ ys) = strOfNums xs ++ strOfNums ys := by
  unfold strOfNums
  apply ByteArray.ext
  simp
end Go.Proofs.Ytlbijhlbllolhaa.PT
end
section
namespace Go.Proofs.Ytlbijhlbllolhaa.PT
open Go.RowKit Go.Proofs.YtlbijhlbllolhaaW.PrintWords Go.Proofs.YtlbijhlbllolhaaW.PrintMore
set_option linter.unusedVariables false
def leastV (a b : Int) : Int := if a < 0 then b else if b ≥ 0 then (if b < a then b else a) else a
/-- Does a thing let one pass that takes no byte? -/
def passB (line : List Int) : PTh → Int → Bool
  | .many _, _ => true
  | t, p => fW line t p
/-- The state of the inner loop. -/
structure SS where
  R : List Int
  a : Int
  b : Int
  ok : Bool
  live : Bool
def pass1 (line : List Int) (pl : List PTh) (p : Nat) (i : Nat) (s : SS) : SS :=
  if rd s.R (i : Int) < 0 then s
  else if s.ok = true ∧ rd s.R (i : Int) > s.a then { s with R := s.R.set i (-1) }
  else if i = pl.length then { s with a := rd s.R (i : Int), b := p, ok := true }
  else if passB line (pl.getD i .front) p = true then { s with R := s.R.set (i + 1) (leastV (rd s.R ((i : Int) + 1)) (rd s.R (i : Int))), live := true }
  else { s with live := true }
def passL (line : List Int) (pl : List PTh) (p : Nat) : Nat → Nat → SS → SS
  | 0, _, s => s
  | d + 1, i, s => passL line pl p d (i + 1) (pass1 line pl p i s)
/-- What a thing makes of a byte: where the next is (0: here, 1: behind), or none. -/
def eatB (line : List Int) (p : Nat) : PTh → Option Nat
  | .many S => if S (rd line (p : Int)).toNat = true then some 0 else none
  | .single S => if S (rd line (p : Int)).toNat = true then some 1 else none
  | _ => none
def eat1 (line : List Int) (pl : List PTh) (p : Nat) (R : List Int) (i : Nat) (N : List Int) : List Int :=
  if rd R (i : Int) < 0 then N
  else match eatB line p (pl.getD i .front) with
    | some k => N.set (i + k) (leastV (rd N ((i + k : Nat) : Int)) (rd R (i : Int)))
    | none => N
def eatL (line : List Int) (pl : List PTh) (p : Nat) (R : List Int) : Nat → Nat → List Int → List Int
  | 0, _, N => N
  | d + 1, i, N => eatL line pl p R d (i + 1) (eat1 line pl p R i N)
def outS (line : List Int) (pl : List PTh) (p : Nat) (R : List Int) (a b : Int) (ok : Bool) : SS :=
  passL line pl p (pl.length + 1) 0 ⟨if ok = true then R else R.set 0 (leastV (rd R 0) p), a, b, ok, false⟩
def outL (line : List Int) (pl : List PTh) : Nat → Nat → List Int → Int → Int → Bool → Int × Int × Bool
  | 0, _, _, a, b, ok => (a, b, ok)
  | d + 1, p, R, a, b, ok =>
    if p = line.length ∨ ((outS line pl p R a b ok).ok = true ∧ (outS line pl p R a b ok).live = false) then ((outS line pl p R a b ok).a, (outS line pl p R a b ok).b, (outS line pl p R a b ok).ok)
    else outL line pl d (p + 1) (eatL line pl p (outS line pl p R a b ok).R pl.length 0 (List.replicate (pl.length + 1) (-1))) (outS line pl p R a b ok).a (outS line pl p R a b ok).b (outS line pl p R a b ok).ok
def searchV (line : List Int) (pl : List PTh) (f : Int) : Int × Int × Bool :=
  if f < 0 ∨ f > line.length then (0, 0, false) else outL line pl (line.length + 1) f.toNat (List.replicate (pl.length + 1) (-1)) 0 0 false
/-! What the ends are, place by place. -/
def val (line : List Int) (pl : List PTh) (i p : Nat) : Int := rd (endsV line (pl.drop i)) (p : Int)
section
variable {line : List Int} {pl : List PTh}
theorem val_end {p : Nat} (hp : p ≤ line.length) : val line pl pl.length p = p := by
  unfold val
  rw [List.drop_eq_nil_of_le (Nat.le_refl _)]
  exact rd_gen _ (fun i : Nat => (i : Int)) (by omega)
theorem val_drop {i : Nat} (hi : i < pl.length) : endsV line (pl.drop i) = stepV line (pl.getD i .front) (endsV line (pl.drop (i + 1))) := by
  rw [List.drop_eq_getElem_cons hi, List.getD_eq_getElem?_getD, List.getElem?_eq_getElem hi]
  rfl
theorem val_single {i p : Nat} {S : Nat → Bool} (hi : i < pl.length) (ht : pl.getD i .front = .single S) (hp : p ≤ line.length) : val line pl i p = if p < line.length ∧ S (rd line (p : Int)).toNat = true then val line pl (i + 1) (p + 1) else -1 := by
  unfold val
  rw [val_drop hi, ht]
  exact rd_gen _ (fun i_1 : Nat => if i_1 < line.length ∧ S (rd line (i_1 : Int)).toNat = true then rd (endsV line (pl.drop (i + 1))) ((i_1 : Int) + 1) else -1) (by omega)
theorem mx_succ {S : Nat → Bool} {E : List Int} (d i : Nat) : mx line S E (d + 1) i = if S (rd line (i : Int)).toNat = true then max (rd E (i : Int)) (mx line S E d (i + 1)) else rd E (i : Int) := rfl
theorem val_many {i p : Nat} {S : Nat → Bool} (hi : i < pl.length) (ht : pl.getD i .front = .many S) (hp : p ≤ line.length) : val line pl i p = if p < line.length ∧ S (rd line (p : Int)).toNat = true then max (val line pl (i + 1) p) (val line pl i (p + 1)) else val line pl (i + 1) p := by
  have e : ∀ q : Nat, q ≤ line.length → val line pl i q = mx line S (endsV line (pl.drop (i + 1))) (line.length - q) q := by
    intro q hq
    unfold val
    rw [val_drop hi, ht]
    exact rd_gen _ (fun j : Nat => mx line S (endsV line (pl.drop (i + 1))) (line.length - j) j) (by omega)
  rw [e p hp]
  by_cases h : p < line.length
  · rw [e (p + 1) (by omega)]
    obtain ⟨d, hd⟩ : ∃ d, line.length - p = d + 1 := ⟨line.length - p - 1, by omega⟩
    rw [hd, show line.length - (p + 1) = d from by omega]
    rw [mx_succ]
    by_cases hs : S (rd line (p : Int)).toNat = true
    · rw [if_pos hs, if_pos ⟨h, hs⟩]
      rfl
    · rw [if_neg hs, if_neg (fun h2 => hs h2.2)]
      rfl
  · rw [if_neg (fun h2 => h h2.1), show line.length - p = 0 from by omega]
    rfl
theorem val_test {i p : Nat} (hi : i < pl.length) (h1 : ∀ S, pl.getD i .front ≠ .single S) (h2 : ∀ S, pl.getD i .front ≠ .many S) (hp : p ≤ line.length) : val line pl i p = if fW line (pl.getD i .front) p = true then val line pl (i + 1) p else -1 := by
  unfold val
  rw [val_drop hi]
  generalize pl.getD i .front = t at h1 h2
  have hm : stepV line t (endsV line (pl.drop (i + 1))) = mask (endsV line (pl.drop (i + 1))) (fW line t) line.length := by
    cases t with
    | single S => exact absurd rfl (h1 S)
    | many S => exact absurd rfl (h2 S)
    | _ => rfl
  rw [hm, mask_rd (by omega)]
theorem val_rng {i p : Nat} (hp : p ≤ line.length) : val line pl i p = -1 ∨ ((p : Int) ≤ val line pl i p ∧ val line pl i p ≤ line.length) := (endsV_fine line (pl.drop i)).2 p hp
/-! Soundness: what a state holds leads to a match. -/
def Snd (line : List Int) (pl : List PTh) (f p : Nat) (R : List Int) : Prop := R.length = pl.length + 1 ∧ ∀ i, i ≤ pl.length → 0 ≤ rd R (i : Int) → (f : Int) ≤ rd R (i : Int) ∧ rd R (i : Int) ≤ p ∧ val line pl i p ≤ val line pl 0 (rd R (i : Int)).toNat
theorem rd_set' {R : List Int} {k i : Nat} {v : Int} (hk : k < R.length) : rd (R.set k v) (i : Int) = if i = k then v else rd R (i : Int) := by
  rw [rd_set R (i := k) (i : Int) v (by omega) hk]
  by_cases e : i = k
  · rw [if_pos (by omega), if_pos e]
  · rw [if_neg (by omega), if_neg e]
theorem rd_rep {m i : Nat} (hi : i < m) : rd (List.replicate m (-1)) (i : Int) = -1 := by
  unfold rd
  rw [Int.toNat_natCast, List.getD_eq_getElem?_getD]
  simp [hi]
theorem least_two (a b : Int) : leastV a b = a ∨ leastV a b = b := by
  unfold leastV
  split
  · exact .inr rfl
  · split
    · split
      · exact .inr rfl
      · exact .inl rfl
    · exact .inl rfl
theorem least_le {a b : Int} (hb : 0 ≤ b) : 0 ≤ leastV a b ∧ leastV a b ≤ b ∧ (0 ≤ a → leastV a b ≤ a) := by
  unfold leastV
  by_cases h1 : a < 0
  · rw [if_pos h1]; omega
  · rw [if_neg h1, if_pos (show b ≥ 0 from hb)]
    by_cases h2 : b < a
    · rw [if_pos h2]; omega
    · rw [if_neg h2]; omega
theorem Snd.put {f p : Nat} {R : List Int} (h : Snd line pl f p R) {k : Nat} {v : Int} (hk : k ≤ pl.length) (hv : 0 ≤ v → (f : Int) ≤ v ∧ v ≤ p ∧ val line pl k p ≤ val line pl 0 v.toNat) : Snd line pl f p (R.set k v) := by
  refine ⟨by rw [List.length_set]; exact h.1, fun i hi h0 => ?_⟩
  rw [rd_set' (by have := h.1; omega)] at h0 ⊢
  by_cases e : i = k
  · rw [if_pos e] at h0 ⊢
    subst e
    exact hv h0
  · rw [if_neg e] at h0 ⊢
    exact h.2 i hi h0
theorem Snd.least {f p : Nat} {R : List Int} (h : Snd line pl f p R) {k : Nat} {v : Int} (hk : k ≤ pl.length) (h0 : 0 ≤ v) (hv : (f : Int) ≤ v ∧ v ≤ p ∧ val line pl k p ≤ val line pl 0 v.toNat) : Snd line pl f p (R.set k (leastV (rd R (k : Int)) v)) := by
  refine h.put hk (fun h1 => ?_)
  rcases least_two (rd R (k : Int)) v with e | e
  · rw [e] at h1 ⊢; exact h.2 k hk h1
  · rw [e]; exact hv
theorem pass_le {i p : Nat} (hi : i < pl.length) (hp : p ≤ line.length) (h : passB line (pl.getD i .front) p = true) : val line pl (i + 1) p ≤ val line pl i p := by
  cases ht : pl.getD i .front with
  | single S => rw [ht] at h; cases h
  | many S =>
    rw [val_many hi ht hp]
    split <;> omega
  | _ =>
    rw [val_test hi (by rw [ht]; simp) (by rw [ht]; simp) hp]
    rw [if_pos (by rw [ht] at h ⊢; exact h)]
    exact Int.le_refl _
theorem eat_le {i p k : Nat} (hi : i < pl.length) (hp : p < line.length) (h : eatB line p (pl.getD i .front) = some k) : val line pl (i + k) (p + 1) ≤ val line pl i p ∧ k ≤ 1 := by
  cases ht : pl.getD i .front with
  | single S =>
    rw [ht] at h
    unfold eatB at h
    by_cases hs : S (rd line (p : Int)).toNat = true
    · simp only [if_pos hs, Option.some.injEq] at h
      subst h
      rw [val_single hi ht (by omega), if_pos ⟨hp, hs⟩]
      exact ⟨Int.le_refl _, Nat.le_refl _⟩
    · simp [hs] at h
  | many S =>
    rw [ht] at h
    unfold eatB at h
    by_cases hs : S (rd line (p : Int)).toNat = true
    · simp only [if_pos hs, Option.some.injEq] at h
      subst h
      have e := val_many (line := line) (pl := pl) hi ht (p := p) (by omega)
      rw [if_pos ⟨hp, hs⟩] at e
      rw [e, Nat.add_zero]
      exact ⟨Int.le_max_right _ _, Nat.zero_le _⟩
    · simp [hs] at h
  | _ => rw [ht] at h; cases h
/-- What the outer state knows. -/
def Out (line : List Int) (pl : List PTh) (f p : Nat) (a b : Int) (ok : Bool) : Prop := (ok = true → (f : Int) ≤ a ∧ a ≤ p ∧ 0 ≤ val line pl 0 a.toNat) ∧ (ok = false → a = 0 ∧ b = 0)
theorem pass1_snd {f p i : Nat} {s : SS} (hp : p ≤ line.length) (hi : i ≤ pl.length) (h : Snd line pl f p s.R) (ho : Out line pl f p s.a s.b s.ok) : Snd line pl f p (pass1 line pl p i s).R ∧ Out line pl f p (pass1 line pl p i s).a (pass1 line pl p i s).b (pass1 line pl p i s).ok := by
  unfold pass1
  split
  · exact ⟨h, ho⟩
  · rename_i h0
    have hs := h.2 i hi (by omega)
    split
    · exact ⟨h.put hi (fun h1 => absurd h1 (by decide)), ho⟩
    · split
      · rename_i e
        subst e
        refine ⟨h, fun _ => ⟨hs.1, hs.2.1, ?_⟩, fun h1 => by cases h1⟩
        have := hs.2.2
        rw [val_end hp] at this
        show 0 ≤ val line pl 0 (rd s.R (pl.length : Int)).toNat
        omega
      · split
        · rename_i e hb
          refine ⟨?_, ho⟩
          have h2 := h.least (k := i + 1) (v := rd s.R (i : Int)) (by omega) (by omega) ⟨hs.1, hs.2.1, Int.le_trans (pass_le (by omega) hp hb) hs.2.2⟩
          rwa [show ((i + 1 : Nat) : Int) = (i : Int) + 1 from by omega] at h2
        · exact ⟨h, ho⟩
theorem eat1_snd {f p i : Nat} {R N : List Int} (hp : p < line.length) (hi : i < pl.length) (h : Snd line pl f p R) (hn : Snd line pl f (p + 1) N) : Snd line pl f (p + 1) (eat1 line pl p R i N) := by
  unfold eat1
  split
  · exact hn
  · rename_i h0
    have hs := h.2 i (by omega) (by omega)
    split
    · rename_i k hk
      obtain ⟨h1, h2⟩ := eat_le hi hp hk
      exact hn.least (by omega) (by omega) ⟨hs.1, by omega, Int.le_trans h1 hs.2.2⟩
    · exact hn
theorem rep_snd {f p m : Nat} (hm : m = pl.length + 1) : Snd line pl f p (List.replicate m (-1)) := by
  subst hm
  refine ⟨by simp, fun i hi h0 => ?_⟩
  rw [rd_rep (by omega)] at h0
  exact absurd h0 (by decide)
end
end Go.Proofs.Ytlbijhlbllolhaa.PT
end
section
namespace Go.Proofs.Ytlbijhlbllolhaa.PT
open Go.RowKit Go.Proofs.YtlbijhlbllolhaaW.PrintWords Go.Proofs.YtlbijhlbllolhaaW.PrintMore
set_option linter.unusedVariables false
/-- The match that is to be found. -/
structure Tgt (line : List Int) (pl : List PTh) (f s : Nat) (e : Int) : Prop where
  ge : f ≤ s
  le : s ≤ line.length
  at_ : val line pl 0 s = e
  pos : 0 ≤ e
  least : ∀ q : Nat, f ≤ q → q < s → val line pl 0 q < 0
section
variable {line : List Int} {pl : List PTh} {f s : Nat} {e : Int}
theorem Tgt.se (t : Tgt line pl f s e) : (s : Int) ≤ e ∧ e ≤ line.length := by
  have h1 := val_rng (line := line) (pl := pl) (i := 0) t.le
  have h2 := t.at_
  have h3 := t.pos
  omega
theorem Tgt.key (t : Tgt line pl f s e) {p i : Nat} {R : List Int} (h : Snd line pl f p R) (hi : i ≤ pl.length) (h0 : 0 ≤ rd R (i : Int)) (hv : 0 ≤ val line pl i p) : (s : Int) ≤ rd R (i : Int) := by
  obtain ⟨h1, h2, h3⟩ := h.2 i hi h0
  by_cases lt : rd R (i : Int) < s
  · have := t.least (rd R (i : Int)).toNat (by omega) (by omega)
    omega
  · omega
theorem Tgt.out (t : Tgt line pl f s e) {p : Nat} {a b : Int} {ok : Bool} (h : Out line pl f p a b ok) (hk : ok = true) : (s : Int) ≤ a := by
  obtain ⟨h1, h2, h3⟩ := h.1 hk
  by_cases lt : a < s
  · have := t.least a.toNat (by omega) (by omega)
    omega
  · omega
/-- The thread, in the inner loop. -/
def CP (line : List Int) (pl : List PTh) (s : Nat) (e : Int) (p i : Nat) (t : SS) : Prop :=
  (∃ j, i ≤ j ∧ j ≤ pl.length ∧ rd t.R (j : Int) = s ∧ val line pl j p = e) ∨ (e = p ∧ t.ok = true ∧ t.a = s ∧ t.b = e) ∨
  (∃ j k, j < i ∧ j < pl.length ∧ rd t.R (j : Int) = s ∧ t.live = true ∧ eatB line p (pl.getD j .front) = some k ∧ p < line.length ∧ val line pl (j + k) (p + 1) = e)
theorem least_thread (t : Tgt line pl f s e) {p k : Nat} {R : List Int} {v : Int} (hn : Snd line pl f p (R.set k (leastV (rd R (k : Int)) v))) (hl : R.length = pl.length + 1) (hk : k ≤ pl.length) (h0 : 0 ≤ v) (hs : (0 ≤ rd R (k : Int) ∧ rd R (k : Int) = s) ∨ v = s) (hv : val line pl k p = e) : rd (R.set k (leastV (rd R (k : Int)) v)) (k : Int) = s := by
  have e1 : rd (R.set k (leastV (rd R (k : Int)) v)) (k : Int) = leastV (rd R (k : Int)) v := by rw [rd_set' (by omega), if_pos rfl]
  have h1 := least_le (a := rd R (k : Int)) h0
  have h2 := t.key hn hk (by rw [e1]; exact h1.1) (by rw [hv]; exact t.pos)
  rw [e1] at h2 ⊢
  rcases hs with ⟨h3, h4⟩ | h3
  · have := h1.2.2 h3
    omega
  · omega
theorem pass1_cp (t : Tgt line pl f s e) {p i : Nat} {w : SS} (hp : p ≤ line.length) (hi : i ≤ pl.length) (h : Snd line pl f p w.R) (ho : Out line pl f p w.a w.b w.ok) (hc : CP line pl s e p i w) : CP line pl s e p (i + 1) (pass1 line pl p i w) := by
  obtain ⟨hsn, hou⟩ := pass1_snd hp hi h ho
  have hlen := h.1
  unfold pass1 at hsn hou ⊢
  by_cases h0 : rd w.R (i : Int) < 0
  · rw [if_pos h0] at hsn hou ⊢
    rcases hc with ⟨j, h1, h2, h3, h4⟩ | hc | ⟨j, k, h1, h2⟩
    · by_cases ej : j = i
      · subst ej; omega
      · exact .inl ⟨j, by omega, h2, h3, h4⟩
    · exact .inr (.inl hc)
    · exact .inr (.inr ⟨j, k, by omega, h2⟩)
  rw [if_neg h0] at hsn hou ⊢
  by_cases hpr : w.ok = true ∧ rd w.R (i : Int) > w.a
  · rw [if_pos hpr] at hsn hou ⊢
    have hb := t.out ho hpr.1
    rcases hc with ⟨j, h1, h2, h3, h4⟩ | hc | ⟨j, k, h1, h2, h3, h4⟩
    · by_cases ej : j = i
      · subst ej; omega
      · exact .inl ⟨j, by omega, h2, by rw [rd_set' (by omega), if_neg ej]; exact h3, h4⟩
    · exact .inr (.inl hc)
    · exact .inr (.inr ⟨j, k, by omega, h2, by rw [rd_set' (by omega), if_neg (by omega)]; exact h3, h4⟩)
  rw [if_neg hpr] at hsn hou ⊢
  by_cases hm : i = pl.length
  · rw [if_pos hm] at hsn hou ⊢
    subst hm
    have hv := val_end (line := line) (pl := pl) hp
    have hr := h.2 pl.length (Nat.le_refl _) (by omega)
    rcases hc with ⟨j, h1, h2, h3, h4⟩ | ⟨h1, h2, h3, h4⟩ | ⟨j, k, h1, h2⟩
    · obtain rfl : j = pl.length := by omega
      exact .inr (.inl ⟨by omega, rfl, h3, by show (p : Int) = e; omega⟩)
    · have h5 := t.key h (Nat.le_refl _) (by omega) (by omega)
      refine .inr (.inl ⟨h1, rfl, ?_, by show (p : Int) = e; omega⟩)
      show rd w.R (pl.length : Int) = s
      have : ¬ rd w.R (pl.length : Int) > w.a := fun h6 => hpr ⟨h2, h6⟩
      omega
    · exact .inr (.inr ⟨j, k, by omega, h2⟩)
  rw [if_neg hm] at hsn hou ⊢
  have him : i < pl.length := by omega
  by_cases hb : passB line (pl.getD i .front) p = true
  · rw [if_pos hb] at hsn hou ⊢
    rw [show ((i : Int) + 1) = ((i + 1 : Nat) : Int) from by omega] at hsn ⊢
    have hle := pass_le (line := line) (pl := pl) him hp hb
    rcases hc with ⟨j, h1, h2, h3, h4⟩ | hc | ⟨j, k, h1, h2, h3, h4, h5⟩
    · by_cases ej : j = i
      · subst ej
        have fwd : val line pl (j + 1) p = e → CP line pl s e p (j + 1) { w with R := w.R.set (j + 1) (leastV (rd w.R ((j + 1 : Nat) : Int)) (rd w.R (j : Int))), live := true } := fun hv =>
          .inl ⟨j + 1, Nat.le_refl _, by omega, least_thread t hsn hlen (by omega) (by omega) (.inr h3) hv, hv⟩
        cases ht : pl.getD j .front with
        | single S => rw [ht] at hb; cases hb
        | many S =>
          have hv := val_many (line := line) (pl := pl) him ht hp
          rw [h4] at hv
          by_cases hS : p < line.length ∧ S (rd line (p : Int)).toNat = true
          · rw [if_pos hS] at hv
            by_cases hx : val line pl (j + 1) p = e
            · exact fwd hx
            · refine .inr (.inr ⟨j, 0, by omega, him, by show rd (w.R.set _ _) _ = _; rw [rd_set' (by omega), if_neg (by omega)]; exact h3, rfl, ?_, hS.1, ?_⟩)
              · rw [ht]; unfold eatB; simp only [if_pos hS.2]
              · show val line pl j (p + 1) = e
                omega
          · rw [if_neg hS] at hv
            exact fwd hv.symm
        | _ =>
          have hv := val_test (line := line) (pl := pl) him (by rw [ht]; simp) (by rw [ht]; simp) hp
          rw [if_pos (by rw [ht] at hb ⊢; exact hb), h4] at hv
          exact fwd hv.symm
      · by_cases ej1 : j = i + 1
        · subst ej1
          exact .inl ⟨i + 1, Nat.le_refl _, h2, least_thread t hsn hlen (by omega) (by omega) (.inl ⟨by omega, h3⟩) h4, h4⟩
        · exact .inl ⟨j, by omega, h2, by show rd (w.R.set _ _) _ = _; rw [rd_set' (by omega), if_neg (by omega)]; exact h3, h4⟩
    · exact .inr (.inl hc)
    · exact .inr (.inr ⟨j, k, by omega, h2, by show rd (w.R.set _ _) _ = _; rw [rd_set' (by omega), if_neg (by omega)]; exact h3, rfl, h5⟩)
  · rw [if_neg hb] at hsn hou ⊢
    rcases hc with ⟨j, h1, h2, h3, h4⟩ | hc | ⟨j, k, h1, h2, h3, h4, h5⟩
    · by_cases ej : j = i
      · subst ej
        cases ht : pl.getD j .front with
        | single S =>
          have hv := val_single (line := line) (pl := pl) him ht hp
          rw [h4] at hv
          by_cases hS : p < line.length ∧ S (rd line (p : Int)).toNat = true
          · rw [if_pos hS] at hv
            exact .inr (.inr ⟨j, 1, by omega, him, h3, rfl, by rw [ht]; unfold eatB; simp only [if_pos hS.2], hS.1, hv.symm⟩)
          · rw [if_neg hS] at hv
            have := t.pos
            omega
        | many S => rw [ht] at hb; exact absurd rfl hb
        | _ =>
          have hv := val_test (line := line) (pl := pl) him (by rw [ht]; simp) (by rw [ht]; simp) hp
          rw [if_neg (by rw [ht] at hb ⊢; exact hb), h4] at hv
          have := t.pos
          omega
      · exact .inl ⟨j, by omega, h2, h3, h4⟩
    · exact .inr (.inl hc)
    · exact .inr (.inr ⟨j, k, by omega, h2, h3, rfl, h5⟩)
/-- The match was found: it stays. -/
def DN (s : Nat) (e : Int) (w : SS) : Prop := w.ok = true ∧ w.a = s ∧ w.b = e
theorem pass1_dn (t : Tgt line pl f s e) {p i : Nat} {w : SS} (hp : p ≤ line.length) (hi : i ≤ pl.length) (hpe : e < p) (h : Snd line pl f p w.R) (hd : DN s e w) : DN s e (pass1 line pl p i w) := by
  unfold pass1
  by_cases h0 : rd w.R (i : Int) < 0
  · rw [if_pos h0]; exact hd
  rw [if_neg h0]
  by_cases hpr : w.ok = true ∧ rd w.R (i : Int) > w.a
  · rw [if_pos hpr]; exact hd
  rw [if_neg hpr]
  by_cases hm : i = pl.length
  · subst hm
    have hv := val_end (line := line) (pl := pl) hp
    have hr := h.2 pl.length (Nat.le_refl _) (by omega)
    have h5 := t.key h (Nat.le_refl _) (by omega) (by omega)
    have h6 : ¬ rd w.R (pl.length : Int) > w.a := fun h6 => hpr ⟨hd.1, h6⟩
    have h7 : rd w.R (pl.length : Int) = s := by have := hd.2.1; omega
    rw [h7, Int.toNat_natCast, t.at_] at hr
    omega
  · rw [if_neg hm]
    split <;> exact hd
theorem passL_snd {p : Nat} (hp : p ≤ line.length) : ∀ (d i : Nat) (w : SS), i + d = pl.length + 1 → Snd line pl f p w.R → Out line pl f p w.a w.b w.ok → Snd line pl f p (passL line pl p d i w).R ∧ Out line pl f p (passL line pl p d i w).a (passL line pl p d i w).b (passL line pl p d i w).ok := by
  intro d
  induction d with
  | zero => intro i w _ h ho; exact ⟨h, ho⟩
  | succ d ih =>
    intro i w hd h ho
    obtain ⟨h1, h2⟩ := pass1_snd hp (show i ≤ pl.length by omega) h ho
    exact ih (i + 1) _ (by omega) h1 h2
theorem passL_cp (t : Tgt line pl f s e) {p : Nat} (hp : p ≤ line.length) : ∀ (d i : Nat) (w : SS), i + d = pl.length + 1 → Snd line pl f p w.R → Out line pl f p w.a w.b w.ok → CP line pl s e p i w → CP line pl s e p (pl.length + 1) (passL line pl p d i w) := by
  intro d
  induction d with
  | zero =>
    intro i w hd h ho hc
    obtain rfl : i = pl.length + 1 := by omega
    exact hc
  | succ d ih =>
    intro i w hd h ho hc
    obtain ⟨h1, h2⟩ := pass1_snd hp (show i ≤ pl.length by omega) h ho
    exact ih (i + 1) _ (by omega) h1 h2 (pass1_cp t hp (by omega) h ho hc)
theorem passL_dn (t : Tgt line pl f s e) {p : Nat} (hp : p ≤ line.length) (hpe : e < p) : ∀ (d i : Nat) (w : SS), i + d = pl.length + 1 → Snd line pl f p w.R → Out line pl f p w.a w.b w.ok → DN s e w → DN s e (passL line pl p d i w) := by
  intro d
  induction d with
  | zero => intro i w hd h ho hc; exact hc
  | succ d ih =>
    intro i w hd h ho hc
    obtain ⟨h1, h2⟩ := pass1_snd hp (show i ≤ pl.length by omega) h ho
    exact ih (i + 1) _ (by omega) h1 h2 (pass1_dn t hp (by omega) hpe h hc)
theorem eatL_snd {p : Nat} {R : List Int} (hp : p < line.length) (h : Snd line pl f p R) : ∀ (d i : Nat) (N : List Int), i + d = pl.length → Snd line pl f (p + 1) N → Snd line pl f (p + 1) (eatL line pl p R d i N) := by
  intro d
  induction d with
  | zero => intro i N _ hn; exact hn
  | succ d ih => intro i N hd hn; exact ih (i + 1) _ (by omega) (eat1_snd hp (by omega) h hn)
theorem eat1_keep (t : Tgt line pl f s e) {p i j : Nat} {R N : List Int} (hp : p < line.length) (hi : i < pl.length) (h : Snd line pl f p R) (hn : Snd line pl f (p + 1) N) (hj : j ≤ pl.length) (h1 : rd N (j : Int) = s) (h2 : val line pl j (p + 1) = e) : rd (eat1 line pl p R i N) (j : Int) = s := by
  have hsn := eat1_snd hp hi h hn
  have hlen := hn.1
  unfold eat1 at hsn ⊢
  by_cases h0 : rd R (i : Int) < 0
  · rw [if_pos h0]; exact h1
  rw [if_neg h0] at hsn ⊢
  cases hk : eatB line p (pl.getD i .front) with
  | none => exact h1
  | some k =>
    rw [hk] at hsn
    have hk2 := (eat_le hi hp hk).2
    show rd (N.set (i + k) _) (j : Int) = s
    by_cases ej : j = i + k
    · subst ej
      exact least_thread t hsn hlen hj (by omega) (.inl ⟨by omega, h1⟩) h2
    · rw [rd_set' (by omega), if_neg ej]; exact h1
theorem eatL_keep (t : Tgt line pl f s e) {p : Nat} {R : List Int} (hp : p < line.length) (h : Snd line pl f p R) {j : Nat} (hj : j ≤ pl.length) (h2 : val line pl j (p + 1) = e) : ∀ (d i : Nat) (N : List Int), i + d = pl.length → Snd line pl f (p + 1) N → rd N (j : Int) = s → rd (eatL line pl p R d i N) (j : Int) = s := by
  intro d
  induction d with
  | zero => intro i N _ hn h1; exact h1
  | succ d ih => intro i N hd hn h1; exact ih (i + 1) _ (by omega) (eat1_snd hp (by omega) h hn) (eat1_keep t hp (by omega) h hn hj h1 h2)
theorem eatL_thread (t : Tgt line pl f s e) {p : Nat} {R : List Int} (hp : p < line.length) (h : Snd line pl f p R) {j k : Nat} (hj : j < pl.length) (h1 : rd R (j : Int) = s) (hk : eatB line p (pl.getD j .front) = some k) (h2 : val line pl (j + k) (p + 1) = e) : ∀ (d i : Nat) (N : List Int), i + d = pl.length → i ≤ j → Snd line pl f (p + 1) N → rd (eatL line pl p R d i N) ((j + k : Nat) : Int) = s := by
  intro d
  induction d with
  | zero => intro i N hd hij _; omega
  | succ d ih =>
    intro i N hd hij hn
    have hsn := eat1_snd hp (show i < pl.length by omega) h hn
    by_cases ej : i = j
    · subst ej
      have hk2 := (eat_le hj hp hk).2
      refine eatL_keep t hp h (by omega) h2 d (i + 1) _ (by omega) hsn ?_
      unfold eat1 at hsn ⊢
      rw [if_neg (by omega)] at hsn ⊢
      rw [hk] at hsn ⊢
      exact least_thread t hsn hn.1 (by omega) (by omega) (.inr h1) h2
    · exact ih (i + 1) _ (by omega) (by omega) hsn
/-- One round of the outer loop. -/
theorem outS_snd {p : Nat} {R : List Int} {a b : Int} {ok : Bool} (hf : f ≤ p) (hp : p ≤ line.length) (h : Snd line pl f p R) (ho : Out line pl f p a b ok) : Snd line pl f p (outS line pl p R a b ok).R ∧ Out line pl f p (outS line pl p R a b ok).a (outS line pl p R a b ok).b (outS line pl p R a b ok).ok := by
  unfold outS
  refine passL_snd hp _ _ _ (by omega) ?_ ho
  show Snd line pl f p (if ok = true then R else R.set 0 (leastV (rd R 0) p))
  split
  · exact h
  · exact h.least (k := 0) (v := (p : Int)) (by omega) (by omega) ⟨by omega, Int.le_refl _, by rw [Int.toNat_natCast]; exact Int.le_refl _⟩
theorem Snd.next {p : Nat} {a b : Int} {ok : Bool} (ho : Out line pl f p a b ok) : Out line pl f (p + 1) a b ok := ⟨fun h => by have := ho.1 h; omega, ho.2⟩
theorem outL_none (hno : ∀ q : Nat, f ≤ q → q ≤ line.length → val line pl 0 q < 0) : ∀ (d p : Nat) (R : List Int) (a b : Int) (ok : Bool), f ≤ p → p ≤ line.length → Snd line pl f p R → Out line pl f p a b ok → outL line pl d p R a b ok = (0, 0, false) := by
  have no : ∀ (p : Nat) (a b : Int) (ok : Bool), p ≤ line.length → Out line pl f p a b ok → a = 0 ∧ b = 0 ∧ ok = false := by
    intro p a b ok hp ho
    cases ok with
    | true =>
      have h1 := ho.1 rfl
      have := hno a.toNat (by omega) (by omega)
      omega
    | false => exact ⟨(ho.2 rfl).1, (ho.2 rfl).2, rfl⟩
  intro d
  induction d with
  | zero =>
    intro p R a b ok hf hp h ho
    obtain ⟨rfl, rfl, rfl⟩ := no p a b ok hp ho
    rfl
  | succ d ih =>
    intro p R a b ok hf hp h ho
    obtain ⟨h1, h2⟩ := outS_snd hf hp h ho
    obtain ⟨e1, e2, e3⟩ := no p _ _ _ hp h2
    unfold outL
    split
    · rw [e1, e2, e3]
    · rename_i hc
      exact ih (p + 1) _ _ _ _ (by omega) (by omega) (eatL_snd (by omega) h1 _ _ _ (by omega) (rep_snd rfl)) (Snd.next h2)
theorem outL_some (t : Tgt line pl f s e) : ∀ (d p : Nat) (R : List Int) (a b : Int) (ok : Bool), f ≤ p → p ≤ line.length → line.length < p + d → Snd line pl f p R → Out line pl f p a b ok → (ok = true → a < p) →
    ((s : Int) < p → (p : Int) ≤ e → ∃ j, j ≤ pl.length ∧ rd R (j : Int) = s ∧ val line pl j p = e) → (e < p → ok = true ∧ a = s ∧ b = e) → outL line pl d p R a b ok = ((s : Int), e, true) := by
  have hse := t.se
  intro d
  induction d with
  | zero => intro p R a b ok hf hp hd; omega
  | succ d ih =>
    intro p R a b ok hf hp hd h ho hap ht hdn
    obtain ⟨h1, h2⟩ := outS_snd hf hp h ho
    have hR0 : Snd line pl f p (if ok = true then R else R.set 0 (leastV (rd R 0) p)) := by
      split
      · exact h
      · exact h.least (k := 0) (v := (p : Int)) (by omega) (by omega) ⟨by omega, Int.le_refl _, by rw [Int.toNat_natCast]; exact Int.le_refl _⟩
    unfold outL
    by_cases c1 : p < s
    · -- ahead of the match
      have hok : (outS line pl p R a b ok).ok = false := by
        cases hk : (outS line pl p R a b ok).ok with
        | false => rfl
        | true =>
          have h3 := t.out h2 hk
          have h4 := h2.1 hk
          omega
      rw [if_neg (fun hx => hx.elim (fun hx => by omega) (fun hx => by rw [hok] at hx; cases hx.1))]
      refine ih (p + 1) _ _ _ _ (by omega) (by omega) (by omega) (eatL_snd (by omega) h1 _ _ _ (by omega) (rep_snd rfl)) (Snd.next h2) (fun hk => by rw [hok] at hk; cases hk) (fun hx _ => by omega) (fun hx => by omega)
    by_cases c2 : (p : Int) ≤ e
    · -- within it
      have hc0 : CP line pl s e p 0 ⟨if ok = true then R else R.set 0 (leastV (rd R 0) p), a, b, ok, false⟩ := by
        refine .inl ?_
        by_cases c3 : p = s
        · subst c3
          have hok : ok = false := by
            cases ok with
            | false => rfl
            | true =>
              have := t.out ho rfl
              have := hap rfl
              omega
          subst hok
          refine ⟨0, Nat.le_refl _, Nat.zero_le _, ?_, t.at_⟩
          exact least_thread t (k := 0) (v := (p : Int)) hR0 h.1 (by omega) (by omega) (.inr rfl) t.at_
        · obtain ⟨j, h3, h4, h5⟩ := ht (by omega) c2
          refine ⟨j, Nat.zero_le _, h3, ?_, h5⟩
          cases ok with
          | true => exact h4
          | false =>
            by_cases ej : j = 0
            · subst ej
              exact least_thread t (k := 0) (v := (p : Int)) hR0 h.1 (by omega) (by omega) (.inl ⟨by omega, h4⟩) h5
            · show rd (R.set 0 _) (j : Int) = s
              rw [rd_set' (by have := h.1; omega), if_neg ej]
              exact h4
      have hc := passL_cp t hp (pl.length + 1) 0 _ (by omega) hR0 ho hc0
      change CP line pl s e p (pl.length + 1) (outS line pl p R a b ok) at hc
      generalize outS line pl p R a b ok = w at hc h1 h2
      rcases hc with ⟨j, hj1, hj2, _⟩ | ⟨he, hk, ha, hb⟩ | ⟨j, k, _, hj, hr, hlv, hk, hpn, hv⟩
      · omega
      · split
        · rw [ha, hb, hk]
        · rename_i hx
          refine ih (p + 1) _ _ _ _ (by omega) (by omega) (by omega) (eatL_snd (by omega) h1 _ _ _ (by omega) (rep_snd rfl)) (Snd.next h2) (fun _ => by have := h2.1 hk; omega) (fun _ hx => by omega) (fun _ => ⟨hk, ha, hb⟩)
      · rw [if_neg (fun hx => hx.elim (fun hx => by omega) (fun hx => by rw [hlv] at hx; cases hx.2))]
        have hk2 := (eat_le hj hpn hk).2
        refine ih (p + 1) _ _ _ _ (by omega) (by omega) (by omega) (eatL_snd hpn h1 _ _ _ (by omega) (rep_snd rfl)) (Snd.next h2) (fun hx => by have := h2.1 hx; omega) (fun _ _ => ⟨j + k, by omega, eatL_thread t hpn h1 hj hr hk hv _ _ _ (by omega) (by omega) (rep_snd rfl), hv⟩) (fun hx => ?_)
        have := val_rng (line := line) (pl := pl) (i := j + k) (p := p + 1) (by omega)
        have := t.pos
        omega
    · -- behind it
      have hd0 := hdn (by omega)
      have hd1 := passL_dn t hp (by omega) (pl.length + 1) 0 ⟨if ok = true then R else R.set 0 (leastV (rd R 0) p), a, b, ok, false⟩ (by omega) hR0 ho hd0
      change DN s e (outS line pl p R a b ok) at hd1
      generalize outS line pl p R a b ok = w at hd1 h1 h2
      obtain ⟨hk, ha, hb⟩ := hd1
      split
      · rw [ha, hb, hk]
      · refine ih (p + 1) _ _ _ _ (by omega) (by omega) (by omega) (eatL_snd (by omega) h1 _ _ _ (by omega) (rep_snd rfl)) (Snd.next h2) (fun _ => by have := h2.1 hk; omega) (fun _ hx => by omega) (fun _ => ⟨hk, ha, hb⟩)
/-- The reference's search is Find. -/
theorem search_find (line : List Int) (pl : List PTh) (f : Int) : searchV line pl f = findV line pl f := by
  unfold searchV
  by_cases hf : f < 0 ∨ f > (line.length : Int)
  · rw [if_pos hf]
    unfold findV
    rw [if_pos hf]
  · rw [if_neg hf]
    have hsp := find_spec line pl f
    have h0 : Out line pl f.toNat f.toNat 0 0 false := ⟨(fun h => by cases h), (fun _ => ⟨rfl, rfl⟩)⟩
    have hval : ∀ q : Nat, val line pl 0 q = rd (endsV line pl) (q : Int) := fun q => rfl
    cases hk : (findV line pl f).2.2 with
    | false =>
      obtain ⟨e1, e2⟩ := hsp.2 hk
      rw [e1]
      exact outL_none (f := f.toNat) (fun q h1 h2 => by rw [hval]; exact e2 (by omega) q (by omega) (by omega)) _ _ _ _ _ _ (Nat.le_refl _) (by omega) (rep_snd rfl) h0
    | true =>
      obtain ⟨h1, h2, h3, h4, h5, h6⟩ := hsp.1 hk
      obtain ⟨s, hs⟩ : ∃ s : Nat, (findV line pl f).1 = (s : Int) := ⟨(findV line pl f).1.toNat, by omega⟩
      have ht : Tgt line pl f.toNat s (findV line pl f).2.1 := ⟨by omega, by omega, by rw [hval, h5, hs], by omega, fun q g1 g2 => by rw [hval]; exact h6 q (by omega) (by omega)⟩
      rw [outL_some ht _ _ _ _ _ _ (Nat.le_refl _) (by omega) (by omega) (rep_snd rfl) h0 (fun h => by cases h) (fun h => by omega) (fun h => by have := ht.se; omega)]
      exact Prod.ext hs.symm (Prod.ext rfl hk.symm)
end
end Go.Proofs.Ytlbijhlbllolhaa.PT
end
section
namespace Go.Proofs.Ytlbijhlbllolhaa.PT
open Go.RowKit Go.Proofs.YtlbijhlbllolhaaW.PrintWords Go.Proofs.YtlbijhlbllolhaaW.PrintMore
set_option linter.unusedVariables false
theorem ref_all (b : Int) (h : 0 ≤ b ∧ b ≤ 255) : ∃ r, X.quoinref06_Of.f 1 b false = some r ∧ (r == 2) = (X.class_Of.f 1 b false == some 2) := by
  obtain ⟨k, rfl⟩ := Int.eq_ofNat_of_zero_le h.1
  have h3 : ∀ k : Fin 256, (X.quoinref06_Of.f 1 (k.val : Int) false).isSome = true ∧ ((X.quoinref06_Of.f 1 (k.val : Int) false == some 2) = (X.class_Of.f 1 (k.val : Int) false == some 2)) := by decide +kernel
  obtain ⟨h4, h5⟩ := h3 ⟨k, by omega⟩
  obtain ⟨r, hr⟩ := Option.isSome_iff_exists.1 h4
  refine ⟨r, hr, ?_⟩
  simp only at hr h5
  rw [hr] at h5
  rw [← h5]
  rfl
theorem rword_plain {w : World} {A : Option Addr} {c : Nat} {line : List Int} (hr : Kd.C (Kd.int .u8) w A line.length line) (hc : line.length ≤ c) (hu : ∀ i, 0 ≤ rd line i ∧ rd line i ≤ 255) (i : Int) :
    Calls Try.prog 38 #[.slice A line.length c, .int .i64 i] w fun e w' => e = .returned (.bool (isW line i)) ∧ Drawn0 w w' := by
  refine X.quoinref11_word.calls 1 A c line i _ w hr hc ?_
  unfold X.quoinref11_word.f isW
  obtain ⟨r, hr, hr2⟩ := ref_all (rd line i) (hu i)
  by_cases h0 : i ≥ 0
  · rw [if_pos h0, decide_eq_true (show 0 ≤ i from h0)]
    by_cases h1 : i < (line.length : Int)
    · rw [if_pos h1, if_pos (show 0 ≤ i from h0), decide_eq_true h1, hr]
      simp only [Option.bind_some, Bool.true_and]
      rw [hr2]
    · rw [if_neg h1, decide_eq_false h1]; rfl
  · rw [if_neg h0, decide_eq_false (show ¬ 0 ≤ i from h0)]; rfl
theorem least_calls (a b : Int) (w : World) : Calls Try.prog 35 #[.int .i64 a, .int .i64 b] w fun e w' => e = .returned (.int .i64 (leastV a b)) ∧ Drawn0 w w' := by
  refine X.quoinref11_least.calls a b _ w ?_
  unfold X.quoinref11_least.f leastV
  split
  · rfl
  · split
    · split <;> rfl
    · rfl
/-- A thing of the reference lets pass. -/
def rpassB (line : List Int) (x : RT) (p : Int) : Bool := passB line (RTd x) p
set_option maxHeartbeats 2000000 in
set_option maxRecDepth 100000 in
theorem rpasses_calls {w : World} {A : Option Addr} {c : Nat} {line : List Int} (hr : Kd.C (Kd.int .u8) w A line.length line) (hc : line.length ≤ c) (hu : ∀ i, 0 ≤ rd line i ∧ rd line i ≤ 255) (x : RT) (hx : 0 ≤ x.1 ∧ x.1 ≤ 5) (p : Int) (hp : 0 ≤ p ∧ p ≤ 1048576) :
    Calls Try.prog 36 #[.agg (tcells x), .slice A line.length c, .int .i64 p] w fun e w' => e = .returned (.bool (passB line (RTd x) p)) ∧ Below w.heap.size w w' := by
  obtain ⟨k, S⟩ := x
  simp only at hx
  have HW : ∀ (W : World) (q : Int), Below w.heap.size w W → Aside0 _ := fun W q h => Aside0.mk (rword_plain (c := c) (Kd.C_below hr h) hc hu q)
  clear hr hu
  have hb := below_alloc (Below.refl w.heap.size w) (.cells (tcells (k, S)) 69)
  have hb0 := blk_new w (.cells (tcells (k, S)) 69)
  have HB := Aside0.mk hb
  have ck : (w.alloc (.cells (tcells (k, S)) 69)).cell? ⟨w.heap.size, 0, none⟩ = some (.int .i64 k) := (blk_cell hb0 0).trans rfl
  clear hb hb0
  by_cases e1 : k = 1
  · subst e1
    go_enter Try.func36, Try.ntmps36
    go_wp2_with fail
    exact bodyPost_ret (v := .bool true) (by simp [results, Try.results36, go_sem]) rfl ⟨rfl, HB.out⟩
  by_cases e2 : k = 2
  · subst e2
    have HP := Aside0.mk (show passB line (RTd (2, S)) p = (p == 0) from rfl)
    go_enter Try.func36, Try.ntmps36
    go_wp2_with fail
    exact bodyPost_ret (v := .bool (p == 0)) (by simp [results, Try.results36, go_sem]) rfl ⟨by rw [HP.out], HB.out⟩
  by_cases e3 : k = 3
  · subst e3
    have HP := Aside0.mk (show passB line (RTd (3, S)) p = (p == (line.length : Int)) from rfl)
    go_enter Try.func36, Try.ntmps36
    go_wp2_with fail
    exact bodyPost_ret (v := .bool (p == (line.length : Int))) (by simp [results, Try.results36, go_sem]) rfl ⟨by rw [HP.out], HB.out⟩
  by_cases e4 : k = 4
  · subst e4
    have HP := Aside0.mk (show passB line (RTd (4, S)) p = (isW line p && !isW line (p - 1)) from rfl)
    have HW1 := fun W h => HW W p h
    have HW2 := fun W h => HW W (p - 1) h
    clear HW
    cases h1 : isW line p
    case false =>
      rw [h1] at HP
      simp only [h1] at HW1
      clear h1
      go_enter Try.func36, Try.ntmps36
      go_wp2_with (go_at_call 38; first | ((with_reducible refine (HW1 _ HB.out).out.mono ?_); rintro e w' ⟨rfl, ⟨nd, rfl⟩⟩; have HB2 := Aside0.mk (pw_below_drewN HB.out nd)))
      exact bodyPost_ret (v := .bool false) (by simp [results, Try.results36, go_sem]) rfl ⟨by rw [HP.out]; simp, HB2.out⟩
    case true =>
      rw [h1] at HP
      simp only [h1] at HW1
      clear h1
      cases h2 : isW line (p - 1)
      all_goals
        rw [h2] at HP
        simp only [h2] at HW2
        clear h2
        go_enter Try.func36, Try.ntmps36
        go_wp2_with (go_at_call 38; first | ((with_reducible refine (HW1 _ HB.out).out.mono ?_); rintro e w' ⟨rfl, ⟨nd, rfl⟩⟩; have HB2 := Aside0.mk (pw_below_drewN HB.out nd)) | ((with_reducible refine (HW2 _ HB2.out).out.mono ?_); rintro e w' ⟨rfl, ⟨nd2, rfl⟩⟩))
        first
          | exact bodyPost_ret (v := .bool true) (by simp [results, Try.results36, go_sem]) rfl ⟨by rw [HP.out]; rfl, pw_below_drewN HB.out _⟩
          | exact bodyPost_ret (v := .bool false) (by simp [results, Try.results36, go_sem]) rfl ⟨by rw [HP.out]; rfl, pw_below_drewN HB.out _⟩
  by_cases e5 : k = 5
  · subst e5
    have HP := Aside0.mk (show passB line (RTd (5, S)) p = (isW line (p - 1) && !isW line p) from rfl)
    have HW1 := fun W h => HW W p h
    have HW2 := fun W h => HW W (p - 1) h
    clear HW
    cases h1 : isW line p
    case false =>
      rw [h1] at HP
      simp only [h1] at HW1
      clear h1
      cases h2 : isW line (p - 1)
      all_goals
        rw [h2] at HP
        simp only [h2] at HW2
        clear h2
        go_enter Try.func36, Try.ntmps36
        go_wp2_with (go_at_call 38; first | ((with_reducible refine (HW1 _ HB.out).out.mono ?_); rintro e w' ⟨rfl, ⟨nd, rfl⟩⟩; have HB2 := Aside0.mk (pw_below_drewN HB.out nd)) | ((with_reducible refine (HW2 _ HB2.out).out.mono ?_); rintro e w' ⟨rfl, ⟨nd2, rfl⟩⟩))
        first
          | exact bodyPost_ret (v := .bool true) (by simp [results, Try.results36, go_sem]) rfl ⟨by rw [HP.out]; rfl, pw_below_drewN HB.out _⟩
          | exact bodyPost_ret (v := .bool false) (by simp [results, Try.results36, go_sem]) rfl ⟨by rw [HP.out]; rfl, pw_below_drewN HB.out _⟩
    case true =>
      rw [h1] at HP
      simp only [h1] at HW1
      clear h1
      go_enter Try.func36, Try.ntmps36
      go_wp2_with (go_at_call 38; first | ((with_reducible refine (HW1 _ HB.out).out.mono ?_); rintro e w' ⟨rfl, ⟨nd, rfl⟩⟩; have HB2 := Aside0.mk (pw_below_drewN HB.out nd)))
      exact bodyPost_ret (v := .bool false) (by simp [results, Try.results36, go_sem]) rfl ⟨by rw [HP.out]; simp, HB2.out⟩
  obtain rfl : k = 0 := by omega
  have HP := Aside0.mk (show passB line (RTd (0, S)) p = false from rfl)
  go_enter Try.func36, Try.ntmps36
  go_wp2_with fail
  exact bodyPost_ret (v := .bool false) (by simp [results, Try.results36, go_sem]) rfl ⟨by rw [HP.out], HB.out⟩
/-- A thing out of its row. -/
theorem ld_thing {w : World} {ad : Addr} {n : Nat} {l : List RT} (h : kR.C w (some ad) n l) {i : Nat} (hi : i < n) (z : RT) : (Instr.loadAt 69 (.pointer (some (ad.add (i * 257))))).run Try.prog w = .ok (.agg (tcells (l.getD i z))) w := by
  obtain ⟨ad', cs, e, hc, hk, hcc⟩ := Kd.C_get h z (i : Int) (by omega) (by omega)
  injection e with e
  subst e
  rw [Int.toNat_natCast] at hk hcc
  have hk2 : cs = tcl (l.getD i z) := hk
  subst hk2
  have hl : (loadCells (ad.add (i * 257)) 257).run Try.prog w = .ok (tcells (l.getD i z)) w := by
    have h1 := run_loadCells_list (P := Try.prog) w (ad.add (i * 257)) (tcl (l.getD i z)) (fun j v hv => by
      rw [add_add]
      exact hcc j v hv)
    rwa [tcl_len] at h1
  have hagg : (isAgg 69).run Try.prog w = .ok true w := by kernel_rfl
  have hsz : (sizeOf 69).run Try.prog w = .ok 257 w := by kernel_rfl
  simp only [Instr.loadAt, Instr.sureAddr, Sem.run_bind, Sem.run_pure, Result.andThen_ok, loadVar, hagg, if_true, hsz]
  rw [hl]
  rfl
theorem th_cells {w : World} {ad : Addr} {n : Nat} {l : List RT} (h : kR.C w (some ad) n l) {i : Nat} (hi : i < n) (z : RT) : w.cell? (ad.add (i * 257)) = some (.int .i64 (l.getD i z).1) ∧ ∀ b : Nat, b < 256 → w.cell? (ad.add (i * 257 + 1 + b)) = some (.bool ((l.getD i z).2 b)) := by
  obtain ⟨ad', cs, e, hc, hk, hcc⟩ := Kd.C_get h z (i : Int) (by omega) (by omega)
  injection e with e
  subst e
  rw [Int.toNat_natCast] at hk hcc
  have hk2 : cs = tcl (l.getD i z) := hk
  subst hk2
  have hcc2 : ∀ j u, (tcl (l.getD i z))[j]? = some u → w.cell? (ad.add (i * 257 + j)) = some u := hcc
  have h0 := hcc2 0 (.int .i64 (l.getD i z).1) (by rw [tcl]; exact List.getElem?_cons_zero)
  rw [Nat.add_zero] at h0
  refine ⟨h0, fun b hb => ?_⟩
  rw [Nat.add_assoc, Nat.add_comm 1 b]
  refine hcc2 (b + 1) _ ?_
  rw [tcl, List.getElem?_cons_succ, Array.getElem?_toList]
  exact bset_get hb
end Go.Proofs.Ytlbijhlbllolhaa.PT
end
