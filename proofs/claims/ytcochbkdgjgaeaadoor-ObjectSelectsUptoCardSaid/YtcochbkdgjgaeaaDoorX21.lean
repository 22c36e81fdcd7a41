-- Written by wip/xprint.py over the kit's print.py: the Lean function of each Go function, and the proof that the Go text comes to it.
import Derived.Test.YtcochbkdgjgaeaaDoorX0
import Derived.Test.YtcochbkdgjgaeaaDoorX20
namespace Go.Proofs.YtcochbkdgjgaeaaDoor.X
open Go.RowKit Go.Proofs.YtcochbkdgjgaeaaDoorW.PrintWords Go.Proofs.YtcochbkdgjgaeaaDoorW.PrintLast Go.Proofs.YtcochbkdgjgaeaaDoorW.PrintMore
attribute [local go_sem] max2_int min2_int max_two min_two max_three min_three max_four min_four   -- for this text's walks alone
set_option linter.unusedVariables false
set_option linter.unusedSimpArgs false

/-! ### class_Partner: function 50 -/
def class_Partner.f (a0 : Int) : Option (Int × Bool × Bool) := (strings_IndexByte.f (⟨#[40, 41, 91, 93, 123, 125]⟩ : ByteArray) a0).bind fun t193 => (if t193 < 0 then (some (0, false, false)) else (if 0 ≤ (Go.bits .xor .i64 t193 1) then (if (Go.bits .xor .i64 t193 1) < 6 then (some (bt (⟨#[40, 41, 91, 93, 123, 125]⟩ : ByteArray) (Go.bits .xor .i64 t193 1), ((Int.tmod t193 2) == 0), true)) else (none)) else (none)))
set_option maxHeartbeats 8000000 in
set_option maxRecDepth 100000 in
theorem class_Partner.calls (a0 : Int) (r1 : Int) (r2 : Bool) (r3 : Bool) (w : World) (h : class_Partner.f a0 = some (r1, r2, r3)) :
  Calls Tryd.prog 50 #[.int .u8 a0] w fun e w' => e = .returned (.tuple #[.int .u8 r1, .bool r2, .bool r3]) ∧ Drawn0 w w' := by
 have H : ((strings_IndexByte.f (⟨#[40, 41, 91, 93, 123, 125]⟩ : ByteArray) a0).bind fun t193 => (if t193 < 0 then (some (0, false, false)) else (if 0 ≤ (Go.bits .xor .i64 t193 1) then (if (Go.bits .xor .i64 t193 1) < 6 then (some (bt (⟨#[40, 41, 91, 93, 123, 125]⟩ : ByteArray) (Go.bits .xor .i64 t193 1), ((Int.tmod t193 2) == 0), true)) else (none)) else (none)))) = some (r1, r2, r3) := h
 clear h
 replace H := Option.bind_eq_some_iff.mp H
 obtain ⟨t193, A20, H⟩ := H
 replace H : (if t193 < 0 then (some (0, false, false)) else (if 0 ≤ (Go.bits .xor .i64 t193 1) then (if (Go.bits .xor .i64 t193 1) < 6 then (some (bt (⟨#[40, 41, 91, 93, 123, 125]⟩ : ByteArray) (Go.bits .xor .i64 t193 1), ((Int.tmod t193 2) == 0), true)) else (none)) else (none))) = some (r1, r2, r3) := H
 have A2 := Aside0.mk A20
 clear A20
 by_cases c3 : t193 < 0
 ·rw [if_pos c3] at H
  have c3b0 : decide (t193 < 0) = true := decide_eq_true c3
  clear c3
  simp only [Option.some.injEq, Prod.mk.injEq] at H
  obtain ⟨rfl, rfl, rfl⟩ := H
  go_enter Tryd.func50, Tryd.ntmps50
  go_wp2_with (first | ((with_reducible refine gate_callee (f := 30) rfl ?_); refine goesL_ (some 7) rfl rfl Tryd.func30 (by kernel_rfl) rfl #[.string (⟨#[40, 41, 91, 93, 123, 125]⟩ : ByteArray), .int .u8 a0] rfl (by (try simp only [List.map_toArray, List.map_cons, List.map_nil]); first | done | rfl | (simp only [List.length_drop, List.length_take]; rfl)) ?_; (with_reducible refine (strings_IndexByte.calls (⟨#[40, 41, 91, 93, 123, 125]⟩ : ByteArray) a0 t193 _ A2.out).mono ?_); rintro e w' ⟨rfl, ⟨nd, rfl⟩⟩; refine ⟨_, rfl, ?_⟩))
  go_ret3
  exact ⟨by first | rfl | (simp; done) | (simp [*]; done), by repeat (first | exact Drawn0.refl _ | apply Drawn0.step)⟩
 ·rw [if_neg c3] at H
  have c3b0 : decide (t193 < 0) = false := decide_eq_false c3
  clear c3
  by_cases c4 : 0 ≤ (Go.bits .xor .i64 t193 1)
  ·rw [if_pos c4] at H
   have c4b0 : decide (0 ≤ (Go.bits .xor .i64 t193 1)) = true := decide_eq_true c4
   clear c4
   by_cases c5 : (Go.bits .xor .i64 t193 1) < 6
   ·rw [if_pos c5] at H
    have c5b0 : decide ((Go.bits .xor .i64 t193 1) < 6) = true := decide_eq_true c5
    clear c5
    simp only [Option.some.injEq, Prod.mk.injEq] at H
    obtain ⟨rfl, rfl, rfl⟩ := H
    go_enter Tryd.func50, Tryd.ntmps50
    go_wp2_with (first | ((with_reducible refine gate_callee (f := 30) rfl ?_); refine goesL_ (some 7) rfl rfl Tryd.func30 (by kernel_rfl) rfl #[.string (⟨#[40, 41, 91, 93, 123, 125]⟩ : ByteArray), .int .u8 a0] rfl (by (try simp only [List.map_toArray, List.map_cons, List.map_nil]); first | done | rfl | (simp only [List.length_drop, List.length_take]; rfl)) ?_; (with_reducible refine (strings_IndexByte.calls (⟨#[40, 41, 91, 93, 123, 125]⟩ : ByteArray) a0 t193 _ A2.out).mono ?_); rintro e w' ⟨rfl, ⟨nd, rfl⟩⟩; refine ⟨_, rfl, ?_⟩; have p6 : 0 ≤ ((Go.bits .xor .i64 t193 1) : Int) := of_decide_eq_true (by first | (with_reducible assumption) | assumption); have q6 : (Go.bits .xor .i64 t193 1) < (6 : Int) := of_decide_eq_true (by first | (with_reducible assumption) | assumption); have hx6 := bt_at (⟨#[40, 41, 91, 93, 123, 125]⟩ : ByteArray) (Go.bits .xor .i64 t193 1); replace p6 := eq_true p6; replace q6 := eq_true q6))
    go_ret3
    exact ⟨by first | rfl | (simp; done) | (simp [*]; done), by repeat (first | exact Drawn0.refl _ | apply Drawn0.step)⟩
   ·rw [if_neg c5] at H
    exact absurd H (by simp)
  ·rw [if_neg c4] at H
   exact absurd H (by simp)

end Go.Proofs.YtcochbkdgjgaeaaDoor.X
