-- Written by wip/xprint.py over the kit's print.py: the Lean function of each Go function, and the proof that the Go text comes to it.
import Derived.Test.YtofkcdnkbjpmmaaX0
import Derived.Test.YtofkcdnkbjpmmaaX26
namespace Go.Proofs.Ytofkcdnkbjpmmaa.X
open Go.RowKit Go.Proofs.YtofkcdnkbjpmmaaW.PrintWords Go.Proofs.YtofkcdnkbjpmmaaW.PrintLast Go.Proofs.YtofkcdnkbjpmmaaW.PrintMore
attribute [local go_sem] max2_int min2_int max_two min_two max_three min_three max_four min_four   -- for this text's walks alone
set_option linter.unusedVariables false
set_option linter.unusedSimpArgs false

/-! ### quoinref05_Of: function 21 -/
def quoinref05_Of.f (k : Nat) (l0 : List Int) (a1 : Int) : Option (Int × Int) := if a1 < 0 then (some (0, 2)) else (if a1 > (l0.length : Int) then (some (0, 2)) else (if 0 ≤ a1 then (if a1 ≤ (l0.length : Int) then ((quoinref05_Count.f k (l0.take (a1 : Int).toNat)).bind fun t299 => (some (wrap64 (t299 - 1), 0))) else (none)) else (none)))
theorem quoinref05_Of.mono : ∀ a0 a1 k, LeO (quoinref05_Of.f k a0 a1) (quoinref05_Of.f (k + 1) a0 a1) := by
 intro a0 a1 k
 unfold quoinref05_Of.f
 repeat' first
   | (with_reducible exact quoinref05_Count.mono _ _)
   | (with_reducible exact LeO.refl _)
   | (with_reducible exact LeO.none _)
   | (with_reducible refine LeO.ite ?_ ?_)
   | (with_reducible refine LeO.bind ?_ (fun _ => ?_))
   | exact quoinref05_Count.mono _ _
   | exact LeO.none _
   | refine LeO.ite ?_ ?_
   | refine LeO.bind ?_ (fun _ => ?_)
set_option maxHeartbeats 8000000 in
set_option maxRecDepth 100000 in
theorem quoinref05_Of.calls (k : Nat) (A0 : Option Addr) (c0 : Nat) (l0 : List Int) (a1 : Int) (r1 : Int) (r2 : Int) (w : World) (hr0 : Kd.C (Kd.int .u8) w A0 l0.length l0) (hc0 : l0.length ≤ c0) (h : quoinref05_Of.f k l0 a1 = some (r1, r2)) :
  Calls Try.prog 21 #[.slice A0 l0.length c0, .int .i64 a1] w fun e w' => e = .returned (.tuple #[.int .i64 r1, .int .i64 r2]) ∧ Drawn0 w w' := by
 have HR0 := Aside0.mk hr0
 have HC0 := Aside0.mk hc0
 clear hr0 hc0
 have H : (if a1 < 0 then (some (0, 2)) else (if a1 > (l0.length : Int) then (some (0, 2)) else (if 0 ≤ a1 then (if a1 ≤ (l0.length : Int) then ((quoinref05_Count.f k (l0.take (a1 : Int).toNat)).bind fun t299 => (some (wrap64 (t299 - 1), 0))) else (none)) else (none)))) = some (r1, r2) := h
 clear h
 by_cases c3 : a1 < 0
 ·rw [if_pos c3] at H
  have c3b0 : decide (a1 < 0) = true := decide_eq_true c3
  clear c3
  simp only [Option.some.injEq, Prod.mk.injEq] at H
  obtain ⟨rfl, rfl⟩ := H
  go_enter Try.func21, Try.ntmps21
  go_wp2
  go_ret2
  exact ⟨by first | rfl | (simp; done) | (simp [*]; done), by repeat (first | exact Drawn0.refl _ | apply Drawn0.step)⟩
 ·rw [if_neg c3] at H
  have c3b0 : decide (a1 < 0) = false := decide_eq_false c3
  clear c3
  by_cases c4 : a1 > (l0.length : Int)
  ·rw [if_pos c4] at H
   have c4b0 : decide ((l0.length : Int) < a1) = true := decide_eq_true c4
   clear c4
   simp only [Option.some.injEq, Prod.mk.injEq] at H
   obtain ⟨rfl, rfl⟩ := H
   go_enter Try.func21, Try.ntmps21
   go_wp2
   go_ret2
   exact ⟨by first | rfl | (simp; done) | (simp [*]; done), by repeat (first | exact Drawn0.refl _ | apply Drawn0.step)⟩
  ·rw [if_neg c4] at H
   have c4b0 : decide ((l0.length : Int) < a1) = false := decide_eq_false c4
   clear c4
   by_cases c5 : 0 ≤ a1
   ·rw [if_pos c5] at H
    have c5b0 := eq_true c5
    have c5b1 : decide (0 ≤ a1) = true := decide_eq_true c5
    clear c5
    by_cases c6 : a1 ≤ (l0.length : Int)
    ·rw [if_pos c6] at H
     have c6b0 := eq_true c6
     have c6b1 : decide (a1 ≤ (l0.length : Int)) = true := decide_eq_true c6
     clear c6
     replace H := Option.bind_eq_some_iff.mp H
     obtain ⟨t299, A70, H⟩ := H
     replace H : (some (wrap64 (t299 - 1), 0)) = some (r1, r2) := H
     have A7 := Aside0.mk A70
     clear A70
     simp only [Option.some.injEq, Prod.mk.injEq] at H
     obtain ⟨rfl, rfl⟩ := H
     obtain ⟨i08, hi08, _, hsz8, _⟩ := info_parts info5
     obtain ⟨hcut8, hA8, hC8⟩ := print_take_of (P := Try.prog) (Value.int .u8) 0 22 5 .i64 Try.underlying22 hi08 hsz8 A0 c0 l0 a1 (of_decide_eq_true (by first | (with_reducible assumption) | assumption)) (of_decide_eq_true (by first | (with_reducible assumption) | assumption)) HC0.out
     have HR298 := Aside0.mk (Kd.C_of_reads (h1 := fun _ => rfl) (hA8 _ (Kd.reads_of_C HR0.out)))
     have HC298 := Aside0.mk hC8
     clear hA8 hC8 hi08 hsz8
     go_enter Try.func21, Try.ntmps21
     go_wp2_with (first | ((with_reducible refine gate_callee (f := 22) rfl ?_); refine goesL_ (some 17) rfl rfl Try.func22 (by kernel_rfl) rfl #[.slice A0 (l0.take (a1 : Int).toNat).length c0] rfl (by (try simp only [List.map_toArray, List.map_cons, List.map_nil]); first | done | (rw [show (l0.take (a1 : Int).toNat).length = a1.toNat from (by rw [List.length_take]; have h_ : (a1 : Int) ≤ (l0.length : Int) := of_decide_eq_true (by first | (with_reducible assumption) | assumption); omega)] <;> rfl) | rfl | (simp only [List.length_drop, List.length_take]; rfl)) ?_; (with_reducible refine (quoinref05_Count.calls k _ _ (l0.take (a1 : Int).toNat) t299 _ ?side1 ?side2 A7.out).mono ?_); (case side1 => repeat (first | exact HR298.out | (with_reducible refine Kd.C_alloc ?_ _) | (with_reducible refine Kd.C_drewN ?_ _) | (with_reducible refine Kd.C_drew ?_))); (case side2 => exact HC298.out); rintro e w' ⟨rfl, ⟨nd, rfl⟩⟩; refine ⟨_, rfl, ?_⟩))
     go_ret2
     exact ⟨by first | rfl | (simp; done) | (simp [*]; done), by repeat (first | exact Drawn0.refl _ | apply Drawn0.step)⟩
    ·rw [if_neg c6] at H
     exact absurd H (by simp)
   ·rw [if_neg c5] at H
    exact absurd H (by simp)

end Go.Proofs.Ytofkcdnkbjpmmaa.X
