-- Written by wip/xprint.py over the kit's print.py: the Lean function of each Go function, and the proof that the Go text comes to it.
import Derived.Test.YtofkcdnkbjpmmaaX0
import Derived.Test.YtofkcdnkbjpmmaaX33
namespace Go.Proofs.Ytofkcdnkbjpmmaa.X
open Go.RowKit Go.Proofs.YtofkcdnkbjpmmaaW.PrintWords Go.Proofs.YtofkcdnkbjpmmaaW.PrintLast Go.Proofs.YtofkcdnkbjpmmaaW.PrintMore
attribute [local go_sem] max2_int min2_int max_two min_two max_three min_three max_four min_four   -- for this text's walks alone
set_option linter.unusedVariables false
set_option linter.unusedSimpArgs false

/-! ### quoinref05_Rest: function 51 -/
def quoinref05_Rest.f (k : Nat) (l0 : List Int) (a1 : Int) : Option (Int) := if (mn (mx a1 0) (l0.length : Int)) < (l0.length : Int) then (if 0 ≤ (mn (mx a1 0) (l0.length : Int)) then (if (rd l0 (mn (mx a1 0) (l0.length : Int))) = 10 then ((quoinref05_begin.f k l0 (mn (mx a1 0) (l0.length : Int))).bind fun t325 => (if (mn (mx a1 0) (l0.length : Int)) = t325 then (some (mn (mx a1 0) (l0.length : Int))) else (some (wrap64 ((mn (mx a1 0) (l0.length : Int)) - 1))))) else (some (mn (mx a1 0) (l0.length : Int)))) else (none)) else ((quoinref05_begin.f k l0 (mn (mx a1 0) (l0.length : Int))).bind fun t326 => (if (mn (mx a1 0) (l0.length : Int)) = t326 then (some (mn (mx a1 0) (l0.length : Int))) else (some (wrap64 ((mn (mx a1 0) (l0.length : Int)) - 1)))))
theorem quoinref05_Rest.mono : ∀ a0 a1 k, LeO (quoinref05_Rest.f k a0 a1) (quoinref05_Rest.f (k + 1) a0 a1) := by
 intro a0 a1 k
 unfold quoinref05_Rest.f
 repeat' first
   | (with_reducible exact quoinref05_begin.mono _ _ _)
   | (with_reducible exact LeO.refl _)
   | (with_reducible exact LeO.none _)
   | (with_reducible refine LeO.ite ?_ ?_)
   | (with_reducible refine LeO.bind ?_ (fun _ => ?_))
   | exact quoinref05_begin.mono _ _ _
   | exact LeO.none _
   | refine LeO.ite ?_ ?_
   | refine LeO.bind ?_ (fun _ => ?_)
set_option maxHeartbeats 8000000 in
set_option maxRecDepth 100000 in
theorem quoinref05_Rest.calls (k : Nat) (A0 : Option Addr) (c0 : Nat) (l0 : List Int) (a1 : Int) (r : Int) (w : World) (hr0 : Kd.C (Kd.int .u8) w A0 l0.length l0) (hc0 : l0.length ≤ c0) (h : quoinref05_Rest.f k l0 a1 = some r) :
  Calls Try.prog 51 #[.slice A0 l0.length c0, .int .i64 a1] w fun e w' => e = .returned (.int .i64 r) ∧ Below w.heap.size w w' := by
 have HR0 := Aside0.mk hr0
 have HC0 := Aside0.mk hc0
 clear hr0 hc0
 have HB := Aside0.mk (Below.refl w.heap.size w)
 have H : (if (mn (mx a1 0) (l0.length : Int)) < (l0.length : Int) then (if 0 ≤ (mn (mx a1 0) (l0.length : Int)) then (if (rd l0 (mn (mx a1 0) (l0.length : Int))) = 10 then ((quoinref05_begin.f k l0 (mn (mx a1 0) (l0.length : Int))).bind fun t325 => (if (mn (mx a1 0) (l0.length : Int)) = t325 then (some (mn (mx a1 0) (l0.length : Int))) else (some (wrap64 ((mn (mx a1 0) (l0.length : Int)) - 1))))) else (some (mn (mx a1 0) (l0.length : Int)))) else (none)) else ((quoinref05_begin.f k l0 (mn (mx a1 0) (l0.length : Int))).bind fun t326 => (if (mn (mx a1 0) (l0.length : Int)) = t326 then (some (mn (mx a1 0) (l0.length : Int))) else (some (wrap64 ((mn (mx a1 0) (l0.length : Int)) - 1)))))) = some r := h
 clear h
 obtain ⟨ji3, hji3⟩ : ∃ j_ : Int, (mx a1 0) = j_ := ⟨_, rfl⟩
 replace H : (if (mn (ji3) (l0.length : Int)) < (l0.length : Int) then (if 0 ≤ (mn (ji3) (l0.length : Int)) then (if (rd l0 (mn (ji3) (l0.length : Int))) = 10 then ((quoinref05_begin.f k l0 (mn (ji3) (l0.length : Int))).bind fun t325 => (if (mn (ji3) (l0.length : Int)) = t325 then (some (mn (ji3) (l0.length : Int))) else (some (wrap64 ((mn (ji3) (l0.length : Int)) - 1))))) else (some (mn (ji3) (l0.length : Int)))) else (none)) else ((quoinref05_begin.f k l0 (mn (ji3) (l0.length : Int))).bind fun t326 => (if (mn (ji3) (l0.length : Int)) = t326 then (some (mn (ji3) (l0.length : Int))) else (some (wrap64 ((mn (ji3) (l0.length : Int)) - 1)))))) = some r := by first | (rw [hji3] at H; exact H) | (simp only [hji3] at H ⊢; exact H)
 (try (have hji3l : 0 ≤ ji3 := by (rw [← hji3]; unfold mx; (repeat' split) <;> omega)))
 (try (have hji3m : 0 ≤ ji3 := by omega))
 have hji3_ : (if a1 < 0 then 0 else a1) = ji3 := hji3
 obtain ⟨ji4, hji4⟩ : ∃ j_ : Int, (mn (ji3) (l0.length : Int)) = j_ := ⟨_, rfl⟩
 replace H : (if (ji4) < (l0.length : Int) then (if 0 ≤ (ji4) then (if (rd l0 (ji4)) = 10 then ((quoinref05_begin.f k l0 (ji4)).bind fun t325 => (if (ji4) = t325 then (some ji4) else (some (wrap64 ((ji4) - 1))))) else (some ji4)) else (none)) else ((quoinref05_begin.f k l0 (ji4)).bind fun t326 => (if (ji4) = t326 then (some ji4) else (some (wrap64 ((ji4) - 1)))))) = some r := by first | (rw [hji4] at H; exact H) | (simp only [hji4] at H ⊢; exact H)
 have hji4_ : (if (l0.length : Int) < (ji3) then (l0.length : Int) else (ji3)) = ji4 := hji4
 by_cases c5 : (ji4) < (l0.length : Int)
 ·rw [if_pos c5] at H
  have c5b0 : decide ((ji4) < (l0.length : Int)) = true := decide_eq_true c5
  clear c5
  by_cases c6 : 0 ≤ (ji4)
  ·rw [if_pos c6] at H
   have c6b0 : decide (0 ≤ (ji4)) = true := decide_eq_true c6
   clear c6
   by_cases c7 : (rd l0 (ji4)) = 10
   ·rw [if_pos c7] at H
    have c7b0 : ((rd l0 (ji4)) == 10) = true := beq_iff_eq.mpr c7
    have c7b1 : ((rd l0 (ji4)) != 10) = false := bne_eq_false_iff_eq.mpr c7
    clear c7
    replace H := Option.bind_eq_some_iff.mp H
    obtain ⟨t325, A80, H⟩ := H
    replace H : (if (ji4) = t325 then (some ji4) else (some (wrap64 ((ji4) - 1)))) = some r := H
    have A8 := Aside0.mk A80
    clear A80
    by_cases c9 : (ji4) = t325
    ·rw [if_pos c9] at H
     have c9b0 : ((ji4) == t325) = true := beq_iff_eq.mpr c9
     have c9b1 : ((ji4) != t325) = false := bne_eq_false_iff_eq.mpr c9
     clear c9
     obtain rfl := Option.some.inj H
     have p324 : 0 ≤ ((ji4) : Int) := of_decide_eq_true (by first | (with_reducible assumption) | assumption)
     have q324 : (ji4) < (l0.length : Int) := of_decide_eq_true (by first | (with_reducible assumption) | assumption)
     obtain ⟨ad324, e324, hx324_0⟩ := Kd.at_int HR0.out (ji4) p324 q324
     cases e324
     replace p324 := eq_true p324
     replace q324 := eq_true q324
     go_enter Try.func51, Try.ntmps51
     go_wp2_with (first | (go_at_call 50; (with_reducible refine (quoinref05_begin.calls k _ _ l0 ji4 t325 _ ?side1 ?side2 A8.out).mono ?_); (case side1 => repeat (first | exact HR0.out | (with_reducible refine Kd.C_alloc ?_ _) | (with_reducible refine Kd.C_drewN ?_ _) | (with_reducible refine Kd.C_drew ?_))); (case side2 => exact HC0.out); rintro e w' ⟨rfl, ⟨nd, rfl⟩⟩))
     go_ret
     exact ⟨by first | rfl | (simp [errW_none, errW_some] <;> rfl) | (simp only [← hji3, ← hji4]; first | rfl | (simp [errW_none, errW_some] <;> rfl)) | (simp [*, errW_none, errW_some] <;> rfl), by repeat (first | (with_reducible first | exact HB.out | apply below_alloc | apply pw_below_drewN | apply below_drew1) | exact HB.out)⟩
    ·rw [if_neg c9] at H
     have c9b0 : ((ji4) == t325) = false := beq_eq_false_iff_ne.mpr c9
     have c9b1 : ((ji4) != t325) = true := bne_iff_ne.mpr c9
     obtain rfl := Option.some.inj H
     have p324 : 0 ≤ ((ji4) : Int) := of_decide_eq_true (by first | (with_reducible assumption) | assumption)
     have q324 : (ji4) < (l0.length : Int) := of_decide_eq_true (by first | (with_reducible assumption) | assumption)
     obtain ⟨ad324, e324, hx324_0⟩ := Kd.at_int HR0.out (ji4) p324 q324
     cases e324
     replace p324 := eq_true p324
     replace q324 := eq_true q324
     go_enter Try.func51, Try.ntmps51
     go_wp2_with (first | (go_at_call 50; (with_reducible refine (quoinref05_begin.calls k _ _ l0 ji4 t325 _ ?side1 ?side2 A8.out).mono ?_); (case side1 => repeat (first | exact HR0.out | (with_reducible refine Kd.C_alloc ?_ _) | (with_reducible refine Kd.C_drewN ?_ _) | (with_reducible refine Kd.C_drew ?_))); (case side2 => exact HC0.out); rintro e w' ⟨rfl, ⟨nd, rfl⟩⟩))
     go_ret
     exact ⟨by first | rfl | (simp [errW_none, errW_some] <;> rfl) | (simp only [← hji3, ← hji4]; first | rfl | (simp [errW_none, errW_some] <;> rfl)) | (simp [*, errW_none, errW_some] <;> rfl), by repeat (first | (with_reducible first | exact HB.out | apply below_alloc | apply pw_below_drewN | apply below_drew1) | exact HB.out)⟩
   ·rw [if_neg c7] at H
    have c7b0 : ((rd l0 (ji4)) == 10) = false := beq_eq_false_iff_ne.mpr c7
    have c7b1 : ((rd l0 (ji4)) != 10) = true := bne_iff_ne.mpr c7
    obtain rfl := Option.some.inj H
    have p324 : 0 ≤ ((ji4) : Int) := of_decide_eq_true (by first | (with_reducible assumption) | assumption)
    have q324 : (ji4) < (l0.length : Int) := of_decide_eq_true (by first | (with_reducible assumption) | assumption)
    obtain ⟨ad324, e324, hx324_0⟩ := Kd.at_int HR0.out (ji4) p324 q324
    cases e324
    replace p324 := eq_true p324
    replace q324 := eq_true q324
    go_enter Try.func51, Try.ntmps51
    go_wp2
    go_ret
    exact ⟨by first | rfl | (simp [errW_none, errW_some] <;> rfl) | (simp only [← hji3, ← hji4]; first | rfl | (simp [errW_none, errW_some] <;> rfl)) | (simp [*, errW_none, errW_some] <;> rfl), by repeat (first | (with_reducible first | exact HB.out | apply below_alloc | apply pw_below_drewN | apply below_drew1) | exact HB.out)⟩
  ·rw [if_neg c6] at H
   exact absurd H (by simp)
 ·rw [if_neg c5] at H
  have c5b0 : decide ((ji4) < (l0.length : Int)) = false := decide_eq_false c5
  clear c5
  replace H := Option.bind_eq_some_iff.mp H
  obtain ⟨t326, A100, H⟩ := H
  replace H : (if (ji4) = t326 then (some ji4) else (some (wrap64 ((ji4) - 1)))) = some r := H
  have A10 := Aside0.mk A100
  clear A100
  by_cases c11 : (ji4) = t326
  ·rw [if_pos c11] at H
   have c11b0 : ((ji4) == t326) = true := beq_iff_eq.mpr c11
   have c11b1 : ((ji4) != t326) = false := bne_eq_false_iff_eq.mpr c11
   clear c11
   obtain rfl := Option.some.inj H
   go_enter Try.func51, Try.ntmps51
   go_wp2_with (first | (go_at_call 50; (with_reducible refine (quoinref05_begin.calls k _ _ l0 ji4 t326 _ ?side1 ?side2 A10.out).mono ?_); (case side1 => repeat (first | exact HR0.out | (with_reducible refine Kd.C_alloc ?_ _) | (with_reducible refine Kd.C_drewN ?_ _) | (with_reducible refine Kd.C_drew ?_))); (case side2 => exact HC0.out); rintro e w' ⟨rfl, ⟨nd, rfl⟩⟩))
   go_ret
   exact ⟨by first | rfl | (simp [errW_none, errW_some] <;> rfl) | (simp only [← hji3, ← hji4]; first | rfl | (simp [errW_none, errW_some] <;> rfl)) | (simp [*, errW_none, errW_some] <;> rfl), by repeat (first | (with_reducible first | exact HB.out | apply below_alloc | apply pw_below_drewN | apply below_drew1) | exact HB.out)⟩
  ·rw [if_neg c11] at H
   have c11b0 : ((ji4) == t326) = false := beq_eq_false_iff_ne.mpr c11
   have c11b1 : ((ji4) != t326) = true := bne_iff_ne.mpr c11
   obtain rfl := Option.some.inj H
   go_enter Try.func51, Try.ntmps51
   go_wp2_with (first | (go_at_call 50; (with_reducible refine (quoinref05_begin.calls k _ _ l0 ji4 t326 _ ?side1 ?side2 A10.out).mono ?_); (case side1 => repeat (first | exact HR0.out | (with_reducible refine Kd.C_alloc ?_ _) | (with_reducible refine Kd.C_drewN ?_ _) | (with_reducible refine Kd.C_drew ?_))); (case side2 => exact HC0.out); rintro e w' ⟨rfl, ⟨nd, rfl⟩⟩))
   go_ret
   exact ⟨by first | rfl | (simp [errW_none, errW_some] <;> rfl) | (simp only [← hji3, ← hji4]; first | rfl | (simp [errW_none, errW_some] <;> rfl)) | (simp [*, errW_none, errW_some] <;> rfl), by repeat (first | (with_reducible first | exact HB.out | apply below_alloc | apply pw_below_drewN | apply below_drew1) | exact HB.out)⟩

end Go.Proofs.Ytofkcdnkbjpmmaa.X
