-- Written by wip/xprint.py over the kit's print.py: the Lean function of each Go function, and the proof that the Go text comes to it.
import Derived.Test.YtcochbkdgjgaeaaDoorX0
namespace Go.Proofs.YtcochbkdgjgaeaaDoor.X
open Go.RowKit Go.Proofs.YtcochbkdgjgaeaaDoorW.PrintWords Go.Proofs.YtcochbkdgjgaeaaDoorW.PrintLast Go.Proofs.YtcochbkdgjgaeaaDoorW.PrintMore
attribute [local go_sem] max2_int min2_int max_two min_two max_three min_three max_four min_four   -- for this text's walks alone
set_option linter.unusedVariables false
set_option linter.unusedSimpArgs false

/-! ### object_taken: function 47 -/
def object_taken.l0 : Nat → List (S76) → Int → Int → Int → Option (Int × Int × Bool)
 | 0, _, _, _, _ => none
 | k + 1, x0, x1, x2, x11 => if x2 > 0 then (if x1 ≥ (x0.length : Int) then (some (0, 0, false)) else (if 0 ≤ x1 then (if x1 < (x0.length : Int) then (if (rd_T76 x0 x1).f2 = true then (if (wrap64 (x1 + 1)) ≥ (x0.length : Int) then (some (0, 0, false)) else (object_taken.l0 k x0 (wrap64 (x1 + 2)) (wrap64 (x2 - 1)) x11)) else (if (wrap64 (x1 + 1)) < (x0.length : Int) then (if 0 ≤ (wrap64 (x1 + 1)) then (if (rd_T76 x0 (wrap64 (x1 + 1))).f2 = true then (if 0 ≤ x11 then (if x11 < (x0.length : Int) then (if ((rd_T76 x0 x11).f2 = true) then (object_taken.l0 k x0 (wrap64 (x1 + 1)) (wrap64 (x2 - 1)) x11) else (object_taken.l0 k x0 (wrap64 ((wrap64 (x1 + 1)) + 1)) (wrap64 (x2 - 1)) x11)) else (none)) else (none)) else (object_taken.l0 k x0 (wrap64 (x1 + 1)) (wrap64 (x2 - 1)) x11)) else (none)) else (object_taken.l0 k x0 (wrap64 (x1 + 1)) (wrap64 (x2 - 1)) x11))) else (none)) else (none))) else (if x11 > 0 then (if 0 ≤ x11 then (if x11 < (x0.length : Int) then (if ((rd_T76 x0 x11).f2 = true) then (some (x11, x1, true)) else (if 0 ≤ (wrap64 (x1 - 1)) then (if (wrap64 (x1 - 1)) < (x0.length : Int) then (if ((rd_T76 x0 (wrap64 (x1 - 1))).f2 = true) then (some (x11, x1, true)) else (if 0 ≤ (wrap64 (x11 - 1)) then (if (wrap64 (x11 - 1)) < (x0.length : Int) then (if (rd_T76 x0 (wrap64 (x11 - 1))).f2 = true then (some (wrap64 (x11 - 1), x1, true)) else (some (x11, x1, true))) else (none)) else (none))) else (none)) else (none))) else (none)) else (none)) else (some (x11, x1, true)))
def object_taken.f (k : Nat) (l0 : List (S76)) (a1 : Int) (a2 : Int) (a3 : Bool) : Option (Int × Int × Bool) := if a3 = true then (object_taken.l0 k l0 a1 a2 a1) else (some (a1, wrap64 (a1 + a2), decide ((wrap64 (a1 + a2)) ≤ (l0.length : Int))))
theorem object_taken.mono_l : ∀ k, (∀ y0 y1 y2 y3, LeO (object_taken.l0 k y0 y1 y2 y3) (object_taken.l0 (k + 1) y0 y1 y2 y3))
 | 0 => fun _ _ _ _ r h => by simp [object_taken.l0] at h
 | k + 1 => by
  have ih0 := object_taken.mono_l k
  ·intro y0 y1 y2 y3
   unfold object_taken.l0
   repeat' first
   | (with_reducible exact ih0 _ _ _ _)
   | (with_reducible exact LeO.refl _)
   | (with_reducible exact LeO.none _)
   | (with_reducible refine LeO.ite ?_ ?_)
   | (with_reducible refine LeO.bind ?_ (fun _ => ?_))
   | exact ih0 _ _ _ _
   | exact LeO.none _
   | refine LeO.ite ?_ ?_
   | refine LeO.bind ?_ (fun _ => ?_)
theorem object_taken.mono : ∀ a0 a1 a2 a3 k, LeO (object_taken.f k a0 a1 a2 a3) (object_taken.f (k + 1) a0 a1 a2 a3) := by
 intro a0 a1 a2 a3 k
 have ih0 := object_taken.mono_l k
 unfold object_taken.f
 repeat' first
   | (with_reducible exact ih0 _ _ _ _)
   | (with_reducible exact LeO.refl _)
   | (with_reducible exact LeO.none _)
   | (with_reducible refine LeO.ite ?_ ?_)
   | (with_reducible refine LeO.bind ?_ (fun _ => ?_))
   | exact ih0 _ _ _ _
   | exact LeO.none _
   | refine LeO.ite ?_ ?_
   | refine LeO.bind ?_ (fun _ => ?_)
set_option maxHeartbeats 8000000 in
set_option maxRecDepth 100000 in
theorem object_taken.calls (k : Nat) (A0 : Option Addr) (c0 : Nat) (l0 : List (S76)) (a1 : Int) (a2 : Int) (a3 : Bool) (r1 : Int) (r2 : Int) (r3 : Bool) (w : World) (hr0 : Kd.C k76 w A0 l0.length l0) (hc0 : l0.length ≤ c0) (h : object_taken.f k l0 a1 a2 a3 = some (r1, r2, r3)) :
  Calls Tryd.prog 47 #[.slice A0 l0.length c0, .int .i64 a1, .int .i64 a2, .bool a3] w fun e w' => e = .returned (.tuple #[.int .i64 r1, .int .i64 r2, .bool r3]) ∧ Drawn0 w w' := by
 have HR0 := Aside0.mk hr0
 have HC0 := Aside0.mk hc0
 clear hr0 hc0
 have H : (if a3 = true then (object_taken.l0 k l0 a1 a2 a1) else (some (a1, wrap64 (a1 + a2), decide ((wrap64 (a1 + a2)) ≤ (l0.length : Int))))) = some (r1, r2, r3) := h
 clear h
 by_cases c5 : a3 = true
 ·subst c5
  have H1 : (object_taken.l0 k l0 a1 a2 a1) = some (r1, r2, r3) := by rw [if_pos rfl] at H; exact H
  clear H
  have H := H1
  clear H1
  have H' := Aside0.mk H
  clear H
  go_enter Tryd.func47, Tryd.ntmps47
  go_wp2
  go_loopg [1, 2] k (fun kq v1 v2 w' => ∃ (x1_1 : Int) (x2_1 : Int), v1 = .int .i64 x1_1 ∧ v2 = .int .i64 x2_1 ∧ Aside0 (object_taken.l0 kq l0 x1_1 x2_1 a1 = some (r1, r2, r3)) ∧ Aside0 (kq ≤ k) ∧ Drawn0 w w')
  case atStart => exact ⟨(a1), (a2), (by first | rfl | (simp; done) | (simp [*]; done)), (by first | rfl | (simp; done) | (simp [*]; done)), H', ⟨Nat.le_refl _⟩, by repeat (first | exact Drawn0.refl _ | apply Drawn0.step)⟩
  case round =>
   clear H'
   try clear p2
   try clear c4
   try clear c5
   obtain ⟨x1_1, x2_1, rfl, rfl, HA, HK1, ⟨m1, rfl⟩⟩ := hrel
   cases gk with
   | zero => exact absurd HA.out (by simp [object_taken.l0])
   | succ k1 =>
    have H := HA.out
    clear HA
    simp only [object_taken.l0] at H
    by_cases c6 : x2_1 > 0
    ·rw [if_pos c6] at H
     have c6b0 : decide (0 < x2_1) = true := decide_eq_true c6
     clear c6
     by_cases c7 : x1_1 ≥ (l0.length : Int)
     ·rw [if_pos c7] at H
      have c7b0 : decide ((l0.length : Int) ≤ x1_1) = true := decide_eq_true c7
      clear c7
      simp only [Option.some.injEq, Prod.mk.injEq] at H
      obtain ⟨rfl, rfl, rfl⟩ := H
      go_wp2
      go_ret3
      exact ⟨by first | rfl | (simp; done) | (simp [*]; done), by repeat (first | exact Drawn0.refl _ | apply Drawn0.step)⟩
     ·rw [if_neg c7] at H
      have c7b0 : decide ((l0.length : Int) ≤ x1_1) = false := decide_eq_false c7
      clear c7
      by_cases c8 : 0 ≤ x1_1
      ·rw [if_pos c8] at H
       have c8b0 : decide (0 ≤ x1_1) = true := decide_eq_true c8
       clear c8
       by_cases c9 : x1_1 < (l0.length : Int)
       ·rw [if_pos c9] at H
        have c9b0 : decide (x1_1 < (l0.length : Int)) = true := decide_eq_true c9
        clear c9
        obtain ⟨bq10, hbq10⟩ : ∃ b_ : Bool, b_ = ((rd_T76 l0 x1_1).f2) := ⟨_, rfl⟩
        replace H : (if bq10 = true then (if (wrap64 (x1_1 + 1)) ≥ (l0.length : Int) then (some (0, 0, false)) else (object_taken.l0 k1 l0 (wrap64 (x1_1 + 2)) (wrap64 (x2_1 - 1)) a1)) else (if (wrap64 (x1_1 + 1)) < (l0.length : Int) then (if 0 ≤ (wrap64 (x1_1 + 1)) then (if (rd_T76 l0 (wrap64 (x1_1 + 1))).f2 = true then (if 0 ≤ a1 then (if a1 < (l0.length : Int) then (if ((rd_T76 l0 a1).f2 = true) then (object_taken.l0 k1 l0 (wrap64 (x1_1 + 1)) (wrap64 (x2_1 - 1)) a1) else (object_taken.l0 k1 l0 (wrap64 ((wrap64 (x1_1 + 1)) + 1)) (wrap64 (x2_1 - 1)) a1)) else (none)) else (none)) else (object_taken.l0 k1 l0 (wrap64 (x1_1 + 1)) (wrap64 (x2_1 - 1)) a1)) else (none)) else (object_taken.l0 k1 l0 (wrap64 (x1_1 + 1)) (wrap64 (x2_1 - 1)) a1))) = some (r1, r2, r3) := by rw [← hbq10] at H; exact H
        have Nbq10 := Aside0.mk hbq10
        clear hbq10
        by_cases c11 : bq10 = true
        ·subst c11
         have H1 : (if (wrap64 (x1_1 + 1)) ≥ (l0.length : Int) then (some (0, 0, false)) else (object_taken.l0 k1 l0 (wrap64 (x1_1 + 2)) (wrap64 (x2_1 - 1)) a1)) = some (r1, r2, r3) := by rw [if_pos rfl] at H; exact H
         clear H
         have H := H1
         clear H1
         by_cases c12 : (wrap64 (x1_1 + 1)) ≥ (l0.length : Int)
         ·rw [if_pos c12] at H
          have c12b0 : decide ((l0.length : Int) ≤ (wrap64 (x1_1 + 1))) = true := decide_eq_true c12
          clear c12
          simp only [Option.some.injEq, Prod.mk.injEq] at H
          obtain ⟨rfl, rfl, rfl⟩ := H
          have p129 : 0 ≤ (x1_1 : Int) := of_decide_eq_true (by first | (with_reducible assumption) | assumption)
          have q129 : x1_1 < (l0.length : Int) := of_decide_eq_true (by first | (with_reducible assumption) | assumption)
          obtain ⟨ad129, e129, hx129_0, hx129_1, hx129_2⟩ := at_T76 HR0.out x1_1 p129 q129
          (try rw [← Nbq10.out] at hx129_2)
          cases e129
          replace p129 := eq_true p129
          replace q129 := eq_true q129
          go_wp2
          go_ret3
          exact ⟨by first | rfl | (simp; done) | (simp [*]; done), by repeat (first | exact Drawn0.refl _ | apply Drawn0.step)⟩
         ·rw [if_neg c12] at H
          have c12b0 : decide ((l0.length : Int) ≤ (wrap64 (x1_1 + 1))) = false := decide_eq_false c12
          clear c12
          have H' := Aside0.mk H
          clear H
          have p129 : 0 ≤ (x1_1 : Int) := of_decide_eq_true (by first | (with_reducible assumption) | assumption)
          have q129 : x1_1 < (l0.length : Int) := of_decide_eq_true (by first | (with_reducible assumption) | assumption)
          obtain ⟨ad129, e129, hx129_0, hx129_1, hx129_2⟩ := at_T76 HR0.out x1_1 p129 q129
          (try rw [← Nbq10.out] at hx129_2)
          cases e129
          replace p129 := eq_true p129
          replace q129 := eq_true q129
          go_wp2
          go_roundg k1
          case measure => have := HK1.out; omega
          case rel => exact ⟨(wrap64 (x1_1 + 2)), (wrap64 (x2_1 - 1)), (by first | rfl | (simp; done) | (simp [*]; done)), (by first | rfl | (simp; done) | (simp [*]; done)), H', ⟨by have := HK1.out; omega⟩, by repeat (first | exact Drawn0.refl _ | apply Drawn0.step)⟩
        ·replace c11 := Bool.eq_false_iff.mpr c11
         subst c11
         have H1 : (if (wrap64 (x1_1 + 1)) < (l0.length : Int) then (if 0 ≤ (wrap64 (x1_1 + 1)) then (if (rd_T76 l0 (wrap64 (x1_1 + 1))).f2 = true then (if 0 ≤ a1 then (if a1 < (l0.length : Int) then (if ((rd_T76 l0 a1).f2 = true) then (object_taken.l0 k1 l0 (wrap64 (x1_1 + 1)) (wrap64 (x2_1 - 1)) a1) else (object_taken.l0 k1 l0 (wrap64 ((wrap64 (x1_1 + 1)) + 1)) (wrap64 (x2_1 - 1)) a1)) else (none)) else (none)) else (object_taken.l0 k1 l0 (wrap64 (x1_1 + 1)) (wrap64 (x2_1 - 1)) a1)) else (none)) else (object_taken.l0 k1 l0 (wrap64 (x1_1 + 1)) (wrap64 (x2_1 - 1)) a1)) = some (r1, r2, r3) := by rw [if_neg (show ¬ (false = true) by decide)] at H; exact H
         clear H
         have H := H1
         clear H1
         by_cases c13 : (wrap64 (x1_1 + 1)) < (l0.length : Int)
         ·rw [if_pos c13] at H
          have c13b0 : decide ((wrap64 (x1_1 + 1)) < (l0.length : Int)) = true := decide_eq_true c13
          clear c13
          obtain ⟨ji14, hji14⟩ : ∃ j_ : Int, (wrap64 (x1_1 + 1)) = j_ := ⟨_, rfl⟩
          replace H : (if 0 ≤ (ji14) then (if (rd_T76 l0 (ji14)).f2 = true then (if 0 ≤ a1 then (if a1 < (l0.length : Int) then (if ((rd_T76 l0 a1).f2 = true) then (object_taken.l0 k1 l0 ji14 (wrap64 (x2_1 - 1)) a1) else (object_taken.l0 k1 l0 (wrap64 ((ji14) + 1)) (wrap64 (x2_1 - 1)) a1)) else (none)) else (none)) else (object_taken.l0 k1 l0 ji14 (wrap64 (x2_1 - 1)) a1)) else (none)) = some (r1, r2, r3) := by first | (rw [hji14] at H; exact H) | (simp only [hji14] at H ⊢; exact H)
          (try rw [hji14] at c13b0)
          have hji14w : (IntKind.i64.wrap (x1_1 + 1)) = ji14 := (i64_w _).trans hji14
          by_cases c15 : 0 ≤ (ji14)
          ·rw [if_pos c15] at H
           have c15b0 : decide (0 ≤ (ji14)) = true := decide_eq_true c15
           clear c15
           obtain ⟨bq16, hbq16⟩ : ∃ b_ : Bool, b_ = ((rd_T76 l0 (ji14)).f2) := ⟨_, rfl⟩
           replace H : (if bq16 = true then (if 0 ≤ a1 then (if a1 < (l0.length : Int) then (if ((rd_T76 l0 a1).f2 = true) then (object_taken.l0 k1 l0 ji14 (wrap64 (x2_1 - 1)) a1) else (object_taken.l0 k1 l0 (wrap64 ((ji14) + 1)) (wrap64 (x2_1 - 1)) a1)) else (none)) else (none)) else (object_taken.l0 k1 l0 ji14 (wrap64 (x2_1 - 1)) a1)) = some (r1, r2, r3) := by rw [← hbq16] at H; exact H
           have Nbq16 := Aside0.mk hbq16
           clear hbq16
           by_cases c17 : bq16 = true
           ·subst c17
            have H1 : (if 0 ≤ a1 then (if a1 < (l0.length : Int) then (if ((rd_T76 l0 a1).f2 = true) then (object_taken.l0 k1 l0 ji14 (wrap64 (x2_1 - 1)) a1) else (object_taken.l0 k1 l0 (wrap64 ((ji14) + 1)) (wrap64 (x2_1 - 1)) a1)) else (none)) else (none)) = some (r1, r2, r3) := by rw [if_pos rfl] at H; exact H
            clear H
            have H := H1
            clear H1
            by_cases c18 : 0 ≤ a1
            ·rw [if_pos c18] at H
             have c18b0 : decide (0 ≤ a1) = true := decide_eq_true c18
             clear c18
             by_cases c19 : a1 < (l0.length : Int)
             ·rw [if_pos c19] at H
              have c19b0 : decide (a1 < (l0.length : Int)) = true := decide_eq_true c19
              clear c19
              obtain ⟨bq20, hbq20⟩ : ∃ b_ : Bool, b_ = ((rd_T76 l0 a1).f2) := ⟨_, rfl⟩
              replace H : (if (bq20 = true) then (object_taken.l0 k1 l0 ji14 (wrap64 (x2_1 - 1)) a1) else (object_taken.l0 k1 l0 (wrap64 ((ji14) + 1)) (wrap64 (x2_1 - 1)) a1)) = some (r1, r2, r3) := by rw [← hbq20] at H; exact H
              have Nbq20 := Aside0.mk hbq20
              clear hbq20
              by_cases c21 : (bq20 = true)
              ·subst c21
               have H1 : (object_taken.l0 k1 l0 ji14 (wrap64 (x2_1 - 1)) a1) = some (r1, r2, r3) := by rw [if_pos rfl] at H; exact H
               clear H
               have H := H1
               clear H1
               have H' := Aside0.mk H
               clear H
               have p129 : 0 ≤ (x1_1 : Int) := of_decide_eq_true (by first | (with_reducible assumption) | assumption)
               have q129 : x1_1 < (l0.length : Int) := of_decide_eq_true (by first | (with_reducible assumption) | assumption)
               obtain ⟨ad129, e129, hx129_0, hx129_1, hx129_2⟩ := at_T76 HR0.out x1_1 p129 q129
               (try rw [← Nbq10.out] at hx129_2)
               (try rw [← Nbq16.out] at hx129_2)
               (try rw [← Nbq20.out] at hx129_2)
               cases e129
               replace p129 := eq_true p129
               replace q129 := eq_true q129
               have p130 : 0 ≤ ((ji14) : Int) := of_decide_eq_true (by first | (with_reducible assumption) | assumption)
               have q130 : (ji14) < (l0.length : Int) := of_decide_eq_true (by first | (with_reducible assumption) | assumption)
               obtain ⟨ad130, e130, hx130_0, hx130_1, hx130_2⟩ := at_T76 HR0.out (ji14) p130 q130
               (try rw [← Nbq10.out] at hx130_2)
               (try rw [← Nbq16.out] at hx130_2)
               (try rw [← Nbq20.out] at hx130_2)
               obtain rfl : ad129 = ad130 := (by injection e130)
               replace p130 := eq_true p130
               replace q130 := eq_true q130
               have p131 : 0 ≤ (a1 : Int) := of_decide_eq_true (by first | (with_reducible assumption) | assumption)
               have q131 : a1 < (l0.length : Int) := of_decide_eq_true (by first | (with_reducible assumption) | assumption)
               obtain ⟨ad131, e131, hx131_0, hx131_1, hx131_2⟩ := at_T76 HR0.out a1 p131 q131
               (try rw [← Nbq10.out] at hx131_2)
               (try rw [← Nbq16.out] at hx131_2)
               (try rw [← Nbq20.out] at hx131_2)
               obtain rfl : ad129 = ad131 := (by injection e131)
               replace p131 := eq_true p131
               replace q131 := eq_true q131
               go_wp2
               go_roundg k1
               case measure => have := HK1.out; omega
               case rel => exact ⟨(ji14), (wrap64 (x2_1 - 1)), (by first | rfl | (simp; done) | (simp only [← hji14] <;> (first | rfl | simp)) | (simp [*]; done)), (by first | rfl | (simp; done) | (simp [*]; done)), H', ⟨by have := HK1.out; omega⟩, by repeat (first | exact Drawn0.refl _ | apply Drawn0.step)⟩
              ·replace c21 := Bool.eq_false_iff.mpr c21
               subst c21
               have H1 : (object_taken.l0 k1 l0 (wrap64 ((ji14) + 1)) (wrap64 (x2_1 - 1)) a1) = some (r1, r2, r3) := by rw [if_neg (show ¬ (false = true) by decide)] at H; exact H
               clear H
               have H := H1
               clear H1
               have H' := Aside0.mk H
               clear H
               have p129 : 0 ≤ (x1_1 : Int) := of_decide_eq_true (by first | (with_reducible assumption) | assumption)
               have q129 : x1_1 < (l0.length : Int) := of_decide_eq_true (by first | (with_reducible assumption) | assumption)
               obtain ⟨ad129, e129, hx129_0, hx129_1, hx129_2⟩ := at_T76 HR0.out x1_1 p129 q129
               (try rw [← Nbq10.out] at hx129_2)
               (try rw [← Nbq16.out] at hx129_2)
               (try rw [← Nbq20.out] at hx129_2)
               cases e129
               replace p129 := eq_true p129
               replace q129 := eq_true q129
               have p130 : 0 ≤ ((ji14) : Int) := of_decide_eq_true (by first | (with_reducible assumption) | assumption)
               have q130 : (ji14) < (l0.length : Int) := of_decide_eq_true (by first | (with_reducible assumption) | assumption)
               obtain ⟨ad130, e130, hx130_0, hx130_1, hx130_2⟩ := at_T76 HR0.out (ji14) p130 q130
               (try rw [← Nbq10.out] at hx130_2)
               (try rw [← Nbq16.out] at hx130_2)
               (try rw [← Nbq20.out] at hx130_2)
               obtain rfl : ad129 = ad130 := (by injection e130)
               replace p130 := eq_true p130
               replace q130 := eq_true q130
               have p131 : 0 ≤ (a1 : Int) := of_decide_eq_true (by first | (with_reducible assumption) | assumption)
               have q131 : a1 < (l0.length : Int) := of_decide_eq_true (by first | (with_reducible assumption) | assumption)
               obtain ⟨ad131, e131, hx131_0, hx131_1, hx131_2⟩ := at_T76 HR0.out a1 p131 q131
               (try rw [← Nbq10.out] at hx131_2)
               (try rw [← Nbq16.out] at hx131_2)
               (try rw [← Nbq20.out] at hx131_2)
               obtain rfl : ad129 = ad131 := (by injection e131)
               replace p131 := eq_true p131
               replace q131 := eq_true q131
               go_wp2
               go_roundg k1
               case measure => have := HK1.out; omega
               case rel => exact ⟨(wrap64 ((ji14) + 1)), (wrap64 (x2_1 - 1)), (by first | rfl | (simp; done) | (simp only [← hji14] <;> (first | rfl | simp)) | (simp [*]; done)), (by first | rfl | (simp; done) | (simp [*]; done)), H', ⟨by have := HK1.out; omega⟩, by repeat (first | exact Drawn0.refl _ | apply Drawn0.step)⟩
             ·rw [if_neg c19] at H
              exact absurd H (by simp)
            ·rw [if_neg c18] at H
             exact absurd H (by simp)
           ·replace c17 := Bool.eq_false_iff.mpr c17
            subst c17
            have H1 : (object_taken.l0 k1 l0 ji14 (wrap64 (x2_1 - 1)) a1) = some (r1, r2, r3) := by rw [if_neg (show ¬ (false = true) by decide)] at H; exact H
            clear H
            have H := H1
            clear H1
            have H' := Aside0.mk H
            clear H
            have p129 : 0 ≤ (x1_1 : Int) := of_decide_eq_true (by first | (with_reducible assumption) | assumption)
            have q129 : x1_1 < (l0.length : Int) := of_decide_eq_true (by first | (with_reducible assumption) | assumption)
            obtain ⟨ad129, e129, hx129_0, hx129_1, hx129_2⟩ := at_T76 HR0.out x1_1 p129 q129
            (try rw [← Nbq10.out] at hx129_2)
            (try rw [← Nbq16.out] at hx129_2)
            cases e129
            replace p129 := eq_true p129
            replace q129 := eq_true q129
            have p130 : 0 ≤ ((ji14) : Int) := of_decide_eq_true (by first | (with_reducible assumption) | assumption)
            have q130 : (ji14) < (l0.length : Int) := of_decide_eq_true (by first | (with_reducible assumption) | assumption)
            obtain ⟨ad130, e130, hx130_0, hx130_1, hx130_2⟩ := at_T76 HR0.out (ji14) p130 q130
            (try rw [← Nbq10.out] at hx130_2)
            (try rw [← Nbq16.out] at hx130_2)
            obtain rfl : ad129 = ad130 := (by injection e130)
            replace p130 := eq_true p130
            replace q130 := eq_true q130
            go_wp2
            go_roundg k1
            case measure => have := HK1.out; omega
            case rel => exact ⟨(ji14), (wrap64 (x2_1 - 1)), (by first | rfl | (simp; done) | (simp only [← hji14] <;> (first | rfl | simp)) | (simp [*]; done)), (by first | rfl | (simp; done) | (simp [*]; done)), H', ⟨by have := HK1.out; omega⟩, by repeat (first | exact Drawn0.refl _ | apply Drawn0.step)⟩
          ·rw [if_neg c15] at H
           exact absurd H (by simp)
         ·rw [if_neg c13] at H
          have c13b0 : decide ((wrap64 (x1_1 + 1)) < (l0.length : Int)) = false := decide_eq_false c13
          clear c13
          have H' := Aside0.mk H
          clear H
          have p129 : 0 ≤ (x1_1 : Int) := of_decide_eq_true (by first | (with_reducible assumption) | assumption)
          have q129 : x1_1 < (l0.length : Int) := of_decide_eq_true (by first | (with_reducible assumption) | assumption)
          obtain ⟨ad129, e129, hx129_0, hx129_1, hx129_2⟩ := at_T76 HR0.out x1_1 p129 q129
          (try rw [← Nbq10.out] at hx129_2)
          cases e129
          replace p129 := eq_true p129
          replace q129 := eq_true q129
          go_wp2
          go_roundg k1
          case measure => have := HK1.out; omega
          case rel => exact ⟨(wrap64 (x1_1 + 1)), (wrap64 (x2_1 - 1)), (by first | rfl | (simp; done) | (simp [*]; done)), (by first | rfl | (simp; done) | (simp [*]; done)), H', ⟨by have := HK1.out; omega⟩, by repeat (first | exact Drawn0.refl _ | apply Drawn0.step)⟩
       ·rw [if_neg c9] at H
        exact absurd H (by simp)
      ·rw [if_neg c8] at H
       exact absurd H (by simp)
    ·rw [if_neg c6] at H
     have c6b0 : decide (0 < x2_1) = false := decide_eq_false c6
     clear c6
     by_cases c22 : a1 > 0
     ·rw [if_pos c22] at H
      have c22b0 : decide (0 < a1) = true := decide_eq_true c22
      clear c22
      by_cases c23 : 0 ≤ a1
      ·rw [if_pos c23] at H
       have c23b0 : decide (0 ≤ a1) = true := decide_eq_true c23
       clear c23
       by_cases c24 : a1 < (l0.length : Int)
       ·rw [if_pos c24] at H
        have c24b0 : decide (a1 < (l0.length : Int)) = true := decide_eq_true c24
        clear c24
        obtain ⟨bq25, hbq25⟩ : ∃ b_ : Bool, b_ = ((rd_T76 l0 a1).f2) := ⟨_, rfl⟩
        replace H : (if (bq25 = true) then (some (a1, x1_1, true)) else (if 0 ≤ (wrap64 (x1_1 - 1)) then (if (wrap64 (x1_1 - 1)) < (l0.length : Int) then (if ((rd_T76 l0 (wrap64 (x1_1 - 1))).f2 = true) then (some (a1, x1_1, true)) else (if 0 ≤ (wrap64 (a1 - 1)) then (if (wrap64 (a1 - 1)) < (l0.length : Int) then (if (rd_T76 l0 (wrap64 (a1 - 1))).f2 = true then (some (wrap64 (a1 - 1), x1_1, true)) else (some (a1, x1_1, true))) else (none)) else (none))) else (none)) else (none))) = some (r1, r2, r3) := by rw [← hbq25] at H; exact H
        have Nbq25 := Aside0.mk hbq25
        clear hbq25
        by_cases c26 : (bq25 = true)
        ·subst c26
         have H1 : (some (a1, x1_1, true)) = some (r1, r2, r3) := by rw [if_pos rfl] at H; exact H
         clear H
         have H := H1
         clear H1
         simp only [Option.some.injEq, Prod.mk.injEq] at H
         obtain ⟨rfl, rfl, rfl⟩ := H
         have p126 : 0 ≤ (a1 : Int) := of_decide_eq_true (by first | (with_reducible assumption) | assumption)
         have q126 : a1 < (l0.length : Int) := of_decide_eq_true (by first | (with_reducible assumption) | assumption)
         obtain ⟨ad126, e126, hx126_0, hx126_1, hx126_2⟩ := at_T76 HR0.out a1 p126 q126
         (try rw [← Nbq25.out] at hx126_2)
         cases e126
         replace p126 := eq_true p126
         replace q126 := eq_true q126
         go_wp2
         go_ret3
         exact ⟨by first | rfl | (simp; done) | (simp [*]; done), by repeat (first | exact Drawn0.refl _ | apply Drawn0.step)⟩
        ·replace c26 := Bool.eq_false_iff.mpr c26
         subst c26
         have H1 : (if 0 ≤ (wrap64 (x1_1 - 1)) then (if (wrap64 (x1_1 - 1)) < (l0.length : Int) then (if ((rd_T76 l0 (wrap64 (x1_1 - 1))).f2 = true) then (some (a1, x1_1, true)) else (if 0 ≤ (wrap64 (a1 - 1)) then (if (wrap64 (a1 - 1)) < (l0.length : Int) then (if (rd_T76 l0 (wrap64 (a1 - 1))).f2 = true then (some (wrap64 (a1 - 1), x1_1, true)) else (some (a1, x1_1, true))) else (none)) else (none))) else (none)) else (none)) = some (r1, r2, r3) := by rw [if_neg (show ¬ (false = true) by decide)] at H; exact H
         clear H
         have H := H1
         clear H1
         obtain ⟨ji27, hji27⟩ : ∃ j_ : Int, (wrap64 (x1_1 - 1)) = j_ := ⟨_, rfl⟩
         replace H : (if 0 ≤ (ji27) then (if (ji27) < (l0.length : Int) then (if ((rd_T76 l0 (ji27)).f2 = true) then (some (a1, x1_1, true)) else (if 0 ≤ (wrap64 (a1 - 1)) then (if (wrap64 (a1 - 1)) < (l0.length : Int) then (if (rd_T76 l0 (wrap64 (a1 - 1))).f2 = true then (some (wrap64 (a1 - 1), x1_1, true)) else (some (a1, x1_1, true))) else (none)) else (none))) else (none)) else (none)) = some (r1, r2, r3) := by first | (rw [hji27] at H; exact H) | (simp only [hji27] at H ⊢; exact H)
         have hji27w : (IntKind.i64.wrap (x1_1 - 1)) = ji27 := (i64_w _).trans hji27
         by_cases c28 : 0 ≤ (ji27)
         ·rw [if_pos c28] at H
          have c28b0 : decide (0 ≤ (ji27)) = true := decide_eq_true c28
          clear c28
          by_cases c29 : (ji27) < (l0.length : Int)
          ·rw [if_pos c29] at H
           have c29b0 : decide ((ji27) < (l0.length : Int)) = true := decide_eq_true c29
           clear c29
           obtain ⟨bq30, hbq30⟩ : ∃ b_ : Bool, b_ = ((rd_T76 l0 (ji27)).f2) := ⟨_, rfl⟩
           replace H : (if (bq30 = true) then (some (a1, x1_1, true)) else (if 0 ≤ (wrap64 (a1 - 1)) then (if (wrap64 (a1 - 1)) < (l0.length : Int) then (if (rd_T76 l0 (wrap64 (a1 - 1))).f2 = true then (some (wrap64 (a1 - 1), x1_1, true)) else (some (a1, x1_1, true))) else (none)) else (none))) = some (r1, r2, r3) := by rw [← hbq30] at H; exact H
           have Nbq30 := Aside0.mk hbq30
           clear hbq30
           by_cases c31 : (bq30 = true)
           ·subst c31
            have H1 : (some (a1, x1_1, true)) = some (r1, r2, r3) := by rw [if_pos rfl] at H; exact H
            clear H
            have H := H1
            clear H1
            simp only [Option.some.injEq, Prod.mk.injEq] at H
            obtain ⟨rfl, rfl, rfl⟩ := H
            have p126 : 0 ≤ (a1 : Int) := of_decide_eq_true (by first | (with_reducible assumption) | assumption)
            have q126 : a1 < (l0.length : Int) := of_decide_eq_true (by first | (with_reducible assumption) | assumption)
            obtain ⟨ad126, e126, hx126_0, hx126_1, hx126_2⟩ := at_T76 HR0.out a1 p126 q126
            (try rw [← Nbq25.out] at hx126_2)
            (try rw [← Nbq30.out] at hx126_2)
            cases e126
            replace p126 := eq_true p126
            replace q126 := eq_true q126
            have p127 : 0 ≤ ((ji27) : Int) := of_decide_eq_true (by first | (with_reducible assumption) | assumption)
            have q127 : (ji27) < (l0.length : Int) := of_decide_eq_true (by first | (with_reducible assumption) | assumption)
            obtain ⟨ad127, e127, hx127_0, hx127_1, hx127_2⟩ := at_T76 HR0.out (ji27) p127 q127
            (try rw [← Nbq25.out] at hx127_2)
            (try rw [← Nbq30.out] at hx127_2)
            obtain rfl : ad126 = ad127 := (by injection e127)
            replace p127 := eq_true p127
            replace q127 := eq_true q127
            go_wp2
            go_ret3
            exact ⟨by first | rfl | (simp; done) | (simp only [← hji27] <;> (first | rfl | simp)) | (simp [*]; done), by repeat (first | exact Drawn0.refl _ | apply Drawn0.step)⟩
           ·replace c31 := Bool.eq_false_iff.mpr c31
            subst c31
            have H1 : (if 0 ≤ (wrap64 (a1 - 1)) then (if (wrap64 (a1 - 1)) < (l0.length : Int) then (if (rd_T76 l0 (wrap64 (a1 - 1))).f2 = true then (some (wrap64 (a1 - 1), x1_1, true)) else (some (a1, x1_1, true))) else (none)) else (none)) = some (r1, r2, r3) := by rw [if_neg (show ¬ (false = true) by decide)] at H; exact H
            clear H
            have H := H1
            clear H1
            obtain ⟨ji32, hji32⟩ : ∃ j_ : Int, (wrap64 (a1 - 1)) = j_ := ⟨_, rfl⟩
            replace H : (if 0 ≤ (ji32) then (if (ji32) < (l0.length : Int) then (if (rd_T76 l0 (ji32)).f2 = true then (some (ji32, x1_1, true)) else (some (a1, x1_1, true))) else (none)) else (none)) = some (r1, r2, r3) := by first | (rw [hji32] at H; exact H) | (simp only [hji32] at H ⊢; exact H)
            have hji32w : (IntKind.i64.wrap (a1 - 1)) = ji32 := (i64_w _).trans hji32
            by_cases c33 : 0 ≤ (ji32)
            ·rw [if_pos c33] at H
             have c33b0 : decide (0 ≤ (ji32)) = true := decide_eq_true c33
             clear c33
             by_cases c34 : (ji32) < (l0.length : Int)
             ·rw [if_pos c34] at H
              have c34b0 : decide ((ji32) < (l0.length : Int)) = true := decide_eq_true c34
              clear c34
              obtain ⟨bq35, hbq35⟩ : ∃ b_ : Bool, b_ = ((rd_T76 l0 (ji32)).f2) := ⟨_, rfl⟩
              replace H : (if bq35 = true then (some (ji32, x1_1, true)) else (some (a1, x1_1, true))) = some (r1, r2, r3) := by rw [← hbq35] at H; exact H
              have Nbq35 := Aside0.mk hbq35
              clear hbq35
              by_cases c36 : bq35 = true
              ·subst c36
               have H1 : (some (ji32, x1_1, true)) = some (r1, r2, r3) := by rw [if_pos rfl] at H; exact H
               clear H
               have H := H1
               clear H1
               simp only [Option.some.injEq, Prod.mk.injEq] at H
               obtain ⟨rfl, rfl, rfl⟩ := H
               have p126 : 0 ≤ (a1 : Int) := of_decide_eq_true (by first | (with_reducible assumption) | assumption)
               have q126 : a1 < (l0.length : Int) := of_decide_eq_true (by first | (with_reducible assumption) | assumption)
               obtain ⟨ad126, e126, hx126_0, hx126_1, hx126_2⟩ := at_T76 HR0.out a1 p126 q126
               (try rw [← Nbq25.out] at hx126_2)
               (try rw [← Nbq30.out] at hx126_2)
               (try rw [← Nbq35.out] at hx126_2)
               cases e126
               replace p126 := eq_true p126
               replace q126 := eq_true q126
               have p127 : 0 ≤ ((ji27) : Int) := of_decide_eq_true (by first | (with_reducible assumption) | assumption)
               have q127 : (ji27) < (l0.length : Int) := of_decide_eq_true (by first | (with_reducible assumption) | assumption)
               obtain ⟨ad127, e127, hx127_0, hx127_1, hx127_2⟩ := at_T76 HR0.out (ji27) p127 q127
               (try rw [← Nbq25.out] at hx127_2)
               (try rw [← Nbq30.out] at hx127_2)
               (try rw [← Nbq35.out] at hx127_2)
               obtain rfl : ad126 = ad127 := (by injection e127)
               replace p127 := eq_true p127
               replace q127 := eq_true q127
               have p128 : 0 ≤ ((ji32) : Int) := of_decide_eq_true (by first | (with_reducible assumption) | assumption)
               have q128 : (ji32) < (l0.length : Int) := of_decide_eq_true (by first | (with_reducible assumption) | assumption)
               obtain ⟨ad128, e128, hx128_0, hx128_1, hx128_2⟩ := at_T76 HR0.out (ji32) p128 q128
               (try rw [← Nbq25.out] at hx128_2)
               (try rw [← Nbq30.out] at hx128_2)
               (try rw [← Nbq35.out] at hx128_2)
               obtain rfl : ad126 = ad128 := (by injection e128)
               replace p128 := eq_true p128
               replace q128 := eq_true q128
               go_wp2
               go_ret3
               exact ⟨by first | rfl | (simp; done) | (simp only [← hji27, ← hji32] <;> (first | rfl | simp)) | (simp [*]; done), by repeat (first | exact Drawn0.refl _ | apply Drawn0.step)⟩
              ·replace c36 := Bool.eq_false_iff.mpr c36
               subst c36
               have H1 : (some (a1, x1_1, true)) = some (r1, r2, r3) := by rw [if_neg (show ¬ (false = true) by decide)] at H; exact H
               clear H
               have H := H1
               clear H1
               simp only [Option.some.injEq, Prod.mk.injEq] at H
               obtain ⟨rfl, rfl, rfl⟩ := H
               have p126 : 0 ≤ (a1 : Int) := of_decide_eq_true (by first | (with_reducible assumption) | assumption)
               have q126 : a1 < (l0.length : Int) := of_decide_eq_true (by first | (with_reducible assumption) | assumption)
               obtain ⟨ad126, e126, hx126_0, hx126_1, hx126_2⟩ := at_T76 HR0.out a1 p126 q126
               (try rw [← Nbq25.out] at hx126_2)
               (try rw [← Nbq30.out] at hx126_2)
               (try rw [← Nbq35.out] at hx126_2)
               cases e126
               replace p126 := eq_true p126
               replace q126 := eq_true q126
               have p127 : 0 ≤ ((ji27) : Int) := of_decide_eq_true (by first | (with_reducible assumption) | assumption)
               have q127 : (ji27) < (l0.length : Int) := of_decide_eq_true (by first | (with_reducible assumption) | assumption)
               obtain ⟨ad127, e127, hx127_0, hx127_1, hx127_2⟩ := at_T76 HR0.out (ji27) p127 q127
               (try rw [← Nbq25.out] at hx127_2)
               (try rw [← Nbq30.out] at hx127_2)
               (try rw [← Nbq35.out] at hx127_2)
               obtain rfl : ad126 = ad127 := (by injection e127)
               replace p127 := eq_true p127
               replace q127 := eq_true q127
               have p128 : 0 ≤ ((ji32) : Int) := of_decide_eq_true (by first | (with_reducible assumption) | assumption)
               have q128 : (ji32) < (l0.length : Int) := of_decide_eq_true (by first | (with_reducible assumption) | assumption)
               obtain ⟨ad128, e128, hx128_0, hx128_1, hx128_2⟩ := at_T76 HR0.out (ji32) p128 q128
               (try rw [← Nbq25.out] at hx128_2)
               (try rw [← Nbq30.out] at hx128_2)
               (try rw [← Nbq35.out] at hx128_2)
               obtain rfl : ad126 = ad128 := (by injection e128)
               replace p128 := eq_true p128
               replace q128 := eq_true q128
               go_wp2
               go_ret3
               exact ⟨by first | rfl | (simp; done) | (simp only [← hji27, ← hji32] <;> (first | rfl | simp)) | (simp [*]; done), by repeat (first | exact Drawn0.refl _ | apply Drawn0.step)⟩
             ·rw [if_neg c34] at H
              exact absurd H (by simp)
            ·rw [if_neg c33] at H
             exact absurd H (by simp)
          ·rw [if_neg c29] at H
           exact absurd H (by simp)
         ·rw [if_neg c28] at H
          exact absurd H (by simp)
       ·rw [if_neg c24] at H
        exact absurd H (by simp)
      ·rw [if_neg c23] at H
       exact absurd H (by simp)
     ·rw [if_neg c22] at H
      have c22b0 : decide (0 < a1) = false := decide_eq_false c22
      clear c22
      simp only [Option.some.injEq, Prod.mk.injEq] at H
      obtain ⟨rfl, rfl, rfl⟩ := H
      go_wp2
      go_ret3
      exact ⟨by first | rfl | (simp; done) | (simp [*]; done), by repeat (first | exact Drawn0.refl _ | apply Drawn0.step)⟩
 ·replace c5 := Bool.eq_false_iff.mpr c5
  subst c5
  have H1 : (some (a1, wrap64 (a1 + a2), decide ((wrap64 (a1 + a2)) ≤ (l0.length : Int)))) = some (r1, r2, r3) := by rw [if_neg (show ¬ (false = true) by decide)] at H; exact H
  clear H
  have H := H1
  clear H1
  simp only [Option.some.injEq, Prod.mk.injEq] at H
  obtain ⟨rfl, rfl, rfl⟩ := H
  go_enter Tryd.func47, Tryd.ntmps47
  go_wp2
  go_ret3
  exact ⟨by first | rfl | (simp; done) | (simp [*]; done), by repeat (first | exact Drawn0.refl _ | apply Drawn0.step)⟩

end Go.Proofs.YtcochbkdgjgaeaaDoor.X
