/-
  Texts of one proof in one file (wip/bundle.py): X18, X19, X20, X21, X22, X23.
  Conditions: none.
-/
import Derived.Test.YtcochbkdgjgaeaaDoorBRuns1
section
-- Written by wip/xprint.py over the kit's print.py: the Lean function of each Go function, and the proof that the Go text comes to it.
namespace Go.Proofs.YtcochbkdgjgaeaaDoor.X
open Go.RowKit Go.Proofs.YtcochbkdgjgaeaaDoorW.PrintWords Go.Proofs.YtcochbkdgjgaeaaDoorW.PrintLast Go.Proofs.YtcochbkdgjgaeaaDoorW.PrintMore
attribute [local go_sem] max2_int min2_int max_two min_two max_three min_three max_four min_four   -- for this text's walks alone
set_option linter.unusedVariables false
set_option linter.unusedSimpArgs false

/-! ### object_quoted: function 29 -/
mutual
def object_quoted.l0 : Nat → List Int → Int → Int → Bool → Int → Int → Int → Int → Int → Int → Option (Int × Int × Bool)
  | 0, _, _, _, _, _, _, _, _, _, _ => none
  | k + 1, x0, x2, x3, x4, x13, x15, x17, x18, x19, x20 => if x20 < x15 then (object_quoted.j1 k x0 x2 x3 x4 x13 x15 x17 x18 x19 x20 (decide (x18 < x2))) else (object_quoted.j1 k x0 x2 x3 x4 x13 x15 x17 x18 x19 x20 false)
def object_quoted.j1 : Nat → List Int → Int → Int → Bool → Int → Int → Int → Int → Int → Int → Bool → Option (Int × Int × Bool)
  | 0, _, _, _, _, _, _, _, _, _, _, _ => none
  | k + 1, x0, x2, x3, x4, x13, x15, x17, x18, x19, x20, x43 => if x43 = true then (if 0 ≤ x20 then (if x20 < (x0.length : Int) then (if (rd x0 x20) = x3 then (object_quoted.j2 k x0 x2 x3 x4 x13 x15 x17 x18 x19 x20 ((Int.tmod x19 2) == 0)) else (object_quoted.j2 k x0 x2 x3 x4 x13 x15 x17 x18 x19 x20 false)) else (none)) else (none)) else (if x17 < 0 then (object_quoted.j4 k x0 x4 x13 x15 x17 x18 true) else (if x18 < x17 then (object_quoted.j4 k x0 x4 x13 x15 x17 x18 true) else (object_quoted.j4 k x0 x4 x13 x15 x17 x18 (decide (x18 < x2)))))
def object_quoted.j2 : Nat → List Int → Int → Int → Bool → Int → Int → Int → Int → Int → Int → Bool → Option (Int × Int × Bool)
  | 0, _, _, _, _, _, _, _, _, _, _, _ => none
  | k + 1, x0, x2, x3, x4, x13, x15, x17, x18, x19, x20, x56 => if x56 = true then (if x17 ≥ 0 then (object_quoted.j3 k x0 x2 x3 x4 x13 x15 x17 x18 x19 x20 (decide (x18 < x17))) else (object_quoted.j3 k x0 x2 x3 x4 x13 x15 x17 x18 x19 x20 false)) else (if 0 ≤ x20 then (if x20 < (x0.length : Int) then (if (rd x0 x20) = 92 then (object_quoted.l0 k x0 x2 x3 x4 x13 x15 x17 x18 (wrap64 (x19 + 1)) (wrap64 (x20 + 1))) else (object_quoted.l0 k x0 x2 x3 x4 x13 x15 x17 x18 0 (wrap64 (x20 + 1)))) else (none)) else (none))
def object_quoted.j3 : Nat → List Int → Int → Int → Bool → Int → Int → Int → Int → Int → Int → Bool → Option (Int × Int × Bool)
  | 0, _, _, _, _, _, _, _, _, _, _, _ => none
  | k + 1, x0, x2, x3, x4, x13, x15, x17, x18, x19, x20, x63 => if x63 = true then (if 0 ≤ x20 then (if x20 < (x0.length : Int) then (if (rd x0 x20) = 92 then (object_quoted.l0 k x0 x2 x3 x4 x13 x15 x17 x20 (wrap64 (x19 + 1)) (wrap64 (x20 + 1))) else (object_quoted.l0 k x0 x2 x3 x4 x13 x15 x17 x20 0 (wrap64 (x20 + 1)))) else (none)) else (none)) else (if 0 ≤ x20 then (if x20 < (x0.length : Int) then (if (rd x0 x20) = 92 then (object_quoted.l0 k x0 x2 x3 x4 x13 x15 x20 x18 (wrap64 (x19 + 1)) (wrap64 (x20 + 1))) else (object_quoted.l0 k x0 x2 x3 x4 x13 x15 x20 x18 0 (wrap64 (x20 + 1)))) else (none)) else (none))
def object_quoted.j4 : Nat → List Int → Bool → Int → Int → Int → Int → Bool → Option (Int × Int × Bool)
  | 0, _, _, _, _, _, _, _ => none
  | k + 1, x0, x4, x13, x15, x17, x18, x84 => if x84 = true then (some (0, 0, false)) else (if x4 = true then (object_quoted.l1 k x0 x13 x15 x18 x17 (wrap64 (x18 + 1))) else (some (wrap64 (x17 + 1), x18, true)))
def object_quoted.j6 : Nat → List Int → Int → Int → Int → Int → Option (Int × Int × Bool)
  | 0, _, _, _, _, _ => none
  | k + 1, x0, x13, x18, x21, x22 => if x22 = (wrap64 (x18 + 1)) then (object_quoted.l2 k x0 x13 x21 x22) else (some (x21, x22, true))
def object_quoted.l2 : Nat → List Int → Int → Int → Int → Option (Int × Int × Bool)
  | 0, _, _, _, _ => none
  | k + 1, x0, x13, x21, x22 => if x21 > x13 then (if 0 ≤ (wrap64 (x21 - 1)) then (if (wrap64 (x21 - 1)) < (x0.length : Int) then ((class_Of.f k (rd x0 (wrap64 (x21 - 1))) false).bind fun t191 => (if t191 = 0 then (object_quoted.l2 k x0 x13 (wrap64 (x21 - 1)) x22) else (some (x21, x22, true)))) else (none)) else (none)) else (some (x21, x22, true))
def object_quoted.l1 : Nat → List Int → Int → Int → Int → Int → Int → Option (Int × Int × Bool)
  | 0, _, _, _, _, _, _ => none
  | k + 1, x0, x13, x15, x18, x21, x22 => if x22 < x15 then (if 0 ≤ x22 then (if x22 < (x0.length : Int) then ((class_Of.f k (rd x0 x22) false).bind fun t189 => (if t189 = 0 then (object_quoted.l1 k x0 x13 x15 x18 x21 (wrap64 (x22 + 1))) else (object_quoted.j6 k x0 x13 x18 x21 x22))) else (none)) else (none)) else (object_quoted.j6 k x0 x13 x18 x21 x22)
end
def object_quoted.f (k : Nat) (l0 : List Int) (a1 : Int) (a2 : Int) (a3 : Int) (a4 : Bool) : Option (Int × Int × Bool) := (lines_Start.f k l0 a1).bind fun bt180 => ((lines_End.f k l0 a1).bind fun bt182 => (object_quoted.l0 k l0 a2 a3 a4 bt180.1 bt182.1 (-1) (-1) 0 bt180.1))
theorem object_quoted.mono_l : ∀ k, (∀ y0 y1 y2 y3 y4 y5 y6 y7 y8 y9, LeO (object_quoted.l0 k y0 y1 y2 y3 y4 y5 y6 y7 y8 y9) (object_quoted.l0 (k + 1) y0 y1 y2 y3 y4 y5 y6 y7 y8 y9)) ∧ (∀ y0 y1 y2 y3 y4 y5 y6 y7 y8 y9 y10, LeO (object_quoted.j1 k y0 y1 y2 y3 y4 y5 y6 y7 y8 y9 y10) (object_quoted.j1 (k + 1) y0 y1 y2 y3 y4 y5 y6 y7 y8 y9 y10)) ∧ (∀ y0 y1 y2 y3 y4 y5 y6 y7 y8 y9 y10, LeO (object_quoted.j2 k y0 y1 y2 y3 y4 y5 y6 y7 y8 y9 y10) (object_quoted.j2 (k + 1) y0 y1 y2 y3 y4 y5 y6 y7 y8 y9 y10)) ∧ (∀ y0 y1 y2 y3 y4 y5 y6 y7 y8 y9 y10, LeO (object_quoted.j3 k y0 y1 y2 y3 y4 y5 y6 y7 y8 y9 y10) (object_quoted.j3 (k + 1) y0 y1 y2 y3 y4 y5 y6 y7 y8 y9 y10)) ∧ (∀ y0 y1 y2 y3 y4 y5 y6, LeO (object_quoted.j4 k y0 y1 y2 y3 y4 y5 y6) (object_quoted.j4 (k + 1) y0 y1 y2 y3 y4 y5 y6)) ∧ (∀ y0 y1 y2 y3 y4, LeO (object_quoted.j6 k y0 y1 y2 y3 y4) (object_quoted.j6 (k + 1) y0 y1 y2 y3 y4)) ∧ (∀ y0 y1 y2 y3, LeO (object_quoted.l2 k y0 y1 y2 y3) (object_quoted.l2 (k + 1) y0 y1 y2 y3)) ∧ (∀ y0 y1 y2 y3 y4 y5, LeO (object_quoted.l1 k y0 y1 y2 y3 y4 y5) (object_quoted.l1 (k + 1) y0 y1 y2 y3 y4 y5))
  | 0 => ⟨fun _ _ _ _ _ _ _ _ _ _ r h => by simp [object_quoted.l0] at h, fun _ _ _ _ _ _ _ _ _ _ _ r h => by simp [object_quoted.j1] at h, fun _ _ _ _ _ _ _ _ _ _ _ r h => by simp [object_quoted.j2] at h, fun _ _ _ _ _ _ _ _ _ _ _ r h => by simp [object_quoted.j3] at h, fun _ _ _ _ _ _ _ r h => by simp [object_quoted.j4] at h, fun _ _ _ _ _ r h => by simp [object_quoted.j6] at h, fun _ _ _ _ r h => by simp [object_quoted.l2] at h, fun _ _ _ _ _ _ r h => by simp [object_quoted.l1] at h⟩
  | k + 1 => by
    obtain ⟨ih0, ih1, ih2, ih3, ih4, ih5, ih6, ih7⟩ := object_quoted.mono_l k
    refine ⟨?_, ?_, ?_, ?_, ?_, ?_, ?_, ?_⟩
    · intro y0 y1 y2 y3 y4 y5 y6 y7 y8 y9
      unfold object_quoted.l0
      repeat' first
      | (with_reducible exact ih0 _ _ _ _ _ _ _ _ _ _)
      | (with_reducible exact ih1 _ _ _ _ _ _ _ _ _ _ _)
      | (with_reducible exact ih2 _ _ _ _ _ _ _ _ _ _ _)
      | (with_reducible exact ih3 _ _ _ _ _ _ _ _ _ _ _)
      | (with_reducible exact ih4 _ _ _ _ _ _ _)
      | (with_reducible exact ih5 _ _ _ _ _)
      | (with_reducible exact ih6 _ _ _ _)
      | (with_reducible exact ih7 _ _ _ _ _ _)
      | (with_reducible exact class_Of.mono _ _ _)
      | (with_reducible exact lines_End.mono _ _ _)
      | (with_reducible exact lines_Start.mono _ _ _)
      | (with_reducible exact LeO.refl _)
      | (with_reducible exact LeO.none _)
      | (with_reducible refine LeO.ite ?_ ?_)
      | (with_reducible refine LeO.bind ?_ (fun _ => ?_))
      | exact ih0 _ _ _ _ _ _ _ _ _ _
      | exact ih1 _ _ _ _ _ _ _ _ _ _ _
      | exact ih2 _ _ _ _ _ _ _ _ _ _ _
      | exact ih3 _ _ _ _ _ _ _ _ _ _ _
      | exact ih4 _ _ _ _ _ _ _
      | exact ih5 _ _ _ _ _
      | exact ih6 _ _ _ _
      | exact ih7 _ _ _ _ _ _
      | exact class_Of.mono _ _ _
      | exact lines_End.mono _ _ _
      | exact lines_Start.mono _ _ _
      | exact LeO.none _
      | refine LeO.ite ?_ ?_
      | refine LeO.bind ?_ (fun _ => ?_)
    · intro y0 y1 y2 y3 y4 y5 y6 y7 y8 y9 y10
      unfold object_quoted.j1
      repeat' first
      | (with_reducible exact ih0 _ _ _ _ _ _ _ _ _ _)
      | (with_reducible exact ih1 _ _ _ _ _ _ _ _ _ _ _)
      | (with_reducible exact ih2 _ _ _ _ _ _ _ _ _ _ _)
      | (with_reducible exact ih3 _ _ _ _ _ _ _ _ _ _ _)
      | (with_reducible exact ih4 _ _ _ _ _ _ _)
      | (with_reducible exact ih5 _ _ _ _ _)
      | (with_reducible exact ih6 _ _ _ _)
      | (with_reducible exact ih7 _ _ _ _ _ _)
      | (with_reducible exact class_Of.mono _ _ _)
      | (with_reducible exact lines_End.mono _ _ _)
      | (with_reducible exact lines_Start.mono _ _ _)
      | (with_reducible exact LeO.refl _)
      | (with_reducible exact LeO.none _)
      | (with_reducible refine LeO.ite ?_ ?_)
      | (with_reducible refine LeO.bind ?_ (fun _ => ?_))
      | exact ih0 _ _ _ _ _ _ _ _ _ _
      | exact ih1 _ _ _ _ _ _ _ _ _ _ _
      | exact ih2 _ _ _ _ _ _ _ _ _ _ _
      | exact ih3 _ _ _ _ _ _ _ _ _ _ _
      | exact ih4 _ _ _ _ _ _ _
      | exact ih5 _ _ _ _ _
      | exact ih6 _ _ _ _
      | exact ih7 _ _ _ _ _ _
      | exact class_Of.mono _ _ _
      | exact lines_End.mono _ _ _
      | exact lines_Start.mono _ _ _
      | exact LeO.none _
      | refine LeO.ite ?_ ?_
      | refine LeO.bind ?_ (fun _ => ?_)
    · intro y0 y1 y2 y3 y4 y5 y6 y7 y8 y9 y10
      unfold object_quoted.j2
      repeat' first
      | (with_reducible exact ih0 _ _ _ _ _ _ _ _ _ _)
      | (with_reducible exact ih1 _ _ _ _ _ _ _ _ _ _ _)
      | (with_reducible exact ih2 _ _ _ _ _ _ _ _ _ _ _)
      | (with_reducible exact ih3 _ _ _ _ _ _ _ _ _ _ _)
      | (with_reducible exact ih4 _ _ _ _ _ _ _)
      | (with_reducible exact ih5 _ _ _ _ _)
      | (with_reducible exact ih6 _ _ _ _)
      | (with_reducible exact ih7 _ _ _ _ _ _)
      | (with_reducible exact class_Of.mono _ _ _)
      | (with_reducible exact lines_End.mono _ _ _)
      | (with_reducible exact lines_Start.mono _ _ _)
      | (with_reducible exact LeO.refl _)
      | (with_reducible exact LeO.none _)
      | (with_reducible refine LeO.ite ?_ ?_)
      | (with_reducible refine LeO.bind ?_ (fun _ => ?_))
      | exact ih0 _ _ _ _ _ _ _ _ _ _
      | exact ih1 _ _ _ _ _ _ _ _ _ _ _
      | exact ih2 _ _ _ _ _ _ _ _ _ _ _
      | exact ih3 _ _ _ _ _ _ _ _ _ _ _
      | exact ih4 _ _ _ _ _ _ _
      | exact ih5 _ _ _ _ _
      | exact ih6 _ _ _ _
      | exact ih7 _ _ _ _ _ _
      | exact class_Of.mono _ _ _
      | exact lines_End.mono _ _ _
      | exact lines_Start.mono _ _ _
      | exact LeO.none _
      | refine LeO.ite ?_ ?_
      | refine LeO.bind ?_ (fun _ => ?_)
    · intro y0 y1 y2 y3 y4 y5 y6 y7 y8 y9 y10
      unfold object_quoted.j3
      repeat' first
      | (with_reducible exact ih0 _ _ _ _ _ _ _ _ _ _)
      | (with_reducible exact ih1 _ _ _ _ _ _ _ _ _ _ _)
      | (with_reducible exact ih2 _ _ _ _ _ _ _ _ _ _ _)
      | (with_reducible exact ih3 _ _ _ _ _ _ _ _ _ _ _)
      | (with_reducible exact ih4 _ _ _ _ _ _ _)
      | (with_reducible exact ih5 _ _ _ _ _)
      | (with_reducible exact ih6 _ _ _ _)
      | (with_reducible exact ih7 _ _ _ _ _ _)
      | (with_reducible exact class_Of.mono _ _ _)
      | (with_reducible exact lines_End.mono _ _ _)
      | (with_reducible exact lines_Start.mono _ _ _)
      | (with_reducible exact LeO.refl _)
      | (with_reducible exact LeO.none _)
      | (with_reducible refine LeO.ite ?_ ?_)
      | (with_reducible refine LeO.bind ?_ (fun _ => ?_))
      | exact ih0 _ _ _ _ _ _ _ _ _ _
      | exact ih1 _ _ _ _ _ _ _ _ _ _ _
      | exact ih2 _ _ _ _ _ _ _ _ _ _ _
      | exact ih3 _ _ _ _ _ _ _ _ _ _ _
      | exact ih4 _ _ _ _ _ _ _
      | exact ih5 _ _ _ _ _
      | exact ih6 _ _ _ _
      | exact ih7 _ _ _ _ _ _
      | exact class_Of.mono _ _ _
      | exact lines_End.mono _ _ _
      | exact lines_Start.mono _ _ _
      | exact LeO.none _
      | refine LeO.ite ?_ ?_
      | refine LeO.bind ?_ (fun _ => ?_)
    · intro y0 y1 y2 y3 y4 y5 y6
      unfold object_quoted.j4
      repeat' first
      | (with_reducible exact ih0 _ _ _ _ _ _ _ _ _ _)
      | (with_reducible exact ih1 _ _ _ _ _ _ _ _ _ _ _)
      | (with_reducible exact ih2 _ _ _ _ _ _ _ _ _ _ _)
      | (with_reducible exact ih3 _ _ _ _ _ _ _ _ _ _ _)
      | (with_reducible exact ih4 _ _ _ _ _ _ _)
      | (with_reducible exact ih5 _ _ _ _ _)
      | (with_reducible exact ih6 _ _ _ _)
      | (with_reducible exact ih7 _ _ _ _ _ _)
      | (with_reducible exact class_Of.mono _ _ _)
      | (with_reducible exact lines_End.mono _ _ _)
      | (with_reducible exact lines_Start.mono _ _ _)
      | (with_reducible exact LeO.refl _)
      | (with_reducible exact LeO.none _)
      | (with_reducible refine LeO.ite ?_ ?_)
      | (with_reducible refine LeO.bind ?_ (fun _ => ?_))
      | exact ih0 _ _ _ _ _ _ _ _ _ _
      | exact ih1 _ _ _ _ _ _ _ _ _ _ _
      | exact ih2 _ _ _ _ _ _ _ _ _ _ _
      | exact ih3 _ _ _ _ _ _ _ _ _ _ _
      | exact ih4 _ _ _ _ _ _ _
      | exact ih5 _ _ _ _ _
      | exact ih6 _ _ _ _
      | exact ih7 _ _ _ _ _ _
      | exact class_Of.mono _ _ _
      | exact lines_End.mono _ _ _
      | exact lines_Start.mono _ _ _
      | exact LeO.none _
      | refine LeO.ite ?_ ?_
      | refine LeO.bind ?_ (fun _ => ?_)
    · intro y0 y1 y2 y3 y4
      unfold object_quoted.j6
      repeat' first
      | (with_reducible exact ih0 _ _ _ _ _ _ _ _ _ _)
      | (with_reducible exact ih1 _ _ _ _ _ _ _ _ _ _ _)
      | (with_reducible exact ih2 _ _ _ _ _ _ _ _ _ _ _)
      | (with_reducible exact ih3 _ _ _ _ _ _ _ _ _ _ _)
      | (with_reducible exact ih4 _ _ _ _ _ _ _)
      | (with_reducible exact ih5 _ _ _ _ _)
      | (with_reducible exact ih6 _ _ _ _)
      | (with_reducible exact ih7 _ _ _ _ _ _)
      | (with_reducible exact class_Of.mono _ _ _)
      | (with_reducible exact lines_End.mono _ _ _)
      | (with_reducible exact lines_Start.mono _ _ _)
      | (with_reducible exact LeO.refl _)
      | (with_reducible exact LeO.none _)
      | (with_reducible refine LeO.ite ?_ ?_)
      | (with_reducible refine LeO.bind ?_ (fun _ => ?_))
      | exact ih0 _ _ _ _ _ _ _ _ _ _
      | exact ih1 _ _ _ _ _ _ _ _ _ _ _
      | exact ih2 _ _ _ _ _ _ _ _ _ _ _
      | exact ih3 _ _ _ _ _ _ _ _ _ _ _
      | exact ih4 _ _ _ _ _ _ _
      | exact ih5 _ _ _ _ _
      | exact ih6 _ _ _ _
      | exact ih7 _ _ _ _ _ _
      | exact class_Of.mono _ _ _
      | exact lines_End.mono _ _ _
      | exact lines_Start.mono _ _ _
      | exact LeO.none _
      | refine LeO.ite ?_ ?_
      | refine LeO.bind ?_ (fun _ => ?_)
    · intro y0 y1 y2 y3
      unfold object_quoted.l2
      repeat' first
      | (with_reducible exact ih0 _ _ _ _ _ _ _ _ _ _)
      | (with_reducible exact ih1 _ _ _ _ _ _ _ _ _ _ _)
      | (with_reducible exact ih2 _ _ _ _ _ _ _ _ _ _ _)
      | (with_reducible exact ih3 _ _ _ _ _ _ _ _ _ _ _)
      | (with_reducible exact ih4 _ _ _ _ _ _ _)
      | (with_reducible exact ih5 _ _ _ _ _)
      | (with_reducible exact ih6 _ _ _ _)
      | (with_reducible exact ih7 _ _ _ _ _ _)
      | (with_reducible exact class_Of.mono _ _ _)
      | (with_reducible exact lines_End.mono _ _ _)
      | (with_reducible exact lines_Start.mono _ _ _)
      | (with_reducible exact LeO.refl _)
      | (with_reducible exact LeO.none _)
      | (with_reducible refine LeO.ite ?_ ?_)
      | (with_reducible refine LeO.bind ?_ (fun _ => ?_))
      | exact ih0 _ _ _ _ _ _ _ _ _ _
      | exact ih1 _ _ _ _ _ _ _ _ _ _ _
      | exact ih2 _ _ _ _ _ _ _ _ _ _ _
      | exact ih3 _ _ _ _ _ _ _ _ _ _ _
      | exact ih4 _ _ _ _ _ _ _
      | exact ih5 _ _ _ _ _
      | exact ih6 _ _ _ _
      | exact ih7 _ _ _ _ _ _
      | exact class_Of.mono _ _ _
      | exact lines_End.mono _ _ _
      | exact lines_Start.mono _ _ _
      | exact LeO.none _
      | refine LeO.ite ?_ ?_
      | refine LeO.bind ?_ (fun _ => ?_)
    · intro y0 y1 y2 y3 y4 y5
      unfold object_quoted.l1
      repeat' first
      | (with_reducible exact ih0 _ _ _ _ _ _ _ _ _ _)
      | (with_reducible exact ih1 _ _ _ _ _ _ _ _ _ _ _)
      | (with_reducible exact ih2 _ _ _ _ _ _ _ _ _ _ _)
      | (with_reducible exact ih3 _ _ _ _ _ _ _ _ _ _ _)
      | (with_reducible exact ih4 _ _ _ _ _ _ _)
      | (with_reducible exact ih5 _ _ _ _ _)
      | (with_reducible exact ih6 _ _ _ _)
      | (with_reducible exact ih7 _ _ _ _ _ _)
      | (with_reducible exact class_Of.mono _ _ _)
      | (with_reducible exact lines_End.mono _ _ _)
      | (with_reducible exact lines_Start.mono _ _ _)
      | (with_reducible exact LeO.refl _)
      | (with_reducible exact LeO.none _)
      | (with_reducible refine LeO.ite ?_ ?_)
      | (with_reducible refine LeO.bind ?_ (fun _ => ?_))
      | exact ih0 _ _ _ _ _ _ _ _ _ _
      | exact ih1 _ _ _ _ _ _ _ _ _ _ _
      | exact ih2 _ _ _ _ _ _ _ _ _ _ _
      | exact ih3 _ _ _ _ _ _ _ _ _ _ _
      | exact ih4 _ _ _ _ _ _ _
      | exact ih5 _ _ _ _ _
      | exact ih6 _ _ _ _
      | exact ih7 _ _ _ _ _ _
      | exact class_Of.mono _ _ _
      | exact lines_End.mono _ _ _
      | exact lines_Start.mono _ _ _
      | exact LeO.none _
      | refine LeO.ite ?_ ?_
      | refine LeO.bind ?_ (fun _ => ?_)
theorem object_quoted.mono : ∀ a0 a1 a2 a3 a4 k, LeO (object_quoted.f k a0 a1 a2 a3 a4) (object_quoted.f (k + 1) a0 a1 a2 a3 a4) := by
  intro a0 a1 a2 a3 a4 k
  obtain ⟨ih0, ih1, ih2, ih3, ih4, ih5, ih6, ih7⟩ := object_quoted.mono_l k
  unfold object_quoted.f
  repeat' first
      | (with_reducible exact ih0 _ _ _ _ _ _ _ _ _ _)
      | (with_reducible exact ih1 _ _ _ _ _ _ _ _ _ _ _)
      | (with_reducible exact ih2 _ _ _ _ _ _ _ _ _ _ _)
      | (with_reducible exact ih3 _ _ _ _ _ _ _ _ _ _ _)
      | (with_reducible exact ih4 _ _ _ _ _ _ _)
      | (with_reducible exact ih5 _ _ _ _ _)
      | (with_reducible exact ih6 _ _ _ _)
      | (with_reducible exact ih7 _ _ _ _ _ _)
      | (with_reducible exact class_Of.mono _ _ _)
      | (with_reducible exact lines_End.mono _ _ _)
      | (with_reducible exact lines_Start.mono _ _ _)
      | (with_reducible exact LeO.refl _)
      | (with_reducible exact LeO.none _)
      | (with_reducible refine LeO.ite ?_ ?_)
      | (with_reducible refine LeO.bind ?_ (fun _ => ?_))
      | exact ih0 _ _ _ _ _ _ _ _ _ _
      | exact ih1 _ _ _ _ _ _ _ _ _ _ _
      | exact ih2 _ _ _ _ _ _ _ _ _ _ _
      | exact ih3 _ _ _ _ _ _ _ _ _ _ _
      | exact ih4 _ _ _ _ _ _ _
      | exact ih5 _ _ _ _ _
      | exact ih6 _ _ _ _
      | exact ih7 _ _ _ _ _ _
      | exact class_Of.mono _ _ _
      | exact lines_End.mono _ _ _
      | exact lines_Start.mono _ _ _
      | exact LeO.none _
      | refine LeO.ite ?_ ?_
      | refine LeO.bind ?_ (fun _ => ?_)
set_option maxHeartbeats 8000000 in
set_option maxRecDepth 100000 in
theorem object_quoted.calls (k : Nat) (A0 : Option Addr) (c0 : Nat) (l0 : List Int) (a1 : Int) (a2 : Int) (a3 : Int) (a4 : Bool) (r1 : Int) (r2 : Int) (r3 : Bool) (w : World) (hr0 : Kd.C (Kd.int .u8) w A0 l0.length l0) (hc0 : l0.length ≤ c0) (h : object_quoted.f k l0 a1 a2 a3 a4 = some (r1, r2, r3)) :
    Calls Tryd.prog 29 #[.slice A0 l0.length c0, .int .i64 a1, .int .i64 a2, .int .u8 a3, .bool a4] w fun e w' => e = .returned (.tuple #[.int .i64 r1, .int .i64 r2, .bool r3]) ∧ Drawn0 w w' := by
  have HR0 := Aside0.mk hr0
  have HC0 := Aside0.mk hc0
  clear hr0 hc0
  have H : ((lines_Start.f k l0 a1).bind fun bt180 => ((lines_End.f k l0 a1).bind fun bt182 => (object_quoted.l0 k l0 a2 a3 a4 bt180.1 bt182.1 (-1) (-1) 0 bt180.1))) = some (r1, r2, r3) := h
  clear h
  replace H := Option.bind_eq_some_iff.mp H
  obtain ⟨⟨t180, t181⟩, A60, H⟩ := H
  replace H : ((lines_End.f k l0 a1).bind fun bt182 => (object_quoted.l0 k l0 a2 a3 a4 t180 bt182.1 (-1) (-1) 0 t180)) = some (r1, r2, r3) := H
  have A6 := Aside0.mk A60
  clear A60
  replace H := Option.bind_eq_some_iff.mp H
  obtain ⟨⟨t182, t183⟩, A70, H⟩ := H
  replace H : (object_quoted.l0 k l0 a2 a3 a4 t180 t182 (-1) (-1) 0 t180) = some (r1, r2, r3) := H
  have A7 := Aside0.mk A70
  clear A70
  have H' := Aside0.mk H
  clear H
  go_enter Tryd.func29, Tryd.ntmps29
  go_wp2_with (first | ((with_reducible refine gate_callee (f := 44) rfl ?_); refine goesL_ (some 26) rfl rfl Tryd.func44 (by kernel_rfl) rfl #[.slice A0 l0.length c0, .int .i64 a1] rfl (by (try simp only [List.map_toArray, List.map_cons, List.map_nil]); first | done | rfl | (simp only [List.length_drop, List.length_take]; rfl)) ?_; (with_reducible refine (lines_Start.calls k _ _ l0 a1 t180 t181 _ ?side1 ?side2 A6.out).mono ?_); (case side1 => repeat (first | exact HR0.out | (with_reducible refine Kd.C_alloc ?_ _) | (with_reducible refine Kd.C_drewN ?_ _) | (with_reducible refine Kd.C_drew ?_))); (case side2 => exact HC0.out); rintro e w' ⟨rfl, ⟨nd, rfl⟩⟩; refine ⟨_, rfl, ?_⟩) | ((with_reducible refine gate_callee (f := 45) rfl ?_); refine goesL_ (some 32) rfl rfl Tryd.func45 (by kernel_rfl) rfl #[.slice A0 l0.length c0, .int .i64 a1] rfl (by (try simp only [List.map_toArray, List.map_cons, List.map_nil]); first | done | rfl | (simp only [List.length_drop, List.length_take]; rfl)) ?_; (with_reducible refine (lines_End.calls k _ _ l0 a1 t182 t183 _ ?side1 ?side2 A7.out).mono ?_); (case side1 => repeat (first | exact HR0.out | (with_reducible refine Kd.C_alloc ?_ _) | (with_reducible refine Kd.C_drewN ?_ _) | (with_reducible refine Kd.C_drew ?_))); (case side2 => exact HC0.out); rintro e w' ⟨rfl, ⟨nd, rfl⟩⟩; refine ⟨_, rfl, ?_⟩))
  go_loopg [17, 18, 19, 20] k (fun kq v17 v18 v19 v20 w' => ∃ (x17_1 : Int) (x18_1 : Int) (x19_1 : Int) (x20_1 : Int), v17 = .int .i64 x17_1 ∧ v18 = .int .i64 x18_1 ∧ v19 = .int .i64 x19_1 ∧ v20 = .int .i64 x20_1 ∧ Aside0 (object_quoted.l0 kq l0 a2 a3 a4 t180 t182 x17_1 x18_1 x19_1 x20_1 = some (r1, r2, r3)) ∧ Aside0 (kq ≤ k) ∧ Drawn0 w w')
  case atStart => exact ⟨((-1)), ((-1)), (0), (t180), (by first | rfl | (simp; done) | (simp [*]; done)), (by first | rfl | (simp; done) | (simp [*]; done)), (by first | rfl | (simp; done) | (simp [*]; done)), (by first | rfl | (simp; done) | (simp [*]; done)), H', ⟨Nat.le_refl _⟩, by repeat (first | exact Drawn0.refl _ | apply Drawn0.step)⟩
  case round =>
    clear H'
    try clear c2
    try clear p2
    try clear c4
    obtain ⟨x17_1, x18_1, x19_1, x20_1, rfl, rfl, rfl, rfl, HA, HK1, ⟨m1, rfl⟩⟩ := hrel
    cases gk with
    | zero => exact absurd HA.out (by simp [object_quoted.l0])
    | succ k1 =>
      have H := HA.out
      clear HA
      simp only [object_quoted.l0] at H
      have HC8 := Aside0.mk H
      clear H
      go_upto_region 5 with (fail)
      go_cut [43] (fun v43 wc => ∃ (kq : Nat) (x43_7 : Bool), v43 = .bool x43_7 ∧ Aside0 (object_quoted.j1 kq l0 a2 a3 a4 t180 t182 x17_1 x18_1 x19_1 x20_1 x43_7 = some (r1, r2, r3)) ∧ Aside0 (kq ≤ k1) ∧ Drawn0 w wc)
      case first =>
        have H := HC8.out
        clear HC8
        by_cases c9 : x20_1 < t182
        · rw [if_pos c9] at H
          have c9b0 : decide (x20_1 < t182) = true := decide_eq_true c9
          clear c9
          (first | rw [c9b0] | (simp only [i64_w, i32_w]; rw [c9b0]) | skip)
          have H' := Aside0.mk H
          clear H
          go_wp2
          go_meet
          case rel => exact ⟨_, (decide (x18_1 < a2)), (by first | rfl | (simp; done) | (simp [*]; done)), H', ⟨by have := HK1.out; first | omega | exact Nat.le_refl _⟩, by repeat (first | exact Drawn0.refl _ | apply Drawn0.step)⟩
        · rw [if_neg c9] at H
          have c9b0 : decide (x20_1 < t182) = false := decide_eq_false c9
          clear c9
          (first | rw [c9b0] | (simp only [i64_w, i32_w]; rw [c9b0]) | skip)
          have H' := Aside0.mk H
          clear H
          go_wp2
          go_meet
          case rel => exact ⟨_, (false), (by first | rfl | (simp; done) | (simp [*]; done)), H', ⟨by have := HK1.out; first | omega | exact Nat.le_refl _⟩, by repeat (first | exact Drawn0.refl _ | apply Drawn0.step)⟩
      case rest =>
        clear HC8
        try clear c2
        try clear p2
        try clear c4
        try clear c9
        try clear c9b0
        try clear p2
        obtain ⟨kq, x43_7, rfl, HA, HJ7, ⟨mc7, rfl⟩⟩ := hcut
        cases kq with
        | zero => exact absurd HA.out (by simp [object_quoted.j1])
        | succ kj7 =>
          have H := HA.out
          clear HA
          simp only [object_quoted.j1] at H
          by_cases c10 : x43_7 = true
          · subst c10
            have H1 : (if 0 ≤ x20_1 then (if x20_1 < (l0.length : Int) then (if (rd l0 x20_1) = a3 then (object_quoted.j2 kj7 l0 a2 a3 a4 t180 t182 x17_1 x18_1 x19_1 x20_1 ((Int.tmod x19_1 2) == 0)) else (object_quoted.j2 kj7 l0 a2 a3 a4 t180 t182 x17_1 x18_1 x19_1 x20_1 false)) else (none)) else (none)) = some (r1, r2, r3) := by rw [if_pos rfl] at H; exact H
            clear H
            have H := H1
            clear H1
            have HC11 := Aside0.mk H
            clear H
            go_upto_region 7 with (fail)
            go_cut [56] (fun v56 wc => ∃ (kq : Nat) (x56_10 : Bool), v56 = .bool x56_10 ∧ Aside0 (object_quoted.j2 kq l0 a2 a3 a4 t180 t182 x17_1 x18_1 x19_1 x20_1 x56_10 = some (r1, r2, r3)) ∧ Aside0 (kq ≤ kj7) ∧ Drawn0 w wc)
            case first =>
              have H := HC11.out
              clear HC11
              by_cases c12 : 0 ≤ x20_1
              · rw [if_pos c12] at H
                have c12b0 : decide (0 ≤ x20_1) = true := decide_eq_true c12
                clear c12
                (first | rw [c12b0] | (simp only [i64_w, i32_w]; rw [c12b0]) | skip)
                by_cases c13 : x20_1 < (l0.length : Int)
                · rw [if_pos c13] at H
                  have c13b0 : decide (x20_1 < (l0.length : Int)) = true := decide_eq_true c13
                  clear c13
                  by_cases c14 : (rd l0 x20_1) = a3
                  · rw [if_pos c14] at H
                    have c14b0 : ((rd l0 x20_1) == a3) = true := beq_iff_eq.mpr c14
                    have c14b1 : ((rd l0 x20_1) != a3) = false := bne_eq_false_iff_eq.mpr c14
                    clear c14
                    have H' := Aside0.mk H
                    clear H
                    have p184 : 0 ≤ (x20_1 : Int) := of_decide_eq_true (by first | (with_reducible assumption) | assumption)
                    have q184 : x20_1 < (l0.length : Int) := of_decide_eq_true (by first | (with_reducible assumption) | assumption)
                    obtain ⟨ad184, e184, hx184_0⟩ := Kd.at_int HR0.out x20_1 p184 q184
                    cases e184
                    replace p184 := eq_true p184
                    replace q184 := eq_true q184
                    go_wp2
                    go_meet
                    case rel => exact ⟨_, (((Int.tmod x19_1 2) == 0)), (by first | rfl | (simp; done) | (simp [*]; done)), H', ⟨by have := HK1.out; have := HJ7.out; first | omega | exact Nat.le_refl _⟩, by repeat (first | exact Drawn0.refl _ | apply Drawn0.step)⟩
                  · rw [if_neg c14] at H
                    have c14b0 : ((rd l0 x20_1) == a3) = false := beq_eq_false_iff_ne.mpr c14
                    have c14b1 : ((rd l0 x20_1) != a3) = true := bne_iff_ne.mpr c14
                    have H' := Aside0.mk H
                    clear H
                    have p184 : 0 ≤ (x20_1 : Int) := of_decide_eq_true (by first | (with_reducible assumption) | assumption)
                    have q184 : x20_1 < (l0.length : Int) := of_decide_eq_true (by first | (with_reducible assumption) | assumption)
                    obtain ⟨ad184, e184, hx184_0⟩ := Kd.at_int HR0.out x20_1 p184 q184
                    cases e184
                    replace p184 := eq_true p184
                    replace q184 := eq_true q184
                    go_wp2
                    go_meet
                    case rel => exact ⟨_, (false), (by first | rfl | (simp; done) | (simp [*]; done)), H', ⟨by have := HK1.out; have := HJ7.out; first | omega | exact Nat.le_refl _⟩, by repeat (first | exact Drawn0.refl _ | apply Drawn0.step)⟩
                · rw [if_neg c13] at H
                  exact absurd H (by simp)
              · rw [if_neg c12] at H
                exact absurd H (by simp)
            case rest =>
              clear HC11
              try clear c1
              try clear p1
              try clear q1
              try clear hx1
              try clear c2
              try clear p2
              try clear c4
              try clear c7
              try clear c9
              try clear c9b0
              try clear c10
              try clear c12
              try clear c12b0
              try clear c13
              try clear c13b0
              try clear c14
              try clear c14b0
              try clear c14b1
              try clear hx184_0
              try clear p184
              try clear p2
              try clear q184
              obtain ⟨kq, x56_10, rfl, HA, HJ10, ⟨mc10, rfl⟩⟩ := hcut
              cases kq with
              | zero => exact absurd HA.out (by simp [object_quoted.j2])
              | succ kj10 =>
                have H := HA.out
                clear HA
                simp only [object_quoted.j2] at H
                by_cases c15 : x56_10 = true
                · subst c15
                  have H1 : (if x17_1 ≥ 0 then (object_quoted.j3 kj10 l0 a2 a3 a4 t180 t182 x17_1 x18_1 x19_1 x20_1 (decide (x18_1 < x17_1))) else (object_quoted.j3 kj10 l0 a2 a3 a4 t180 t182 x17_1 x18_1 x19_1 x20_1 false)) = some (r1, r2, r3) := by rw [if_pos rfl] at H; exact H
                  clear H
                  have H := H1
                  clear H1
                  have HC16 := Aside0.mk H
                  clear H
                  go_upto_region 8 with (fail)
                  go_cut [63] (fun v63 wc => ∃ (kq : Nat) (x63_15 : Bool), v63 = .bool x63_15 ∧ Aside0 (object_quoted.j3 kq l0 a2 a3 a4 t180 t182 x17_1 x18_1 x19_1 x20_1 x63_15 = some (r1, r2, r3)) ∧ Aside0 (kq ≤ kj10) ∧ Drawn0 w wc)
                  case first =>
                    have H := HC16.out
                    clear HC16
                    by_cases c17 : x17_1 ≥ 0
                    · rw [if_pos c17] at H
                      have c17b0 : decide (0 ≤ x17_1) = true := decide_eq_true c17
                      clear c17
                      (first | rw [c17b0] | (simp only [i64_w, i32_w]; rw [c17b0]) | skip)
                      have H' := Aside0.mk H
                      clear H
                      go_wp2
                      go_meet
                      case rel => exact ⟨_, (decide (x18_1 < x17_1)), (by first | rfl | (simp; done) | (simp [*]; done)), H', ⟨by have := HK1.out; have := HJ7.out; have := HJ10.out; first | omega | exact Nat.le_refl _⟩, by repeat (first | exact Drawn0.refl _ | apply Drawn0.step)⟩
                    · rw [if_neg c17] at H
                      have c17b0 : decide (0 ≤ x17_1) = false := decide_eq_false c17
                      clear c17
                      (first | rw [c17b0] | (simp only [i64_w, i32_w]; rw [c17b0]) | skip)
                      have H' := Aside0.mk H
                      clear H
                      go_wp2
                      go_meet
                      case rel => exact ⟨_, (false), (by first | rfl | (simp; done) | (simp [*]; done)), H', ⟨by have := HK1.out; have := HJ7.out; have := HJ10.out; first | omega | exact Nat.le_refl _⟩, by repeat (first | exact Drawn0.refl _ | apply Drawn0.step)⟩
                  case rest =>
                    clear HC16
                    try clear c1
                    try clear p1
                    try clear q1
                    try clear hx1
                    try clear c2
                    try clear p2
                    try clear c4
                    try clear c7
                    try clear c9
                    try clear c9b0
                    try clear c10
                    try clear c12
                    try clear c12b0
                    try clear c13
                    try clear c13b0
                    try clear c14
                    try clear c14b0
                    try clear c14b1
                    try clear c15
                    try clear c17
                    try clear c17b0
                    try clear hx184_0
                    try clear p1
                    try clear p184
                    try clear p2
                    try clear q1
                    try clear q184
                    obtain ⟨kq, x63_15, rfl, HA, HJ15, ⟨mc15, rfl⟩⟩ := hcut
                    cases kq with
                    | zero => exact absurd HA.out (by simp [object_quoted.j3])
                    | succ kj15 =>
                      have H := HA.out
                      clear HA
                      simp only [object_quoted.j3] at H
                      by_cases c18 : x63_15 = true
                      · subst c18
                        have H1 : (if 0 ≤ x20_1 then (if x20_1 < (l0.length : Int) then (if (rd l0 x20_1) = 92 then (object_quoted.l0 kj15 l0 a2 a3 a4 t180 t182 x17_1 x20_1 (wrap64 (x19_1 + 1)) (wrap64 (x20_1 + 1))) else (object_quoted.l0 kj15 l0 a2 a3 a4 t180 t182 x17_1 x20_1 0 (wrap64 (x20_1 + 1)))) else (none)) else (none)) = some (r1, r2, r3) := by rw [if_pos rfl] at H; exact H
                        clear H
                        have H := H1
                        clear H1
                        by_cases c19 : 0 ≤ x20_1
                        · rw [if_pos c19] at H
                          have c19b0 : decide (0 ≤ x20_1) = true := decide_eq_true c19
                          clear c19
                          by_cases c20 : x20_1 < (l0.length : Int)
                          · rw [if_pos c20] at H
                            have c20b0 : decide (x20_1 < (l0.length : Int)) = true := decide_eq_true c20
                            clear c20
                            by_cases c21 : (rd l0 x20_1) = 92
                            · rw [if_pos c21] at H
                              have c21b0 : ((rd l0 x20_1) == 92) = true := beq_iff_eq.mpr c21
                              have c21b1 : ((rd l0 x20_1) != 92) = false := bne_eq_false_iff_eq.mpr c21
                              clear c21
                              have H' := Aside0.mk H
                              clear H
                              have p185 : 0 ≤ (x20_1 : Int) := of_decide_eq_true (by first | (with_reducible assumption) | assumption)
                              have q185 : x20_1 < (l0.length : Int) := of_decide_eq_true (by first | (with_reducible assumption) | assumption)
                              obtain ⟨ad185, e185, hx185_0⟩ := Kd.at_int HR0.out x20_1 p185 q185
                              cases e185
                              replace p185 := eq_true p185
                              replace q185 := eq_true q185
                              go_wp2
                              go_roundg kj15
                              case measure => have := HK1.out; have := HJ7.out; have := HJ10.out; have := HJ15.out; omega
                              case rel => exact ⟨(x17_1), (x20_1), (wrap64 (x19_1 + 1)), (wrap64 (x20_1 + 1)), (by first | rfl | (simp; done) | (simp [*]; done)), (by first | rfl | (simp; done) | (simp [*]; done)), (by first | rfl | (simp; done) | (simp [*]; done)), (by first | rfl | (simp; done) | (simp [*]; done)), H', ⟨by have := HK1.out; have := HJ7.out; have := HJ10.out; have := HJ15.out; omega⟩, by repeat (first | exact Drawn0.refl _ | apply Drawn0.step)⟩
                            · rw [if_neg c21] at H
                              have c21b0 : ((rd l0 x20_1) == 92) = false := beq_eq_false_iff_ne.mpr c21
                              have c21b1 : ((rd l0 x20_1) != 92) = true := bne_iff_ne.mpr c21
                              have H' := Aside0.mk H
                              clear H
                              have p185 : 0 ≤ (x20_1 : Int) := of_decide_eq_true (by first | (with_reducible assumption) | assumption)
                              have q185 : x20_1 < (l0.length : Int) := of_decide_eq_true (by first | (with_reducible assumption) | assumption)
                              obtain ⟨ad185, e185, hx185_0⟩ := Kd.at_int HR0.out x20_1 p185 q185
                              cases e185
                              replace p185 := eq_true p185
                              replace q185 := eq_true q185
                              go_wp2
                              go_roundg kj15
                              case measure => have := HK1.out; have := HJ7.out; have := HJ10.out; have := HJ15.out; omega
                              case rel => exact ⟨(x17_1), (x20_1), (0), (wrap64 (x20_1 + 1)), (by first | rfl | (simp; done) | (simp [*]; done)), (by first | rfl | (simp; done) | (simp [*]; done)), (by first | rfl | (simp; done) | (simp [*]; done)), (by first | rfl | (simp; done) | (simp [*]; done)), H', ⟨by have := HK1.out; have := HJ7.out; have := HJ10.out; have := HJ15.out; omega⟩, by repeat (first | exact Drawn0.refl _ | apply Drawn0.step)⟩
                          · rw [if_neg c20] at H
                            exact absurd H (by simp)
                        · rw [if_neg c19] at H
                          exact absurd H (by simp)
                      · replace c18 := Bool.eq_false_iff.mpr c18
                        subst c18
                        have H1 : (if 0 ≤ x20_1 then (if x20_1 < (l0.length : Int) then (if (rd l0 x20_1) = 92 then (object_quoted.l0 kj15 l0 a2 a3 a4 t180 t182 x20_1 x18_1 (wrap64 (x19_1 + 1)) (wrap64 (x20_1 + 1))) else (object_quoted.l0 kj15 l0 a2 a3 a4 t180 t182 x20_1 x18_1 0 (wrap64 (x20_1 + 1)))) else (none)) else (none)) = some (r1, r2, r3) := by rw [if_neg (show ¬ (false = true) by decide)] at H; exact H
                        clear H
                        have H := H1
                        clear H1
                        by_cases c22 : 0 ≤ x20_1
                        · rw [if_pos c22] at H
                          have c22b0 : decide (0 ≤ x20_1) = true := decide_eq_true c22
                          clear c22
                          by_cases c23 : x20_1 < (l0.length : Int)
                          · rw [if_pos c23] at H
                            have c23b0 : decide (x20_1 < (l0.length : Int)) = true := decide_eq_true c23
                            clear c23
                            by_cases c24 : (rd l0 x20_1) = 92
                            · rw [if_pos c24] at H
                              have c24b0 : ((rd l0 x20_1) == 92) = true := beq_iff_eq.mpr c24
                              have c24b1 : ((rd l0 x20_1) != 92) = false := bne_eq_false_iff_eq.mpr c24
                              clear c24
                              have H' := Aside0.mk H
                              clear H
                              have p186 : 0 ≤ (x20_1 : Int) := of_decide_eq_true (by first | (with_reducible assumption) | assumption)
                              have q186 : x20_1 < (l0.length : Int) := of_decide_eq_true (by first | (with_reducible assumption) | assumption)
                              obtain ⟨ad186, e186, hx186_0⟩ := Kd.at_int HR0.out x20_1 p186 q186
                              cases e186
                              replace p186 := eq_true p186
                              replace q186 := eq_true q186
                              go_wp2
                              go_roundg kj15
                              case measure => have := HK1.out; have := HJ7.out; have := HJ10.out; have := HJ15.out; omega
                              case rel => exact ⟨(x20_1), (x18_1), (wrap64 (x19_1 + 1)), (wrap64 (x20_1 + 1)), (by first | rfl | (simp; done) | (simp [*]; done)), (by first | rfl | (simp; done) | (simp [*]; done)), (by first | rfl | (simp; done) | (simp [*]; done)), (by first | rfl | (simp; done) | (simp [*]; done)), H', ⟨by have := HK1.out; have := HJ7.out; have := HJ10.out; have := HJ15.out; omega⟩, by repeat (first | exact Drawn0.refl _ | apply Drawn0.step)⟩
                            · rw [if_neg c24] at H
                              have c24b0 : ((rd l0 x20_1) == 92) = false := beq_eq_false_iff_ne.mpr c24
                              have c24b1 : ((rd l0 x20_1) != 92) = true := bne_iff_ne.mpr c24
                              have H' := Aside0.mk H
                              clear H
                              have p186 : 0 ≤ (x20_1 : Int) := of_decide_eq_true (by first | (with_reducible assumption) | assumption)
                              have q186 : x20_1 < (l0.length : Int) := of_decide_eq_true (by first | (with_reducible assumption) | assumption)
                              obtain ⟨ad186, e186, hx186_0⟩ := Kd.at_int HR0.out x20_1 p186 q186
                              cases e186
                              replace p186 := eq_true p186
                              replace q186 := eq_true q186
                              go_wp2
                              go_roundg kj15
                              case measure => have := HK1.out; have := HJ7.out; have := HJ10.out; have := HJ15.out; omega
                              case rel => exact ⟨(x20_1), (x18_1), (0), (wrap64 (x20_1 + 1)), (by first | rfl | (simp; done) | (simp [*]; done)), (by first | rfl | (simp; done) | (simp [*]; done)), (by first | rfl | (simp; done) | (simp [*]; done)), (by first | rfl | (simp; done) | (simp [*]; done)), H', ⟨by have := HK1.out; have := HJ7.out; have := HJ10.out; have := HJ15.out; omega⟩, by repeat (first | exact Drawn0.refl _ | apply Drawn0.step)⟩
                          · rw [if_neg c23] at H
                            exact absurd H (by simp)
                        · rw [if_neg c22] at H
                          exact absurd H (by simp)
                · replace c15 := Bool.eq_false_iff.mpr c15
                  subst c15
                  have H1 : (if 0 ≤ x20_1 then (if x20_1 < (l0.length : Int) then (if (rd l0 x20_1) = 92 then (object_quoted.l0 kj10 l0 a2 a3 a4 t180 t182 x17_1 x18_1 (wrap64 (x19_1 + 1)) (wrap64 (x20_1 + 1))) else (object_quoted.l0 kj10 l0 a2 a3 a4 t180 t182 x17_1 x18_1 0 (wrap64 (x20_1 + 1)))) else (none)) else (none)) = some (r1, r2, r3) := by rw [if_neg (show ¬ (false = true) by decide)] at H; exact H
                  clear H
                  have H := H1
                  clear H1
                  by_cases c25 : 0 ≤ x20_1
                  · rw [if_pos c25] at H
                    have c25b0 : decide (0 ≤ x20_1) = true := decide_eq_true c25
                    clear c25
                    by_cases c26 : x20_1 < (l0.length : Int)
                    · rw [if_pos c26] at H
                      have c26b0 : decide (x20_1 < (l0.length : Int)) = true := decide_eq_true c26
                      clear c26
                      by_cases c27 : (rd l0 x20_1) = 92
                      · rw [if_pos c27] at H
                        have c27b0 : ((rd l0 x20_1) == 92) = true := beq_iff_eq.mpr c27
                        have c27b1 : ((rd l0 x20_1) != 92) = false := bne_eq_false_iff_eq.mpr c27
                        clear c27
                        have H' := Aside0.mk H
                        clear H
                        have p187 : 0 ≤ (x20_1 : Int) := of_decide_eq_true (by first | (with_reducible assumption) | assumption)
                        have q187 : x20_1 < (l0.length : Int) := of_decide_eq_true (by first | (with_reducible assumption) | assumption)
                        obtain ⟨ad187, e187, hx187_0⟩ := Kd.at_int HR0.out x20_1 p187 q187
                        cases e187
                        replace p187 := eq_true p187
                        replace q187 := eq_true q187
                        go_wp2
                        go_roundg kj10
                        case measure => have := HK1.out; have := HJ7.out; have := HJ10.out; omega
                        case rel => exact ⟨(x17_1), (x18_1), (wrap64 (x19_1 + 1)), (wrap64 (x20_1 + 1)), (by first | rfl | (simp; done) | (simp [*]; done)), (by first | rfl | (simp; done) | (simp [*]; done)), (by first | rfl | (simp; done) | (simp [*]; done)), (by first | rfl | (simp; done) | (simp [*]; done)), H', ⟨by have := HK1.out; have := HJ7.out; have := HJ10.out; omega⟩, by repeat (first | exact Drawn0.refl _ | apply Drawn0.step)⟩
                      · rw [if_neg c27] at H
                        have c27b0 : ((rd l0 x20_1) == 92) = false := beq_eq_false_iff_ne.mpr c27
                        have c27b1 : ((rd l0 x20_1) != 92) = true := bne_iff_ne.mpr c27
                        have H' := Aside0.mk H
                        clear H
                        have p187 : 0 ≤ (x20_1 : Int) := of_decide_eq_true (by first | (with_reducible assumption) | assumption)
                        have q187 : x20_1 < (l0.length : Int) := of_decide_eq_true (by first | (with_reducible assumption) | assumption)
                        obtain ⟨ad187, e187, hx187_0⟩ := Kd.at_int HR0.out x20_1 p187 q187
                        cases e187
                        replace p187 := eq_true p187
                        replace q187 := eq_true q187
                        go_wp2
                        go_roundg kj10
                        case measure => have := HK1.out; have := HJ7.out; have := HJ10.out; omega
                        case rel => exact ⟨(x17_1), (x18_1), (0), (wrap64 (x20_1 + 1)), (by first | rfl | (simp; done) | (simp [*]; done)), (by first | rfl | (simp; done) | (simp [*]; done)), (by first | rfl | (simp; done) | (simp [*]; done)), (by first | rfl | (simp; done) | (simp [*]; done)), H', ⟨by have := HK1.out; have := HJ7.out; have := HJ10.out; omega⟩, by repeat (first | exact Drawn0.refl _ | apply Drawn0.step)⟩
                    · rw [if_neg c26] at H
                      exact absurd H (by simp)
                  · rw [if_neg c25] at H
                    exact absurd H (by simp)
          · replace c10 := Bool.eq_false_iff.mpr c10
            subst c10
            have H1 : (if x17_1 < 0 then (object_quoted.j4 kj7 l0 a4 t180 t182 x17_1 x18_1 true) else (if x18_1 < x17_1 then (object_quoted.j4 kj7 l0 a4 t180 t182 x17_1 x18_1 true) else (object_quoted.j4 kj7 l0 a4 t180 t182 x17_1 x18_1 (decide (x18_1 < a2))))) = some (r1, r2, r3) := by rw [if_neg (show ¬ (false = true) by decide)] at H; exact H
            clear H
            have H := H1
            clear H1
            have HC28 := Aside0.mk H
            clear H
            go_upto_region 14 with (fail)
            go_cut [84] (fun v84 wc => ∃ (kq : Nat) (x84_27 : Bool), v84 = .bool x84_27 ∧ Aside0 (object_quoted.j4 kq l0 a4 t180 t182 x17_1 x18_1 x84_27 = some (r1, r2, r3)) ∧ Aside0 (kq ≤ kj7) ∧ Drawn0 w wc)
            case first =>
              have H := HC28.out
              clear HC28
              by_cases c29 : x17_1 < 0
              · rw [if_pos c29] at H
                have c29b0 : decide (x17_1 < 0) = true := decide_eq_true c29
                clear c29
                (first | rw [c29b0] | (simp only [i64_w, i32_w]; rw [c29b0]) | skip)
                have H' := Aside0.mk H
                clear H
                go_wp2
                go_meet
                case rel => exact ⟨_, (true), (by first | rfl | (simp; done) | (simp [*]; done)), H', ⟨by have := HK1.out; have := HJ7.out; first | omega | exact Nat.le_refl _⟩, by repeat (first | exact Drawn0.refl _ | apply Drawn0.step)⟩
              · rw [if_neg c29] at H
                have c29b0 : decide (x17_1 < 0) = false := decide_eq_false c29
                clear c29
                (first | rw [c29b0] | (simp only [i64_w, i32_w]; rw [c29b0]) | skip)
                by_cases c30 : x18_1 < x17_1
                · rw [if_pos c30] at H
                  have c30b0 : decide (x18_1 < x17_1) = true := decide_eq_true c30
                  clear c30
                  have H' := Aside0.mk H
                  clear H
                  go_wp2
                  go_meet
                  case rel => exact ⟨_, (true), (by first | rfl | (simp; done) | (simp [*]; done)), H', ⟨by have := HK1.out; have := HJ7.out; first | omega | exact Nat.le_refl _⟩, by repeat (first | exact Drawn0.refl _ | apply Drawn0.step)⟩
                · rw [if_neg c30] at H
                  have c30b0 : decide (x18_1 < x17_1) = false := decide_eq_false c30
                  clear c30
                  have H' := Aside0.mk H
                  clear H
                  go_wp2
                  go_meet
                  case rel => exact ⟨_, (decide (x18_1 < a2)), (by first | rfl | (simp; done) | (simp [*]; done)), H', ⟨by have := HK1.out; have := HJ7.out; first | omega | exact Nat.le_refl _⟩, by repeat (first | exact Drawn0.refl _ | apply Drawn0.step)⟩
            case rest =>
              clear HC28
              try clear c1
              try clear p1
              try clear q1
              try clear hx1
              try clear c2
              try clear p2
              try clear c3
              try clear c4
              try clear p6
              try clear c7
              try clear c9
              try clear c9b0
              try clear c10
              try clear c12
              try clear c12b0
              try clear c13
              try clear c13b0
              try clear c14
              try clear c14b0
              try clear c14b1
              try clear c15
              try clear c17
              try clear c17b0
              try clear c18
              try clear p18
              try clear q18
              try clear hx18
              try clear c19
              try clear c19b0
              try clear c20
              try clear c20b0
              try clear c21
              try clear c21b0
              try clear c21b1
              try clear c22
              try clear c22b0
              try clear c23
              try clear c23b0
              try clear c24
              try clear c24b0
              try clear c24b1
              try clear c25
              try clear c25b0
              try clear c26
              try clear c26b0
              try clear c27
              try clear c27b0
              try clear c27b1
              try clear c29
              try clear c29b0
              try clear c30
              try clear c30b0
              try clear hx184_0
              try clear hx185_0
              try clear hx186_0
              try clear hx187_0
              try clear p1
              try clear p184
              try clear p185
              try clear p186
              try clear p187
              try clear p2
              try clear q1
              try clear q184
              try clear q185
              try clear q186
              try clear q187
              obtain ⟨kq, x84_27, rfl, HA, HJ27, ⟨mc27, rfl⟩⟩ := hcut
              cases kq with
              | zero => exact absurd HA.out (by simp [object_quoted.j4])
              | succ kj27 =>
                have H := HA.out
                clear HA
                simp only [object_quoted.j4] at H
                by_cases c31 : x84_27 = true
                · subst c31
                  have H1 : (some (0, 0, false)) = some (r1, r2, r3) := by rw [if_pos rfl] at H; exact H
                  clear H
                  have H := H1
                  clear H1
                  simp only [Option.some.injEq, Prod.mk.injEq] at H
                  obtain ⟨rfl, rfl, rfl⟩ := H
                  go_wp2
                  go_ret3
                  exact ⟨by first | rfl | (simp; done) | (simp [*]; done), by repeat (first | exact Drawn0.refl _ | apply Drawn0.step)⟩
                · replace c31 := Bool.eq_false_iff.mpr c31
                  subst c31
                  have H1 : (if a4 = true then (object_quoted.l1 kj27 l0 t180 t182 x18_1 x17_1 (wrap64 (x18_1 + 1))) else (some (wrap64 (x17_1 + 1), x18_1, true))) = some (r1, r2, r3) := by rw [if_neg (show ¬ (false = true) by decide)] at H; exact H
                  clear H
                  have H := H1
                  clear H1
                  by_cases c32 : a4 = true
                  · subst c32
                    have H1 : (object_quoted.l1 kj27 l0 t180 t182 x18_1 x17_1 (wrap64 (x18_1 + 1))) = some (r1, r2, r3) := by rw [if_pos rfl] at H; exact H
                    clear H
                    have H := H1
                    clear H1
                    have HC33 := Aside0.mk H
                    clear H
                    go_upto_block 2 with (fail)
                    go_cut [22] (fun v22 wc => ∃ (kq : Nat) (x22_32 : Int), v22 = .int .i64 x22_32 ∧ Aside0 (object_quoted.j6 kq l0 t180 x18_1 x17_1 x22_32 = some (r1, r2, r3)) ∧ Aside0 (kq ≤ kj27) ∧ Drawn0 w wc)
                    case first =>
                      have H := HC33.out
                      clear HC33
                      have H' := Aside0.mk H
                      clear H
                      go_wp2
                      go_loopg [22] kj27 (fun kq v22 w' => ∃ (x22_4 : Int), v22 = .int .i64 x22_4 ∧ Aside0 (object_quoted.l1 kq l0 t180 t182 x18_1 x17_1 x22_4 = some (r1, r2, r3)) ∧ Aside0 (kq ≤ kj27) ∧ Drawn0 w w')
                      case atStart => exact ⟨(wrap64 (x18_1 + 1)), (by first | rfl | (simp; done) | (simp [*]; done)), H', ⟨Nat.le_refl _⟩, by repeat (first | exact Drawn0.refl _ | apply Drawn0.step)⟩
                      case round =>
                        clear H'
                        try clear c1
                        try clear p1
                        try clear q1
                        try clear hx1
                        try clear c2
                        try clear p2
                        try clear c3
                        try clear c4
                        try clear p6
                        try clear c7
                        try clear c9
                        try clear c9b0
                        try clear c10
                        try clear c12
                        try clear c12b0
                        try clear c13
                        try clear c13b0
                        try clear c14
                        try clear c14b0
                        try clear c14b1
                        try clear c15
                        try clear c17
                        try clear c17b0
                        try clear c18
                        try clear p18
                        try clear q18
                        try clear hx18
                        try clear c19
                        try clear c19b0
                        try clear c20
                        try clear c20b0
                        try clear c21
                        try clear c21b0
                        try clear c21b1
                        try clear c22
                        try clear c22b0
                        try clear c23
                        try clear c23b0
                        try clear c24
                        try clear c24b0
                        try clear c24b1
                        try clear c25
                        try clear c25b0
                        try clear c26
                        try clear c26b0
                        try clear c27
                        try clear c27b0
                        try clear c27b1
                        try clear c29
                        try clear c29b0
                        try clear c30
                        try clear c30b0
                        try clear c31
                        try clear c32
                        try clear hx184_0
                        try clear hx185_0
                        try clear hx186_0
                        try clear hx187_0
                        try clear p1
                        try clear p18
                        try clear p184
                        try clear p185
                        try clear p186
                        try clear p187
                        try clear p2
                        try clear p6
                        try clear q1
                        try clear q18
                        try clear q184
                        try clear q185
                        try clear q186
                        try clear q187
                        obtain ⟨x22_4, rfl, HA, HK4, ⟨m4, rfl⟩⟩ := hrel
                        cases gk with
                        | zero => exact absurd HA.out (by simp [object_quoted.l1])
                        | succ k4 =>
                          have H := HA.out
                          clear HA
                          simp only [object_quoted.l1] at H
                          by_cases c34 : x22_4 < t182
                          · rw [if_pos c34] at H
                            have c34b0 : decide (x22_4 < t182) = true := decide_eq_true c34
                            clear c34
                            (first | rw [c34b0] | (simp only [i64_w, i32_w]; rw [c34b0]) | skip)
                            by_cases c35 : 0 ≤ x22_4
                            · rw [if_pos c35] at H
                              have c35b0 : decide (0 ≤ x22_4) = true := decide_eq_true c35
                              clear c35
                              by_cases c36 : x22_4 < (l0.length : Int)
                              · rw [if_pos c36] at H
                                have c36b0 : decide (x22_4 < (l0.length : Int)) = true := decide_eq_true c36
                                clear c36
                                replace H := Option.bind_eq_some_iff.mp H
                                obtain ⟨t189, A370, H⟩ := H
                                replace H : (if t189 = 0 then (object_quoted.l1 k4 l0 t180 t182 x18_1 x17_1 (wrap64 (x22_4 + 1))) else (object_quoted.j6 k4 l0 t180 x18_1 x17_1 x22_4)) = some (r1, r2, r3) := H
                                have A37 := Aside0.mk A370
                                clear A370
                                by_cases c38 : t189 = 0
                                · rw [if_pos c38] at H
                                  have c38b0 : (t189 == 0) = true := beq_iff_eq.mpr c38
                                  have c38b1 : (t189 != 0) = false := bne_eq_false_iff_eq.mpr c38
                                  clear c38
                                  have H' := Aside0.mk H
                                  clear H
                                  have p188 : 0 ≤ (x22_4 : Int) := of_decide_eq_true (by first | (with_reducible assumption) | assumption)
                                  have q188 : x22_4 < (l0.length : Int) := of_decide_eq_true (by first | (with_reducible assumption) | assumption)
                                  obtain ⟨ad188, e188, hx188_0⟩ := Kd.at_int HR0.out x22_4 p188 q188
                                  cases e188
                                  replace p188 := eq_true p188
                                  replace q188 := eq_true q188
                                  go_wp2_with (first | (go_at_call 15; (with_reducible refine (class_Of.calls k4 (rd l0 x22_4) false t189 _ A37.out).mono ?_); rintro e w' ⟨rfl, ⟨nd, rfl⟩⟩))
                                  go_roundg k4
                                  case measure => have := HK1.out; have := HJ7.out; have := HJ27.out; have := HK4.out; omega
                                  case rel => exact ⟨(wrap64 (x22_4 + 1)), (by first | rfl | (simp; done) | (simp [*]; done)), H', ⟨by have := HK1.out; have := HJ7.out; have := HJ27.out; have := HK4.out; omega⟩, by repeat (first | exact Drawn0.refl _ | apply Drawn0.step)⟩
                                · rw [if_neg c38] at H
                                  have c38b0 : (t189 == 0) = false := beq_eq_false_iff_ne.mpr c38
                                  have c38b1 : (t189 != 0) = true := bne_iff_ne.mpr c38
                                  have H' := Aside0.mk H
                                  clear H
                                  have p188 : 0 ≤ (x22_4 : Int) := of_decide_eq_true (by first | (with_reducible assumption) | assumption)
                                  have q188 : x22_4 < (l0.length : Int) := of_decide_eq_true (by first | (with_reducible assumption) | assumption)
                                  obtain ⟨ad188, e188, hx188_0⟩ := Kd.at_int HR0.out x22_4 p188 q188
                                  cases e188
                                  replace p188 := eq_true p188
                                  replace q188 := eq_true q188
                                  go_wp2_with (first | (go_at_call 15; (with_reducible refine (class_Of.calls k4 (rd l0 x22_4) false t189 _ A37.out).mono ?_); rintro e w' ⟨rfl, ⟨nd, rfl⟩⟩))
                                  go_meet
                                  case rel => exact ⟨_, (x22_4), (by first | rfl | (simp; done) | (simp [*]; done)), H', ⟨by have := HK1.out; have := HJ7.out; have := HJ27.out; have := HK4.out; first | omega | exact Nat.le_refl _⟩, by repeat (first | exact Drawn0.refl _ | apply Drawn0.step)⟩
                              · rw [if_neg c36] at H
                                exact absurd H (by simp)
                            · rw [if_neg c35] at H
                              exact absurd H (by simp)
                          · rw [if_neg c34] at H
                            have c34b0 : decide (x22_4 < t182) = false := decide_eq_false c34
                            clear c34
                            (first | rw [c34b0] | (simp only [i64_w, i32_w]; rw [c34b0]) | skip)
                            have H' := Aside0.mk H
                            clear H
                            go_wp2
                            go_meet
                            case rel => exact ⟨_, (x22_4), (by first | rfl | (simp; done) | (simp [*]; done)), H', ⟨by have := HK1.out; have := HJ7.out; have := HJ27.out; have := HK4.out; first | omega | exact Nat.le_refl _⟩, by repeat (first | exact Drawn0.refl _ | apply Drawn0.step)⟩
                    case rest =>
                      clear HC33
                      try clear c1
                      try clear p1
                      try clear q1
                      try clear hx1
                      try clear c2
                      try clear p2
                      try clear c3
                      try clear c4
                      try clear p6
                      try clear c7
                      try clear c9
                      try clear c9b0
                      try clear c10
                      try clear c12
                      try clear c12b0
                      try clear c13
                      try clear c13b0
                      try clear c14
                      try clear c14b0
                      try clear c14b1
                      try clear c15
                      try clear c17
                      try clear c17b0
                      try clear c18
                      try clear p18
                      try clear q18
                      try clear hx18
                      try clear c19
                      try clear c19b0
                      try clear c20
                      try clear c20b0
                      try clear c21
                      try clear c21b0
                      try clear c21b1
                      try clear c22
                      try clear c22b0
                      try clear c23
                      try clear c23b0
                      try clear c24
                      try clear c24b0
                      try clear c24b1
                      try clear c25
                      try clear c25b0
                      try clear c26
                      try clear c26b0
                      try clear c27
                      try clear c27b0
                      try clear c27b1
                      try clear c29
                      try clear c29b0
                      try clear c30
                      try clear c30b0
                      try clear c31
                      try clear c32
                      try clear c34
                      try clear c34b0
                      try clear c35
                      try clear c35b0
                      try clear c36
                      try clear c36b0
                      try clear c38
                      try clear c38b0
                      try clear c38b1
                      try clear hx184_0
                      try clear hx185_0
                      try clear hx186_0
                      try clear hx187_0
                      try clear hx188_0
                      try clear p1
                      try clear p18
                      try clear p184
                      try clear p185
                      try clear p186
                      try clear p187
                      try clear p188
                      try clear p2
                      try clear p6
                      try clear q1
                      try clear q18
                      try clear q184
                      try clear q185
                      try clear q186
                      try clear q187
                      try clear q188
                      obtain ⟨kq, x22_32, rfl, HA, HJ32, ⟨mc32, rfl⟩⟩ := hcut
                      cases kq with
                      | zero => exact absurd HA.out (by simp [object_quoted.j6])
                      | succ kj32 =>
                        have H := HA.out
                        clear HA
                        simp only [object_quoted.j6] at H
                        by_cases c39 : x22_32 = (wrap64 (x18_1 + 1))
                        · rw [if_pos c39] at H
                          have c39b0 : (x22_32 == (wrap64 (x18_1 + 1))) = true := beq_iff_eq.mpr c39
                          have c39b1 : (x22_32 != (wrap64 (x18_1 + 1))) = false := bne_eq_false_iff_eq.mpr c39
                          clear c39
                          have H' := Aside0.mk H
                          clear H
                          go_wp2
                          go_loopg [21] kj32 (fun kq v21 w' => ∃ (x21_5 : Int), v21 = .int .i64 x21_5 ∧ Aside0 (object_quoted.l2 kq l0 t180 x21_5 x22_32 = some (r1, r2, r3)) ∧ Aside0 (kq ≤ kj32) ∧ Drawn0 w w')
                          case atStart => exact ⟨(x17_1), (by first | rfl | (simp; done) | (simp [*]; done)), H', ⟨Nat.le_refl _⟩, by repeat (first | exact Drawn0.refl _ | apply Drawn0.step)⟩
                          case round =>
                            clear H'
                            try clear c1
                            try clear p1
                            try clear q1
                            try clear hx1
                            try clear c2
                            try clear p2
                            try clear c3
                            try clear c4
                            try clear p6
                            try clear c7
                            try clear c9
                            try clear c9b0
                            try clear c10
                            try clear c12
                            try clear c12b0
                            try clear c13
                            try clear c13b0
                            try clear c14
                            try clear c14b0
                            try clear c14b1
                            try clear c15
                            try clear c17
                            try clear c17b0
                            try clear c18
                            try clear p18
                            try clear q18
                            try clear hx18
                            try clear c19
                            try clear c19b0
                            try clear c20
                            try clear c20b0
                            try clear c21
                            try clear c21b0
                            try clear c21b1
                            try clear c22
                            try clear c22b0
                            try clear c23
                            try clear c23b0
                            try clear c24
                            try clear c24b0
                            try clear c24b1
                            try clear c25
                            try clear c25b0
                            try clear c26
                            try clear c26b0
                            try clear c27
                            try clear c27b0
                            try clear c27b1
                            try clear c29
                            try clear c29b0
                            try clear c30
                            try clear c30b0
                            try clear c31
                            try clear c32
                            try clear c34
                            try clear c34b0
                            try clear c35
                            try clear c35b0
                            try clear c36
                            try clear c36b0
                            try clear c38
                            try clear c38b0
                            try clear c38b1
                            try clear c39
                            try clear c39b0
                            try clear c39b1
                            try clear hx184_0
                            try clear hx185_0
                            try clear hx186_0
                            try clear hx187_0
                            try clear hx188_0
                            try clear p1
                            try clear p18
                            try clear p184
                            try clear p185
                            try clear p186
                            try clear p187
                            try clear p188
                            try clear p2
                            try clear p6
                            try clear q1
                            try clear q18
                            try clear q184
                            try clear q185
                            try clear q186
                            try clear q187
                            try clear q188
                            obtain ⟨x21_5, rfl, HA, HK5, ⟨m5, rfl⟩⟩ := hrel
                            cases gk with
                            | zero => exact absurd HA.out (by simp [object_quoted.l2])
                            | succ k5 =>
                              have H := HA.out
                              clear HA
                              simp only [object_quoted.l2] at H
                              by_cases c40 : x21_5 > t180
                              · rw [if_pos c40] at H
                                have c40b0 : decide (t180 < x21_5) = true := decide_eq_true c40
                                clear c40
                                obtain ⟨ji41, hji41⟩ : ∃ j_ : Int, (wrap64 (x21_5 - 1)) = j_ := ⟨_, rfl⟩
                                replace H : (if 0 ≤ (ji41) then (if (ji41) < (l0.length : Int) then ((class_Of.f k5 (rd l0 (ji41)) false).bind fun t191 => (if t191 = 0 then (object_quoted.l2 k5 l0 t180 ji41 x22_32) else (some (x21_5, x22_32, true)))) else (none)) else (none)) = some (r1, r2, r3) := by first | (rw [hji41] at H; exact H) | (simp only [hji41] at H ⊢; exact H)
                                have hji41w : (IntKind.i64.wrap (x21_5 - 1)) = ji41 := (i64_w _).trans hji41
                                by_cases c42 : 0 ≤ (ji41)
                                · rw [if_pos c42] at H
                                  have c42b0 : decide (0 ≤ (ji41)) = true := decide_eq_true c42
                                  clear c42
                                  by_cases c43 : (ji41) < (l0.length : Int)
                                  · rw [if_pos c43] at H
                                    have c43b0 : decide ((ji41) < (l0.length : Int)) = true := decide_eq_true c43
                                    clear c43
                                    replace H := Option.bind_eq_some_iff.mp H
                                    obtain ⟨t191, A440, H⟩ := H
                                    replace H : (if t191 = 0 then (object_quoted.l2 k5 l0 t180 ji41 x22_32) else (some (x21_5, x22_32, true))) = some (r1, r2, r3) := H
                                    have A44 := Aside0.mk A440
                                    clear A440
                                    by_cases c45 : t191 = 0
                                    · rw [if_pos c45] at H
                                      have c45b0 : (t191 == 0) = true := beq_iff_eq.mpr c45
                                      have c45b1 : (t191 != 0) = false := bne_eq_false_iff_eq.mpr c45
                                      clear c45
                                      have H' := Aside0.mk H
                                      clear H
                                      have p190 : 0 ≤ ((ji41) : Int) := of_decide_eq_true (by first | (with_reducible assumption) | assumption)
                                      have q190 : (ji41) < (l0.length : Int) := of_decide_eq_true (by first | (with_reducible assumption) | assumption)
                                      obtain ⟨ad190, e190, hx190_0⟩ := Kd.at_int HR0.out (ji41) p190 q190
                                      cases e190
                                      replace p190 := eq_true p190
                                      replace q190 := eq_true q190
                                      go_wp2_with (first | (go_at_call 15; (with_reducible refine (class_Of.calls k5 (rd l0 (ji41)) false t191 _ A44.out).mono ?_); rintro e w' ⟨rfl, ⟨nd, rfl⟩⟩))
                                      go_roundg k5
                                      case measure => have := HK1.out; have := HJ7.out; have := HJ27.out; have := HJ32.out; have := HK5.out; omega
                                      case rel => exact ⟨(ji41), (by first | rfl | (simp; done) | (simp only [← hji41] <;> (first | rfl | simp)) | (simp [*]; done)), H', ⟨by have := HK1.out; have := HJ7.out; have := HJ27.out; have := HJ32.out; have := HK5.out; omega⟩, by repeat (first | exact Drawn0.refl _ | apply Drawn0.step)⟩
                                    · rw [if_neg c45] at H
                                      have c45b0 : (t191 == 0) = false := beq_eq_false_iff_ne.mpr c45
                                      have c45b1 : (t191 != 0) = true := bne_iff_ne.mpr c45
                                      simp only [Option.some.injEq, Prod.mk.injEq] at H
                                      obtain ⟨rfl, rfl, rfl⟩ := H
                                      have p190 : 0 ≤ ((ji41) : Int) := of_decide_eq_true (by first | (with_reducible assumption) | assumption)
                                      have q190 : (ji41) < (l0.length : Int) := of_decide_eq_true (by first | (with_reducible assumption) | assumption)
                                      obtain ⟨ad190, e190, hx190_0⟩ := Kd.at_int HR0.out (ji41) p190 q190
                                      cases e190
                                      replace p190 := eq_true p190
                                      replace q190 := eq_true q190
                                      go_wp2_with (first | (go_at_call 15; (with_reducible refine (class_Of.calls k5 (rd l0 (ji41)) false t191 _ A44.out).mono ?_); rintro e w' ⟨rfl, ⟨nd, rfl⟩⟩))
                                      go_ret3
                                      exact ⟨by first | rfl | (simp; done) | (simp only [← hji41] <;> (first | rfl | simp)) | (simp [*]; done), by repeat (first | exact Drawn0.refl _ | apply Drawn0.step)⟩
                                  · rw [if_neg c43] at H
                                    exact absurd H (by simp)
                                · rw [if_neg c42] at H
                                  exact absurd H (by simp)
                              · rw [if_neg c40] at H
                                have c40b0 : decide (t180 < x21_5) = false := decide_eq_false c40
                                clear c40
                                simp only [Option.some.injEq, Prod.mk.injEq] at H
                                obtain ⟨rfl, rfl, rfl⟩ := H
                                go_wp2
                                go_ret3
                                exact ⟨by first | rfl | (simp; done) | (simp [*]; done), by repeat (first | exact Drawn0.refl _ | apply Drawn0.step)⟩
                        · rw [if_neg c39] at H
                          have c39b0 : (x22_32 == (wrap64 (x18_1 + 1))) = false := beq_eq_false_iff_ne.mpr c39
                          have c39b1 : (x22_32 != (wrap64 (x18_1 + 1))) = true := bne_iff_ne.mpr c39
                          simp only [Option.some.injEq, Prod.mk.injEq] at H
                          obtain ⟨rfl, rfl, rfl⟩ := H
                          go_wp2
                          go_ret3
                          exact ⟨by first | rfl | (simp; done) | (simp [*]; done), by repeat (first | exact Drawn0.refl _ | apply Drawn0.step)⟩
                  · replace c32 := Bool.eq_false_iff.mpr c32
                    subst c32
                    have H1 : (some (wrap64 (x17_1 + 1), x18_1, true)) = some (r1, r2, r3) := by rw [if_neg (show ¬ (false = true) by decide)] at H; exact H
                    clear H
                    have H := H1
                    clear H1
                    simp only [Option.some.injEq, Prod.mk.injEq] at H
                    obtain ⟨rfl, rfl, rfl⟩ := H
                    go_wp2
                    go_ret3
                    exact ⟨by first | rfl | (simp; done) | (simp [*]; done), by repeat (first | exact Drawn0.refl _ | apply Drawn0.step)⟩

end Go.Proofs.YtcochbkdgjgaeaaDoor.X
end
section
-- Written by wip/xprint.py over the kit's print.py: the Lean function of each Go function, and the proof that the Go text comes to it.
namespace Go.Proofs.YtcochbkdgjgaeaaDoor.X
open Go.RowKit Go.Proofs.YtcochbkdgjgaeaaDoorW.PrintWords Go.Proofs.YtcochbkdgjgaeaaDoorW.PrintLast Go.Proofs.YtcochbkdgjgaeaaDoorW.PrintMore
attribute [local go_sem] max2_int min2_int max_two min_two max_three min_three max_four min_four   -- for this text's walks alone
set_option linter.unusedVariables false
set_option linter.unusedSimpArgs false

/-! ### stringslite_IndexByte: function 49, by hand -/
def stringslite_IndexByte.f (a0 : ByteArray) (a1 : Int) : Option (Int) := some (Lib.indexByte a0.data.toList a1.toNat.toUInt8)
set_option maxHeartbeats 2000000 in
set_option maxRecDepth 1000000 in
theorem stringslite_IndexByte.calls (a0 : ByteArray) (a1 : Int) (r : Int) (w : World) (h : stringslite_IndexByte.f a0 a1 = some r) :
    Calls Tryd.prog 49 #[.string a0, .int .u8 a1] w fun e w' => e = .returned (.int .i64 r) ∧ Drawn0 w w' := by
  unfold stringslite_IndexByte.f at h
  obtain rfl := Option.some.inj h
  clear h
  go_enter Tryd.func49, Tryd.ntmps49
  go_wp2
  rw [run_callFunc_extern Tryd.func61 (by kernel_rfl) (by kernel_rfl) (by kernel_rfl) (e := Extern.BytealgIndexByte.indexByte) (by kernel_rfl), Lib.run_indexByteString]
  simp only [Result.andThen]
  rw [Oper.upon_value]
  go_wp2
  go_ret
  exact ⟨rfl, Drawn0.refl _⟩

end Go.Proofs.YtcochbkdgjgaeaaDoor.X
end
section
-- Written by wip/xprint.py over the kit's print.py: the Lean function of each Go function, and the proof that the Go text comes to it.
namespace Go.Proofs.YtcochbkdgjgaeaaDoor.X
open Go.RowKit Go.Proofs.YtcochbkdgjgaeaaDoorW.PrintWords Go.Proofs.YtcochbkdgjgaeaaDoorW.PrintLast Go.Proofs.YtcochbkdgjgaeaaDoorW.PrintMore
attribute [local go_sem] max2_int min2_int max_two min_two max_three min_three max_four min_four   -- for this text's walks alone
set_option linter.unusedVariables false
set_option linter.unusedSimpArgs false

/-! ### strings_IndexByte: function 30 -/
def strings_IndexByte.f (a0 : ByteArray) (a1 : Int) : Option (Int) := (stringslite_IndexByte.f a0 a1).bind fun t192 => (some t192)
set_option maxHeartbeats 8000000 in
set_option maxRecDepth 100000 in
theorem strings_IndexByte.calls (a0 : ByteArray) (a1 : Int) (r : Int) (w : World) (h : strings_IndexByte.f a0 a1 = some r) :
    Calls Tryd.prog 30 #[.string a0, .int .u8 a1] w fun e w' => e = .returned (.int .i64 r) ∧ Drawn0 w w' := by
  have H : ((stringslite_IndexByte.f a0 a1).bind fun t192 => (some t192)) = some r := h
  clear h
  replace H := Option.bind_eq_some_iff.mp H
  obtain ⟨t192, A30, H⟩ := H
  replace H : (some t192) = some r := H
  have A3 := Aside0.mk A30
  clear A30
  obtain rfl := Option.some.inj H
  go_enter Tryd.func30, Tryd.ntmps30
  go_wp2_with (first | ((with_reducible refine gate_callee (f := 49) rfl ?_); refine goesL_ (some 7) rfl rfl Tryd.func49 (by kernel_rfl) rfl #[.string a0, .int .u8 a1] rfl (by (try simp only [List.map_toArray, List.map_cons, List.map_nil]); first | done | rfl | (simp only [List.length_drop, List.length_take]; rfl)) ?_; (with_reducible refine (stringslite_IndexByte.calls a0 a1 t192 _ A3.out).mono ?_); rintro e w' ⟨rfl, ⟨nd, rfl⟩⟩; refine ⟨_, rfl, ?_⟩))
  go_ret
  exact ⟨by first | rfl | (simp; done) | (simp [*]; done), by repeat (first | exact Drawn0.refl _ | apply Drawn0.step)⟩

end Go.Proofs.YtcochbkdgjgaeaaDoor.X
end
section
-- Written by wip/xprint.py over the kit's print.py: the Lean function of each Go function, and the proof that the Go text comes to it.
namespace Go.Proofs.YtcochbkdgjgaeaaDoor.X
open Go.RowKit Go.Proofs.YtcochbkdgjgaeaaDoorW.PrintWords Go.Proofs.YtcochbkdgjgaeaaDoorW.PrintLast Go.Proofs.YtcochbkdgjgaeaaDoorW.PrintMore
attribute [local go_sem] max2_int min2_int max_two min_two max_three min_three max_four min_four   -- for this text's walks alone
set_option linter.unusedVariables false
set_option linter.unusedSimpArgs false

/-! ### class_Partner: function 50 -/
def class_Partner.f (a0 : Int) : Option (Int × Bool × Bool) := (strings_IndexByte.f (⟨#[40, 41, 91, 93, 123, 125]⟩ : ByteArray) a0).bind fun t193 => (if t193 < 0 then (some (0, false, false)) else (if 0 ≤ (Go.bits .xor .i64 t193 1) then (if (Go.bits .xor .i64 t193 1) < 6 then (some (bt (⟨#[40, 41, 91, 93, 123, 125]⟩ : ByteArray) (Go.bits .xor .i64 t193 1), ((Int.tmod t193 2) == 0), true)) else (none)) else (none)))
set_option maxHeartbeats 8000000 in
set_option maxRecDepth 100000 in
theorem class_Partner.calls (a0 : Int) (r1 : Int) (r2 : Bool) (r3 : Bool) (w : World) (h : class_Partner.f a0 = some (r1, r2, r3)) :
    Calls Tryd.prog 50 #[.int .u8 a0] w fun e w' => e = .returned (.tuple #[.int .u8 r1, .bool r2, .bool r3]) ∧ Drawn0 w w' := by
  have H : ((strings_IndexByte.f (⟨#[40, 41, 91, 93, 123, 125]⟩ : ByteArray) a0).bind fun t193 => (if t193 < 0 then (some (0, false, false)) else (if 0 ≤ (Go.bits .xor .i64 t193 1) then (if (Go.bits .xor .i64 t193 1) < 6 then (some (bt (⟨#[40, 41, 91, 93, 123, 125]⟩ : ByteArray) (Go.bits .xor .i64 t193 1), ((Int.tmod t193 2) == 0), true)) else (none)) else (none)))) = some (r1, r2, r3) := h
  clear h
  replace H := Option.bind_eq_some_iff.mp H
  obtain ⟨t193, A20, H⟩ := H
  replace H : (if t193 < 0 then (some (0, false, false)) else (if 0 ≤ (Go.bits .xor .i64 t193 1) then (if (Go.bits .xor .i64 t193 1) < 6 then (some (bt (⟨#[40, 41, 91, 93, 123, 125]⟩ : ByteArray) (Go.bits .xor .i64 t193 1), ((Int.tmod t193 2) == 0), true)) else (none)) else (none))) = some (r1, r2, r3) := H
  have A2 := Aside0.mk A20
  clear A20
  by_cases c3 : t193 < 0
  · rw [if_pos c3] at H
    have c3b0 : decide (t193 < 0) = true := decide_eq_true c3
    clear c3
    simp only [Option.some.injEq, Prod.mk.injEq] at H
    obtain ⟨rfl, rfl, rfl⟩ := H
    go_enter Tryd.func50, Tryd.ntmps50
    go_wp2_with (first | ((with_reducible refine gate_callee (f := 30) rfl ?_); refine goesL_ (some 7) rfl rfl Tryd.func30 (by kernel_rfl) rfl #[.string (⟨#[40, 41, 91, 93, 123, 125]⟩ : ByteArray), .int .u8 a0] rfl (by (try simp only [List.map_toArray, List.map_cons, List.map_nil]); first | done | rfl | (simp only [List.length_drop, List.length_take]; rfl)) ?_; (with_reducible refine (strings_IndexByte.calls (⟨#[40, 41, 91, 93, 123, 125]⟩ : ByteArray) a0 t193 _ A2.out).mono ?_); rintro e w' ⟨rfl, ⟨nd, rfl⟩⟩; refine ⟨_, rfl, ?_⟩))
    go_ret3
    exact ⟨by first | rfl | (simp; done) | (simp [*]; done), by repeat (first | exact Drawn0.refl _ | apply Drawn0.step)⟩
  · rw [if_neg c3] at H
    have c3b0 : decide (t193 < 0) = false := decide_eq_false c3
    clear c3
    by_cases c4 : 0 ≤ (Go.bits .xor .i64 t193 1)
    · rw [if_pos c4] at H
      have c4b0 : decide (0 ≤ (Go.bits .xor .i64 t193 1)) = true := decide_eq_true c4
      clear c4
      by_cases c5 : (Go.bits .xor .i64 t193 1) < 6
      · rw [if_pos c5] at H
        have c5b0 : decide ((Go.bits .xor .i64 t193 1) < 6) = true := decide_eq_true c5
        clear c5
        simp only [Option.some.injEq, Prod.mk.injEq] at H
        obtain ⟨rfl, rfl, rfl⟩ := H
        go_enter Tryd.func50, Tryd.ntmps50
        go_wp2_with (first | ((with_reducible refine gate_callee (f := 30) rfl ?_); refine goesL_ (some 7) rfl rfl Tryd.func30 (by kernel_rfl) rfl #[.string (⟨#[40, 41, 91, 93, 123, 125]⟩ : ByteArray), .int .u8 a0] rfl (by (try simp only [List.map_toArray, List.map_cons, List.map_nil]); first | done | rfl | (simp only [List.length_drop, List.length_take]; rfl)) ?_; (with_reducible refine (strings_IndexByte.calls (⟨#[40, 41, 91, 93, 123, 125]⟩ : ByteArray) a0 t193 _ A2.out).mono ?_); rintro e w' ⟨rfl, ⟨nd, rfl⟩⟩; refine ⟨_, rfl, ?_⟩; have p6 : 0 ≤ ((Go.bits .xor .i64 t193 1) : Int) := of_decide_eq_true (by first | (with_reducible assumption) | assumption); have q6 : (Go.bits .xor .i64 t193 1) < (6 : Int) := of_decide_eq_true (by first | (with_reducible assumption) | assumption); have hx6 := bt_at (⟨#[40, 41, 91, 93, 123, 125]⟩ : ByteArray) (Go.bits .xor .i64 t193 1); replace p6 := eq_true p6; replace q6 := eq_true q6))
        go_ret3
        exact ⟨by first | rfl | (simp; done) | (simp [*]; done), by repeat (first | exact Drawn0.refl _ | apply Drawn0.step)⟩
      · rw [if_neg c5] at H
        exact absurd H (by simp)
    · rw [if_neg c4] at H
      exact absurd H (by simp)

end Go.Proofs.YtcochbkdgjgaeaaDoor.X
end
section
-- Written by wip/xprint.py over the kit's print.py: the Lean function of each Go function, and the proof that the Go text comes to it.
namespace Go.Proofs.YtcochbkdgjgaeaaDoor.X
open Go.RowKit Go.Proofs.YtcochbkdgjgaeaaDoorW.PrintWords Go.Proofs.YtcochbkdgjgaeaaDoorW.PrintLast Go.Proofs.YtcochbkdgjgaeaaDoorW.PrintMore
attribute [local go_sem] max2_int min2_int max_two min_two max_three min_three max_four min_four   -- for this text's walks alone
set_option linter.unusedVariables false
set_option linter.unusedSimpArgs false

/-! ### object_bracketed: function 31 -/
mutual
def object_bracketed.l0 : Nat → Int → Int → Int → Bool → Int → List Int → List Int → Int → Int → Option (Int × Int × Bool)
  | 0, _, _, _, _, _, _, _, _, _ => none
  | k + 1, x1, x2, x3, x4, x13, x16, x26, x27, x28 => if x28 < x27 then (if 0 ≤ x28 then (if x28 < (x26.length : Int) then (if (rd x26 x28) = x3 then (if x16.length < 17592186044416 then (object_bracketed.j1 k x1 x2 x3 x4 x13 (x16 ++ [x28]) x28 (rd x26 x28) x26 x27 x28) else (none)) else (object_bracketed.j1 k x1 x2 x3 x4 x13 x16 x28 (rd x26 x28) x26 x27 x28)) else (none)) else (none)) else (some (0, 0, false))
def object_bracketed.j1 : Nat → Int → Int → Int → Bool → Int → List Int → Int → Int → List Int → Int → Int → Option (Int × Int × Bool)
  | 0, _, _, _, _, _, _, _, _, _, _, _ => none
  | k + 1, x1, x2, x3, x4, x13, x16, x17, x18, x26, x27, x28 => if x18 = x13 then (object_bracketed.j2 k x1 x2 x3 x4 x13 x16 x17 x26 x27 x28 ((x16.length : Int) == 0)) else (object_bracketed.j2 k x1 x2 x3 x4 x13 x16 x17 x26 x27 x28 true)
def object_bracketed.j2 : Nat → Int → Int → Int → Bool → Int → List Int → Int → List Int → Int → Int → Bool → Option (Int × Int × Bool)
  | 0, _, _, _, _, _, _, _, _, _, _, _ => none
  | k + 1, x1, x2, x3, x4, x13, x16, x17, x26, x27, x28, x47 => if x47 = true then (object_bracketed.l0 k x1 x2 x3 x4 x13 x16 x26 x27 (wrap64 (x28 + 1))) else (if 0 ≤ (wrap64 ((x16.length : Int) - 1)) then (if (wrap64 ((x16.length : Int) - 1)) < (x16.length : Int) then (if (wrap64 ((x16.length : Int) - 1)) ≤ (x16.length : Int) then ((some (x16.take ((wrap64 ((x16.length : Int) - 1)) : Int).toNat : List Int)).bind fun y202 => (if (rd x16 (wrap64 ((x16.length : Int) - 1))) > x1 then (object_bracketed.j3 k x1 x2 x3 x4 x13 y202 x17 (rd x16 (wrap64 ((x16.length : Int) - 1))) x26 x27 x28 true) else (object_bracketed.j3 k x1 x2 x3 x4 x13 y202 x17 (rd x16 (wrap64 ((x16.length : Int) - 1))) x26 x27 x28 (decide (x17 < x1))))) else (none)) else (none)) else (none))
def object_bracketed.j3 : Nat → Int → Int → Int → Bool → Int → List Int → Int → Int → List Int → Int → Int → Bool → Option (Int × Int × Bool)
  | 0, _, _, _, _, _, _, _, _, _, _, _, _ => none
  | k + 1, x1, x2, x3, x4, x13, x16, x17, x19, x26, x27, x28, x66 => if x66 = true then (object_bracketed.l0 k x1 x2 x3 x4 x13 x16 x26 x27 (wrap64 (x28 + 1))) else (if (wrap64 (x2 - 1)) > 0 then (object_bracketed.l0 k x1 (wrap64 (x2 - 1)) x3 x4 x13 x16 x26 x27 (wrap64 (x28 + 1))) else (if x4 = true then (some (x19, wrap64 (x17 + 1), true)) else (some (wrap64 (x19 + 1), x17, true))))
end
def object_bracketed.f (k : Nat) (l0 : List Int) (a1 : Int) (a2 : Int) (a3 : Int) (a4 : Bool) : Option (Int × Int × Bool) := (class_Partner.f a3).bind fun bt194 => (object_bracketed.l0 k a1 a2 a3 a4 bt194.1 ([] : List Int) l0 (l0.length : Int) 0)
theorem object_bracketed.mono_l : ∀ k, (∀ y0 y1 y2 y3 y4 y5 y6 y7 y8, LeO (object_bracketed.l0 k y0 y1 y2 y3 y4 y5 y6 y7 y8) (object_bracketed.l0 (k + 1) y0 y1 y2 y3 y4 y5 y6 y7 y8)) ∧ (∀ y0 y1 y2 y3 y4 y5 y6 y7 y8 y9 y10, LeO (object_bracketed.j1 k y0 y1 y2 y3 y4 y5 y6 y7 y8 y9 y10) (object_bracketed.j1 (k + 1) y0 y1 y2 y3 y4 y5 y6 y7 y8 y9 y10)) ∧ (∀ y0 y1 y2 y3 y4 y5 y6 y7 y8 y9 y10, LeO (object_bracketed.j2 k y0 y1 y2 y3 y4 y5 y6 y7 y8 y9 y10) (object_bracketed.j2 (k + 1) y0 y1 y2 y3 y4 y5 y6 y7 y8 y9 y10)) ∧ (∀ y0 y1 y2 y3 y4 y5 y6 y7 y8 y9 y10 y11, LeO (object_bracketed.j3 k y0 y1 y2 y3 y4 y5 y6 y7 y8 y9 y10 y11) (object_bracketed.j3 (k + 1) y0 y1 y2 y3 y4 y5 y6 y7 y8 y9 y10 y11))
  | 0 => ⟨fun _ _ _ _ _ _ _ _ _ r h => by simp [object_bracketed.l0] at h, fun _ _ _ _ _ _ _ _ _ _ _ r h => by simp [object_bracketed.j1] at h, fun _ _ _ _ _ _ _ _ _ _ _ r h => by simp [object_bracketed.j2] at h, fun _ _ _ _ _ _ _ _ _ _ _ _ r h => by simp [object_bracketed.j3] at h⟩
  | k + 1 => by
    obtain ⟨ih0, ih1, ih2, ih3⟩ := object_bracketed.mono_l k
    refine ⟨?_, ?_, ?_, ?_⟩
    · intro y0 y1 y2 y3 y4 y5 y6 y7 y8
      unfold object_bracketed.l0
      repeat' first
      | (with_reducible exact ih0 _ _ _ _ _ _ _ _ _)
      | (with_reducible exact ih1 _ _ _ _ _ _ _ _ _ _ _)
      | (with_reducible exact ih2 _ _ _ _ _ _ _ _ _ _ _)
      | (with_reducible exact ih3 _ _ _ _ _ _ _ _ _ _ _ _)
      | (with_reducible exact LeO.refl _)
      | (with_reducible exact LeO.none _)
      | (with_reducible refine LeO.ite ?_ ?_)
      | (with_reducible refine LeO.bind ?_ (fun _ => ?_))
      | exact ih0 _ _ _ _ _ _ _ _ _
      | exact ih1 _ _ _ _ _ _ _ _ _ _ _
      | exact ih2 _ _ _ _ _ _ _ _ _ _ _
      | exact ih3 _ _ _ _ _ _ _ _ _ _ _ _
      | exact LeO.none _
      | refine LeO.ite ?_ ?_
      | refine LeO.bind ?_ (fun _ => ?_)
    · intro y0 y1 y2 y3 y4 y5 y6 y7 y8 y9 y10
      unfold object_bracketed.j1
      repeat' first
      | (with_reducible exact ih0 _ _ _ _ _ _ _ _ _)
      | (with_reducible exact ih1 _ _ _ _ _ _ _ _ _ _ _)
      | (with_reducible exact ih2 _ _ _ _ _ _ _ _ _ _ _)
      | (with_reducible exact ih3 _ _ _ _ _ _ _ _ _ _ _ _)
      | (with_reducible exact LeO.refl _)
      | (with_reducible exact LeO.none _)
      | (with_reducible refine LeO.ite ?_ ?_)
      | (with_reducible refine LeO.bind ?_ (fun _ => ?_))
      | exact ih0 _ _ _ _ _ _ _ _ _
      | exact ih1 _ _ _ _ _ _ _ _ _ _ _
      | exact ih2 _ _ _ _ _ _ _ _ _ _ _
      | exact ih3 _ _ _ _ _ _ _ _ _ _ _ _
      | exact LeO.none _
      | refine LeO.ite ?_ ?_
      | refine LeO.bind ?_ (fun _ => ?_)
    · intro y0 y1 y2 y3 y4 y5 y6 y7 y8 y9 y10
      unfold object_bracketed.j2
      repeat' first
      | (with_reducible exact ih0 _ _ _ _ _ _ _ _ _)
      | (with_reducible exact ih1 _ _ _ _ _ _ _ _ _ _ _)
      | (with_reducible exact ih2 _ _ _ _ _ _ _ _ _ _ _)
      | (with_reducible exact ih3 _ _ _ _ _ _ _ _ _ _ _ _)
      | (with_reducible exact LeO.refl _)
      | (with_reducible exact LeO.none _)
      | (with_reducible refine LeO.ite ?_ ?_)
      | (with_reducible refine LeO.bind ?_ (fun _ => ?_))
      | exact ih0 _ _ _ _ _ _ _ _ _
      | exact ih1 _ _ _ _ _ _ _ _ _ _ _
      | exact ih2 _ _ _ _ _ _ _ _ _ _ _
      | exact ih3 _ _ _ _ _ _ _ _ _ _ _ _
      | exact LeO.none _
      | refine LeO.ite ?_ ?_
      | refine LeO.bind ?_ (fun _ => ?_)
    · intro y0 y1 y2 y3 y4 y5 y6 y7 y8 y9 y10 y11
      unfold object_bracketed.j3
      repeat' first
      | (with_reducible exact ih0 _ _ _ _ _ _ _ _ _)
      | (with_reducible exact ih1 _ _ _ _ _ _ _ _ _ _ _)
      | (with_reducible exact ih2 _ _ _ _ _ _ _ _ _ _ _)
      | (with_reducible exact ih3 _ _ _ _ _ _ _ _ _ _ _ _)
      | (with_reducible exact LeO.refl _)
      | (with_reducible exact LeO.none _)
      | (with_reducible refine LeO.ite ?_ ?_)
      | (with_reducible refine LeO.bind ?_ (fun _ => ?_))
      | exact ih0 _ _ _ _ _ _ _ _ _
      | exact ih1 _ _ _ _ _ _ _ _ _ _ _
      | exact ih2 _ _ _ _ _ _ _ _ _ _ _
      | exact ih3 _ _ _ _ _ _ _ _ _ _ _ _
      | exact LeO.none _
      | refine LeO.ite ?_ ?_
      | refine LeO.bind ?_ (fun _ => ?_)
theorem object_bracketed.mono : ∀ a0 a1 a2 a3 a4 k, LeO (object_bracketed.f k a0 a1 a2 a3 a4) (object_bracketed.f (k + 1) a0 a1 a2 a3 a4) := by
  intro a0 a1 a2 a3 a4 k
  obtain ⟨ih0, ih1, ih2, ih3⟩ := object_bracketed.mono_l k
  unfold object_bracketed.f
  repeat' first
      | (with_reducible exact ih0 _ _ _ _ _ _ _ _ _)
      | (with_reducible exact ih1 _ _ _ _ _ _ _ _ _ _ _)
      | (with_reducible exact ih2 _ _ _ _ _ _ _ _ _ _ _)
      | (with_reducible exact ih3 _ _ _ _ _ _ _ _ _ _ _ _)
      | (with_reducible exact LeO.refl _)
      | (with_reducible exact LeO.none _)
      | (with_reducible refine LeO.ite ?_ ?_)
      | (with_reducible refine LeO.bind ?_ (fun _ => ?_))
      | exact ih0 _ _ _ _ _ _ _ _ _
      | exact ih1 _ _ _ _ _ _ _ _ _ _ _
      | exact ih2 _ _ _ _ _ _ _ _ _ _ _
      | exact ih3 _ _ _ _ _ _ _ _ _ _ _ _
      | exact LeO.none _
      | refine LeO.ite ?_ ?_
      | refine LeO.bind ?_ (fun _ => ?_)
set_option maxHeartbeats 8000000 in
set_option maxRecDepth 100000 in
theorem object_bracketed.calls (k : Nat) (A0 : Option Addr) (c0 : Nat) (l0 : List Int) (a1 : Int) (a2 : Int) (a3 : Int) (a4 : Bool) (r1 : Int) (r2 : Int) (r3 : Bool) (w : World) (hr0 : Kd.C (Kd.int .u8) w A0 l0.length l0) (hc0 : l0.length ≤ c0) (h : object_bracketed.f k l0 a1 a2 a3 a4 = some (r1, r2, r3)) :
    Calls Tryd.prog 31 #[.slice A0 l0.length c0, .int .i64 a1, .int .i64 a2, .int .u8 a3, .bool a4] w fun e w' => e = .returned (.tuple #[.int .i64 r1, .int .i64 r2, .bool r3]) ∧ Below w.heap.size w w' := by
  have HR0 := Aside0.mk hr0
  have HC0 := Aside0.mk hc0
  clear hr0 hc0
  have HB := Aside0.mk (Below.refl w.heap.size w)
  have H : ((class_Partner.f a3).bind fun bt194 => (object_bracketed.l0 k a1 a2 a3 a4 bt194.1 ([] : List Int) l0 (l0.length : Int) 0)) = some (r1, r2, r3) := h
  clear h
  replace H := Option.bind_eq_some_iff.mp H
  obtain ⟨⟨t194, t195, t196⟩, A60, H⟩ := H
  replace H : (object_bracketed.l0 k a1 a2 a3 a4 t194 ([] : List Int) l0 (l0.length : Int) 0) = some (r1, r2, r3) := H
  have A6 := Aside0.mk A60
  clear A60
  have H' := Aside0.mk H
  clear H
  go_enter Tryd.func31, Tryd.ntmps31
  go_wp2_with (first | ((with_reducible refine gate_callee (f := 50) rfl ?_); refine goesL_ (some 22) rfl rfl Tryd.func50 (by kernel_rfl) rfl #[.int .u8 a3] rfl (by (try simp only [List.map_toArray, List.map_cons, List.map_nil]); first | done | rfl | (simp only [List.length_drop, List.length_take]; rfl)) ?_; (with_reducible refine (class_Partner.calls a3 t194 t195 t196 _ A6.out).mono ?_); rintro e w' ⟨rfl, ⟨nd, rfl⟩⟩; refine ⟨_, rfl, ?_⟩))
  go_loopg [2, 16, 28] k (fun kq v2 v16 v28 w' => ∃ (x2_1 : Int) (x16_1 : List Int) (x28_1 : Int), v2 = .int .i64 x2_1 ∧ v28 = .int .i64 x28_1 ∧ Aside0 (object_bracketed.l0 kq a1 x2_1 a3 a4 t194 x16_1 l0 (l0.length : Int) x28_1 = some (r1, r2, r3)) ∧ Aside0 (kq ≤ k) ∧ Aside0 (Kd.R (Kd.int .i64) 3 w' w.heap.size (fun _ => True) v16 x16_1) ∧ Aside0 (Below w.heap.size w w'))
  case atStart => exact ⟨(a2), (([] : List Int)), (0), (by first | rfl | (simp; done) | (simp [*]; done)), (by first | rfl | (simp; done) | (simp [*]; done)), H', ⟨Nat.le_refl _⟩, ⟨by first | exact Kd.R_nil _ _ _ _ _ | exact Kd.N_nil _ _ _ _ _ | exact Kd.V_nil _ _ _ _ _ | exact Kd.Q_nil _ _ _ _ _ | exact Kd.S_nil _ _ _ _ _⟩, ⟨by repeat (first | (with_reducible first | exact HB.out | apply below_alloc | apply pw_below_drewN | apply below_drew1) | exact HB.out)⟩⟩
  case round =>
    clear H'
    try clear p2
    try clear c3
    try clear c5
    obtain ⟨x2_1, x16_1, x28_1, rfl, rfl, HA, HK1, HO_16, HB⟩ := hrel
    cases gk with
    | zero => exact absurd HA.out (by simp [object_bracketed.l0])
    | succ k1 =>
      have H := HA.out
      clear HA
      simp only [object_bracketed.l0] at H
      by_cases c7 : x28_1 < (l0.length : Int)
      · rw [if_pos c7] at H
        have c7b0 : decide (x28_1 < (l0.length : Int)) = true := decide_eq_true c7
        clear c7
        by_cases c8 : 0 ≤ x28_1
        · rw [if_pos c8] at H
          have c8b0 : decide (0 ≤ x28_1) = true := decide_eq_true c8
          clear c8
          by_cases c9 : x28_1 < (l0.length : Int)
          · rw [if_pos c9] at H
            have c9b0 : decide (x28_1 < (l0.length : Int)) = true := decide_eq_true c9
            clear c9
            have HC10 := Aside0.mk H
            clear H
            have p197 : 0 ≤ (x28_1 : Int) := of_decide_eq_true (by first | (with_reducible assumption) | assumption)
            have q197 : x28_1 < (l0.length : Int) := of_decide_eq_true (by first | (with_reducible assumption) | assumption)
            obtain ⟨ad197, e197, hx197_0⟩ := Kd.at_int HR0.out x28_1 p197 q197
            cases e197
            replace hx197_0 := (HB.out.cell (World.block_lt_of_cell? w _ hx197_0)).trans hx197_0
            replace p197 := eq_true p197
            replace q197 := eq_true q197
            go_upto_if 35 with (fail)
            go_cut [16] (fun v16 wc => ∃ (kq : Nat) (x16_9 : List Int), Aside0 (object_bracketed.j1 kq a1 x2_1 a3 a4 t194 x16_9 x28_1 (rd l0 x28_1) l0 (l0.length : Int) x28_1 = some (r1, r2, r3)) ∧ Aside0 (kq ≤ k1) ∧ Aside0 (Kd.R (Kd.int .i64) 3 wc w.heap.size (fun _ => True) v16 x16_9) ∧ Aside0 (Below w.heap.size w wc))
            case first =>
              have H := HC10.out
              clear HC10
              by_cases c11 : (rd l0 x28_1) = a3
              · rw [if_pos c11] at H
                have c11b0 : ((rd l0 x28_1) == a3) = true := beq_iff_eq.mpr c11
                have c11b1 : ((rd l0 x28_1) != a3) = false := bne_eq_false_iff_eq.mpr c11
                clear c11
                (first | rw [c11b0] | (simp only [i64_w, i32_w]; rw [c11b0]) | skip)
                by_cases c12 : x16_1.length < 17592186044416
                · rw [if_pos c12] at H
                  have LMc12 := Aside0.mk c12
                  clear c12
                  obtain ⟨y198, hy198⟩ : ∃ y_ : List Int, y_ = (x16_1 ++ [x28_1]) := ⟨_, rfl⟩
                  replace H : (object_bracketed.j1 k1 a1 x2_1 a3 a4 t194 y198 x28_1 (rd l0 x28_1) l0 (l0.length : Int) x28_1) = some (r1, r2, r3) := by first | (rw [hy198]; with_reducible exact H) | (have H2_ := (Option.bind_some _ _).symm.trans H; rw [hy198]; with_reducible exact H2_) | (have H2_ := (Option.bind_some _ _).symm.trans H; with_reducible exact H2_) | with_reducible exact H | (rw [hy198]; exact H) | exact H
                  have Ny198 := Aside0.mk hy198
                  clear hy198
                  have H' := Aside0.mk H
                  clear H
                  go_wp2_with (first | ((with_reducible refine gate_builtin (b := .append) (xs := #[.tmp 36, .tmp 38]) rfl ?_); (try (refine gate_guard (by rfl) ?_; dsimp only)); at_builtin; refine Kd.R_append (Kd.int .i64) (w0 := w) w.heap.size rfl (.tmp 36) (.tmp 38) 68 3 (.int .i64 0) 8 rfl Tryd.underlying68 info3 rfl (by decide) (by omega) u16 x16_1 x28_1 [.int .i64 x28_1] (fun _ => True) (fun _ => False) rfl rfl ?aP (fun _ hk => hk.elim) ?aF ?aO ?aB ?aS ?aL ?_; (case aP => exact rfl); (case aB => exact (by repeat (first | (with_reducible first | exact HB.out | apply below_alloc | apply pw_below_drewN | apply below_drew1) | exact HB.out))); (case aF => exact (fun _ _ => trivial)); (case aO => exact (by (with_reducible repeat (first | apply Kd.R_alloc | apply Kd.R_drewN | apply Kd.R_drew)); exact HO_16.out)); (case aS => exact (below_size (by repeat (first | (with_reducible first | exact HB.out | apply below_alloc | apply pw_below_drewN | apply below_drew1) | exact HB.out)))); (case aL => have := LMc12.out; omega); intro v199 w13 ho hb hg hat; rw [← Ny198.out] at ho; have n0_ := Aside0.mk (hb); have n1_ := Aside0.mk (ho); clear HB; clear HO_16; have HB := n0_; have HO200 := n1_; clear n0_ n1_; clear ho hb hg hat))
                  go_meet
                  case rel => exact ⟨_, (y198), H', ⟨by have := HK1.out; first | omega | exact Nat.le_refl _⟩, ⟨by (with_reducible repeat (first | apply Kd.R_alloc | apply Kd.R_drewN | apply Kd.R_drew)); exact HO200.out⟩, ⟨by repeat (first | (with_reducible first | exact HB.out | apply below_alloc | apply pw_below_drewN | apply below_drew1) | exact HB.out)⟩⟩
                · rw [if_neg c12] at H
                  exact absurd H (by simp)
              · rw [if_neg c11] at H
                have c11b0 : ((rd l0 x28_1) == a3) = false := beq_eq_false_iff_ne.mpr c11
                have c11b1 : ((rd l0 x28_1) != a3) = true := bne_iff_ne.mpr c11
                (first | rw [c11b0] | (simp only [i64_w, i32_w]; rw [c11b0]) | skip)
                have H' := Aside0.mk H
                clear H
                go_wp2
                go_meet
                case rel => exact ⟨_, (x16_1), H', ⟨by have := HK1.out; first | omega | exact Nat.le_refl _⟩, ⟨by (with_reducible repeat (first | apply Kd.R_alloc | apply Kd.R_drewN | apply Kd.R_drew)); exact HO_16.out⟩, ⟨by repeat (first | (with_reducible first | exact HB.out | apply below_alloc | apply pw_below_drewN | apply below_drew1) | exact HB.out)⟩⟩
            case rest =>
              clear HC10
              try clear c1
              try clear p1
              try clear q1
              try clear hx1
              try clear p2
              try clear c3
              try clear c5
              try clear c7
              try clear c7b0
              try clear c8
              try clear c8b0
              try clear c9
              try clear c9b0
              try clear c11
              try clear c11b0
              try clear c11b1
              try clear c12
              try clear hx197_0
              try clear p197
              try clear p2
              try clear q197
              obtain ⟨kq, x16_9, HA, HJ9, HO_16, HB⟩ := hcut
              cases kq with
              | zero => exact absurd HA.out (by simp [object_bracketed.j1])
              | succ kj9 =>
                have H := HA.out
                clear HA
                simp only [object_bracketed.j1] at H
                have HC14 := Aside0.mk H
                clear H
                go_upto_region 8 with (fail)
                go_cut [47] (fun v47 wc => ∃ (kq : Nat) (x47_13 : Bool), v47 = .bool x47_13 ∧ Aside0 (object_bracketed.j2 kq a1 x2_1 a3 a4 t194 x16_9 x28_1 l0 (l0.length : Int) x28_1 x47_13 = some (r1, r2, r3)) ∧ Aside0 (kq ≤ kj9) ∧ Aside0 (Kd.R (Kd.int .i64) 3 wc w.heap.size (fun _ => True) u16 x16_9) ∧ Aside0 (Below w.heap.size w wc))
                case first =>
                  have H := HC14.out
                  clear HC14
                  by_cases c15 : (rd l0 x28_1) = t194
                  · rw [if_pos c15] at H
                    have c15b0 : ((rd l0 x28_1) == t194) = true := beq_iff_eq.mpr c15
                    have c15b1 : ((rd l0 x28_1) != t194) = false := bne_eq_false_iff_eq.mpr c15
                    clear c15
                    (first | rw [c15b0] | (simp only [i64_w, i32_w]; rw [c15b0]) | skip)
                    have H' := Aside0.mk H
                    clear H
                    obtain ⟨Ao16, co16, eo16⟩ := Kd.R_slice HO_16.out
                    subst eo16
                    go_wp2
                    go_meet
                    case rel => exact ⟨_, (((x16_9.length : Int) == 0)), (by first | rfl | (simp; done) | (simp [*]; done)), H', ⟨by have := HK1.out; have := HJ9.out; first | omega | exact Nat.le_refl _⟩, ⟨by (with_reducible repeat (first | apply Kd.R_alloc | apply Kd.R_drewN | apply Kd.R_drew)); exact HO_16.out⟩, ⟨by repeat (first | (with_reducible first | exact HB.out | apply below_alloc | apply pw_below_drewN | apply below_drew1) | exact HB.out)⟩⟩
                  · rw [if_neg c15] at H
                    have c15b0 : ((rd l0 x28_1) == t194) = false := beq_eq_false_iff_ne.mpr c15
                    have c15b1 : ((rd l0 x28_1) != t194) = true := bne_iff_ne.mpr c15
                    (first | rw [c15b0] | (simp only [i64_w, i32_w]; rw [c15b0]) | skip)
                    have H' := Aside0.mk H
                    clear H
                    go_wp2
                    go_meet
                    case rel => exact ⟨_, (true), (by first | rfl | (simp; done) | (simp [*]; done)), H', ⟨by have := HK1.out; have := HJ9.out; first | omega | exact Nat.le_refl _⟩, ⟨by (with_reducible repeat (first | apply Kd.R_alloc | apply Kd.R_drewN | apply Kd.R_drew)); exact HO_16.out⟩, ⟨by repeat (first | (with_reducible first | exact HB.out | apply below_alloc | apply pw_below_drewN | apply below_drew1) | exact HB.out)⟩⟩
                case rest =>
                  clear HC14
                  try clear c1
                  try clear p1
                  try clear q1
                  try clear hx1
                  try clear p2
                  try clear c3
                  try clear c5
                  try clear c7
                  try clear c7b0
                  try clear c8
                  try clear c8b0
                  try clear c9
                  try clear c9b0
                  try clear c11
                  try clear c11b0
                  try clear c11b1
                  try clear c12
                  try clear c15
                  try clear c15b0
                  try clear c15b1
                  try clear hx197_0
                  try clear p1
                  try clear p197
                  try clear p2
                  try clear q1
                  try clear q197
                  obtain ⟨kq, x47_13, rfl, HA, HJ13, HO_16, HB⟩ := hcut
                  cases kq with
                  | zero => exact absurd HA.out (by simp [object_bracketed.j2])
                  | succ kj13 =>
                    have H := HA.out
                    clear HA
                    simp only [object_bracketed.j2] at H
                    by_cases c17 : x47_13 = true
                    · subst c17
                      have H1 : (object_bracketed.l0 kj13 a1 x2_1 a3 a4 t194 x16_9 l0 (l0.length : Int) (wrap64 (x28_1 + 1))) = some (r1, r2, r3) := by rw [if_pos rfl] at H; exact H
                      clear H
                      have H := H1
                      clear H1
                      have H' := Aside0.mk H
                      clear H
                      go_wp2
                      go_roundg kj13
                      case measure => have := HK1.out; have := HJ9.out; have := HJ13.out; omega
                      case rel => exact ⟨(x2_1), (x16_9), (wrap64 (x28_1 + 1)), (by first | rfl | (simp; done) | (simp [*]; done)), (by first | rfl | (simp; done) | (simp [*]; done)), H', ⟨by have := HK1.out; have := HJ9.out; have := HJ13.out; omega⟩, ⟨by (with_reducible repeat (first | apply Kd.R_alloc | apply Kd.R_drewN | apply Kd.R_drew)); exact HO_16.out⟩, ⟨by repeat (first | (with_reducible first | exact HB.out | apply below_alloc | apply pw_below_drewN | apply below_drew1) | exact HB.out)⟩⟩
                    · replace c17 := Bool.eq_false_iff.mpr c17
                      subst c17
                      have H1 : (if 0 ≤ (wrap64 ((x16_9.length : Int) - 1)) then (if (wrap64 ((x16_9.length : Int) - 1)) < (x16_9.length : Int) then (if (wrap64 ((x16_9.length : Int) - 1)) ≤ (x16_9.length : Int) then ((some (x16_9.take ((wrap64 ((x16_9.length : Int) - 1)) : Int).toNat : List Int)).bind fun y202 => (if (rd x16_9 (wrap64 ((x16_9.length : Int) - 1))) > a1 then (object_bracketed.j3 kj13 a1 x2_1 a3 a4 t194 y202 x28_1 (rd x16_9 (wrap64 ((x16_9.length : Int) - 1))) l0 (l0.length : Int) x28_1 true) else (object_bracketed.j3 kj13 a1 x2_1 a3 a4 t194 y202 x28_1 (rd x16_9 (wrap64 ((x16_9.length : Int) - 1))) l0 (l0.length : Int) x28_1 (decide (x28_1 < a1))))) else (none)) else (none)) else (none)) = some (r1, r2, r3) := by rw [if_neg (show ¬ (false = true) by decide)] at H; exact H
                      clear H
                      have H := H1
                      clear H1
                      obtain ⟨ji18, hji18⟩ : ∃ j_ : Int, (wrap64 ((x16_9.length : Int) - 1)) = j_ := ⟨_, rfl⟩
                      replace H : (if 0 ≤ (ji18) then (if (ji18) < (x16_9.length : Int) then (if (ji18) ≤ (x16_9.length : Int) then ((some (x16_9.take ((ji18) : Int).toNat : List Int)).bind fun y202 => (if (rd x16_9 (ji18)) > a1 then (object_bracketed.j3 kj13 a1 x2_1 a3 a4 t194 y202 x28_1 (rd x16_9 (ji18)) l0 (l0.length : Int) x28_1 true) else (object_bracketed.j3 kj13 a1 x2_1 a3 a4 t194 y202 x28_1 (rd x16_9 (ji18)) l0 (l0.length : Int) x28_1 (decide (x28_1 < a1))))) else (none)) else (none)) else (none)) = some (r1, r2, r3) := by first | (rw [hji18] at H; exact H) | (simp only [hji18] at H ⊢; exact H)
                      have hji18w : (IntKind.i64.wrap ((x16_9.length : Int) - 1)) = ji18 := (i64_w _).trans hji18
                      by_cases c19 : 0 ≤ (ji18)
                      · rw [if_pos c19] at H
                        have c19b0 : decide (0 ≤ (ji18)) = true := decide_eq_true c19
                        clear c19
                        by_cases c20 : (ji18) < (x16_9.length : Int)
                        · rw [if_pos c20] at H
                          have c20b0 : decide ((ji18) < (x16_9.length : Int)) = true := decide_eq_true c20
                          clear c20
                          by_cases c21 : (ji18) ≤ (x16_9.length : Int)
                          · rw [if_pos c21] at H
                            have c21b0 := eq_true c21
                            have c21b1 : decide ((ji18) ≤ (x16_9.length : Int)) = true := decide_eq_true c21
                            clear c21
                            obtain ⟨y202, hy202⟩ : ∃ y_ : List Int, y_ = (x16_9.take ((ji18) : Int).toNat) := ⟨_, rfl⟩
                            replace H : (if (rd x16_9 (ji18)) > a1 then (object_bracketed.j3 kj13 a1 x2_1 a3 a4 t194 y202 x28_1 (rd x16_9 (ji18)) l0 (l0.length : Int) x28_1 true) else (object_bracketed.j3 kj13 a1 x2_1 a3 a4 t194 y202 x28_1 (rd x16_9 (ji18)) l0 (l0.length : Int) x28_1 (decide (x28_1 < a1)))) = some (r1, r2, r3) := by first | (rw [hy202]; with_reducible exact H) | (have H2_ := (Option.bind_some _ _).symm.trans H; rw [hy202]; with_reducible exact H2_) | (have H2_ := (Option.bind_some _ _).symm.trans H; with_reducible exact H2_) | with_reducible exact H | (rw [hy202]; exact H) | exact H
                            have Ny202 := Aside0.mk hy202
                            clear hy202
                            have HC22 := Aside0.mk H
                            clear H
                            obtain ⟨Ao23, co23, eo23⟩ := Kd.R_slice HO_16.out
                            subst eo23
                            have p201 : 0 ≤ ((ji18) : Int) := of_decide_eq_true (by first | (with_reducible assumption) | assumption)
                            have q201 : (ji18) < (x16_9.length : Int) := of_decide_eq_true (by first | (with_reducible assumption) | assumption)
                            obtain ⟨ad201, e201, hx201_0⟩ := Kd.at_int (Kd.R_reads' HO_16.out).2.2 (ji18) p201 q201
                            cases e201
                            replace p201 := eq_true p201
                            replace q201 := eq_true q201
                            have q24 : ((ji18) : Int) ≤ ((x16_9.length : Int) : Int) := of_decide_eq_true (by first | (with_reducible assumption) | assumption)
                            obtain ⟨i024, hi024, _, hsz24, _⟩ := info_parts info3
                            have hcut24 := cut_to (P := Tryd.prog) 68 3 .i64 Tryd.underlying68 hi024 (some ad201) x16_9.length co23 (ji18) (of_decide_eq_true (by first | (with_reducible assumption) | assumption)) q24 (Kd.R_reads' HO_16.out).2.1
                            have hr24 := Kd.R_take (m := ((ji18) : Int).toNat) HO_16.out (by omega)
                            have hy24 : y202.length = ((ji18) : Int).toNat := (by rw [Ny202.out, List.length_take]; omega)
                            rw [← Ny202.out] at hr24
                            rw [← hy24] at hr24 hcut24
                            clear hy24 hi024 hsz24 HO_16
                            have HO204 := Aside0.mk hr24
                            clear hr24
                            replace q24 := eq_true q24
                            go_upto_region 11 with (fail)
                            go_cut [66] (fun v66 wc => ∃ (kq : Nat) (x66_21 : Bool), v66 = .bool x66_21 ∧ Aside0 (object_bracketed.j3 kq a1 x2_1 a3 a4 t194 y202 x28_1 (rd x16_9 (ji18)) l0 (l0.length : Int) x28_1 x66_21 = some (r1, r2, r3)) ∧ Aside0 (kq ≤ kj13) ∧ Aside0 (Kd.R (Kd.int .i64) 3 wc w.heap.size (fun _ => True) (.slice (some ad201) y202.length co23) y202) ∧ Aside0 (Below w.heap.size w wc))
                            case first =>
                              have H := HC22.out
                              clear HC22
                              by_cases c25 : (rd x16_9 (ji18)) > a1
                              · rw [if_pos c25] at H
                                have c25b0 : decide (a1 < (rd x16_9 (ji18))) = true := decide_eq_true c25
                                clear c25
                                (first | rw [c25b0] | (simp only [i64_w, i32_w]; rw [c25b0]) | skip)
                                have H' := Aside0.mk H
                                clear H
                                go_wp2
                                go_meet
                                case rel => exact ⟨_, (true), (by first | rfl | (simp; done) | (simp [*]; done)), H', ⟨by have := HK1.out; have := HJ9.out; have := HJ13.out; first | omega | exact Nat.le_refl _⟩, ⟨by (with_reducible repeat (first | apply Kd.R_alloc | apply Kd.R_drewN | apply Kd.R_drew)); exact HO204.out⟩, ⟨by repeat (first | (with_reducible first | exact HB.out | apply below_alloc | apply pw_below_drewN | apply below_drew1) | exact HB.out)⟩⟩
                              · rw [if_neg c25] at H
                                have c25b0 : decide (a1 < (rd x16_9 (ji18))) = false := decide_eq_false c25
                                clear c25
                                (first | rw [c25b0] | (simp only [i64_w, i32_w]; rw [c25b0]) | skip)
                                have H' := Aside0.mk H
                                clear H
                                go_wp2
                                go_meet
                                case rel => exact ⟨_, (decide (x28_1 < a1)), (by first | rfl | (simp; done) | (simp [*]; done)), H', ⟨by have := HK1.out; have := HJ9.out; have := HJ13.out; first | omega | exact Nat.le_refl _⟩, ⟨by (with_reducible repeat (first | apply Kd.R_alloc | apply Kd.R_drewN | apply Kd.R_drew)); exact HO204.out⟩, ⟨by repeat (first | (with_reducible first | exact HB.out | apply below_alloc | apply pw_below_drewN | apply below_drew1) | exact HB.out)⟩⟩
                            case rest =>
                              clear HC22
                              try clear c1
                              try clear p1
                              try clear q1
                              try clear hx1
                              try clear c2
                              try clear p2
                              try clear q2
                              try clear hx2
                              try clear c3
                              try clear c5
                              try clear p6
                              try clear c7
                              try clear c7b0
                              try clear c8
                              try clear c8b0
                              try clear c9
                              try clear c9b0
                              try clear c11
                              try clear c11b0
                              try clear c11b1
                              try clear c12
                              try clear c15
                              try clear c15b0
                              try clear c15b1
                              try clear c17
                              try clear c19
                              try clear c19b0
                              try clear p19
                              try clear q19
                              try clear hx19
                              try clear c20
                              try clear c20b0
                              try clear p20
                              try clear q20
                              try clear hx20
                              try clear c21
                              try clear c21b0
                              try clear c21b1
                              try clear q24
                              try clear c25
                              try clear c25b0
                              try clear hx197_0
                              try clear hx201_0
                              try clear p1
                              try clear p197
                              try clear p2
                              try clear p201
                              try clear q1
                              try clear q197
                              try clear q201
                              try clear q24
                              obtain ⟨kq, x66_21, rfl, HA, HJ21, HO_16, HB⟩ := hcut
                              cases kq with
                              | zero => exact absurd HA.out (by simp [object_bracketed.j3])
                              | succ kj21 =>
                                have H := HA.out
                                clear HA
                                simp only [object_bracketed.j3] at H
                                by_cases c26 : x66_21 = true
                                · subst c26
                                  have H1 : (object_bracketed.l0 kj21 a1 x2_1 a3 a4 t194 y202 l0 (l0.length : Int) (wrap64 (x28_1 + 1))) = some (r1, r2, r3) := by rw [if_pos rfl] at H; exact H
                                  clear H
                                  have H := H1
                                  clear H1
                                  have H' := Aside0.mk H
                                  clear H
                                  go_wp2
                                  go_roundg kj21
                                  case measure => have := HK1.out; have := HJ9.out; have := HJ13.out; have := HJ21.out; omega
                                  case rel => exact ⟨(x2_1), (y202), (wrap64 (x28_1 + 1)), (by first | rfl | (simp; done) | (simp [*]; done)), (by first | rfl | (simp; done) | (simp [*]; done)), H', ⟨by have := HK1.out; have := HJ9.out; have := HJ13.out; have := HJ21.out; omega⟩, ⟨by (with_reducible repeat (first | apply Kd.R_alloc | apply Kd.R_drewN | apply Kd.R_drew)); exact HO_16.out⟩, ⟨by repeat (first | (with_reducible first | exact HB.out | apply below_alloc | apply pw_below_drewN | apply below_drew1) | exact HB.out)⟩⟩
                                · replace c26 := Bool.eq_false_iff.mpr c26
                                  subst c26
                                  have H1 : (if (wrap64 (x2_1 - 1)) > 0 then (object_bracketed.l0 kj21 a1 (wrap64 (x2_1 - 1)) a3 a4 t194 y202 l0 (l0.length : Int) (wrap64 (x28_1 + 1))) else (if a4 = true then (some ((rd x16_9 (ji18)), wrap64 (x28_1 + 1), true)) else (some (wrap64 ((rd x16_9 (ji18)) + 1), x28_1, true)))) = some (r1, r2, r3) := by rw [if_neg (show ¬ (false = true) by decide)] at H; exact H
                                  clear H
                                  have H := H1
                                  clear H1
                                  by_cases c27 : (wrap64 (x2_1 - 1)) > 0
                                  · rw [if_pos c27] at H
                                    have c27b0 : decide (0 < (wrap64 (x2_1 - 1))) = true := decide_eq_true c27
                                    clear c27
                                    have H' := Aside0.mk H
                                    clear H
                                    go_wp2
                                    go_roundg kj21
                                    case measure => have := HK1.out; have := HJ9.out; have := HJ13.out; have := HJ21.out; omega
                                    case rel => exact ⟨(wrap64 (x2_1 - 1)), (y202), (wrap64 (x28_1 + 1)), (by first | rfl | (simp; done) | (simp [*]; done)), (by first | rfl | (simp; done) | (simp [*]; done)), H', ⟨by have := HK1.out; have := HJ9.out; have := HJ13.out; have := HJ21.out; omega⟩, ⟨by (with_reducible repeat (first | apply Kd.R_alloc | apply Kd.R_drewN | apply Kd.R_drew)); exact HO_16.out⟩, ⟨by repeat (first | (with_reducible first | exact HB.out | apply below_alloc | apply pw_below_drewN | apply below_drew1) | exact HB.out)⟩⟩
                                  · rw [if_neg c27] at H
                                    have c27b0 : decide (0 < (wrap64 (x2_1 - 1))) = false := decide_eq_false c27
                                    clear c27
                                    by_cases c28 : a4 = true
                                    · subst c28
                                      have H1 : (some ((rd x16_9 (ji18)), wrap64 (x28_1 + 1), true)) = some (r1, r2, r3) := by rw [if_pos rfl] at H; exact H
                                      clear H
                                      have H := H1
                                      clear H1
                                      simp only [Option.some.injEq, Prod.mk.injEq] at H
                                      obtain ⟨rfl, rfl, rfl⟩ := H
                                      go_wp2
                                      go_ret3
                                      exact ⟨by first | rfl | (simp [errW_none, errW_some] <;> rfl) | (simp only [← hji18]; first | rfl | (simp [errW_none, errW_some] <;> rfl)) | (simp [*, errW_none, errW_some] <;> rfl), by repeat (first | (with_reducible first | exact HB.out | apply below_alloc | apply pw_below_drewN | apply below_drew1) | exact HB.out)⟩
                                    · replace c28 := Bool.eq_false_iff.mpr c28
                                      subst c28
                                      have H1 : (some (wrap64 ((rd x16_9 (ji18)) + 1), x28_1, true)) = some (r1, r2, r3) := by rw [if_neg (show ¬ (false = true) by decide)] at H; exact H
                                      clear H
                                      have H := H1
                                      clear H1
                                      simp only [Option.some.injEq, Prod.mk.injEq] at H
                                      obtain ⟨rfl, rfl, rfl⟩ := H
                                      go_wp2
                                      go_ret3
                                      exact ⟨by first | rfl | (simp [errW_none, errW_some] <;> rfl) | (simp only [← hji18]; first | rfl | (simp [errW_none, errW_some] <;> rfl)) | (simp [*, errW_none, errW_some] <;> rfl), by repeat (first | (with_reducible first | exact HB.out | apply below_alloc | apply pw_below_drewN | apply below_drew1) | exact HB.out)⟩
                          · rw [if_neg c21] at H
                            exact absurd H (by simp)
                        · rw [if_neg c20] at H
                          exact absurd H (by simp)
                      · rw [if_neg c19] at H
                        exact absurd H (by simp)
          · rw [if_neg c9] at H
            exact absurd H (by simp)
        · rw [if_neg c8] at H
          exact absurd H (by simp)
      · rw [if_neg c7] at H
        have c7b0 : decide (x28_1 < (l0.length : Int)) = false := decide_eq_false c7
        clear c7
        simp only [Option.some.injEq, Prod.mk.injEq] at H
        obtain ⟨rfl, rfl, rfl⟩ := H
        go_wp2
        go_ret3
        exact ⟨by first | rfl | (simp [errW_none, errW_some] <;> rfl) | (simp [*, errW_none, errW_some] <;> rfl), by repeat (first | (with_reducible first | exact HB.out | apply below_alloc | apply pw_below_drewN | apply below_drew1) | exact HB.out)⟩

end Go.Proofs.YtcochbkdgjgaeaaDoor.X
end
section
-- Written by wip/xprint.py over the kit's print.py: the Lean function of each Go function, and the proof that the Go text comes to it.
namespace Go.Proofs.YtcochbkdgjgaeaaDoor.X
open Go.RowKit Go.Proofs.YtcochbkdgjgaeaaDoorW.PrintWords Go.Proofs.YtcochbkdgjgaeaaDoorW.PrintLast Go.Proofs.YtcochbkdgjgaeaaDoorW.PrintMore
attribute [local go_sem] max2_int min2_int max_two min_two max_three min_three max_four min_four   -- for this text's walks alone
set_option linter.unusedVariables false
set_option linter.unusedSimpArgs false

/-! ### object_opener: function 32 -/
def object_opener.f (a0 : Int) : Option (Int) := if a0 = 98 then (some 40) else (if a0 = 66 then (some 123) else ((class_Partner.f a0).bind fun bt205 => (if bt205.2.1 = true then (some a0) else (some bt205.1))))
set_option maxHeartbeats 8000000 in
set_option maxRecDepth 100000 in
theorem object_opener.calls (a0 : Int) (r : Int) (w : World) (h : object_opener.f a0 = some r) :
    Calls Tryd.prog 32 #[.int .u8 a0] w fun e w' => e = .returned (.int .u8 r) ∧ Drawn0 w w' := by
  have H : (if a0 = 98 then (some 40) else (if a0 = 66 then (some 123) else ((class_Partner.f a0).bind fun bt205 => (if bt205.2.1 = true then (some a0) else (some bt205.1))))) = some r := h
  clear h
  by_cases c2 : a0 = 98
  · rw [if_pos c2] at H
    have c2b0 : (a0 == 98) = true := beq_iff_eq.mpr c2
    have c2b1 : (a0 != 98) = false := bne_eq_false_iff_eq.mpr c2
    clear c2
    obtain rfl := Option.some.inj H
    go_enter Tryd.func32, Tryd.ntmps32
    go_wp2
    go_ret
    exact ⟨by first | rfl | (simp; done) | (simp [*]; done), by repeat (first | exact Drawn0.refl _ | apply Drawn0.step)⟩
  · rw [if_neg c2] at H
    have c2b0 : (a0 == 98) = false := beq_eq_false_iff_ne.mpr c2
    have c2b1 : (a0 != 98) = true := bne_iff_ne.mpr c2
    by_cases c3 : a0 = 66
    · rw [if_pos c3] at H
      have c3b0 : (a0 == 66) = true := beq_iff_eq.mpr c3
      have c3b1 : (a0 != 66) = false := bne_eq_false_iff_eq.mpr c3
      clear c3
      obtain rfl := Option.some.inj H
      go_enter Tryd.func32, Tryd.ntmps32
      go_wp2
      go_ret
      exact ⟨by first | rfl | (simp; done) | (simp [*]; done), by repeat (first | exact Drawn0.refl _ | apply Drawn0.step)⟩
    · rw [if_neg c3] at H
      have c3b0 : (a0 == 66) = false := beq_eq_false_iff_ne.mpr c3
      have c3b1 : (a0 != 66) = true := bne_iff_ne.mpr c3
      replace H := Option.bind_eq_some_iff.mp H
      obtain ⟨⟨t205, t206, t207⟩, A40, H⟩ := H
      replace H : (if t206 = true then (some a0) else (some t205)) = some r := H
      have A4 := Aside0.mk A40
      clear A40
      by_cases c5 : t206 = true
      · subst c5
        have H1 : (some a0) = some r := by rw [if_pos rfl] at H; exact H
        clear H
        have H := H1
        clear H1
        obtain rfl := Option.some.inj H
        go_enter Tryd.func32, Tryd.ntmps32
        go_wp2_with (first | ((with_reducible refine gate_callee (f := 50) rfl ?_); refine goesL_ (some 13) rfl rfl Tryd.func50 (by kernel_rfl) rfl #[.int .u8 a0] rfl (by (try simp only [List.map_toArray, List.map_cons, List.map_nil]); first | done | rfl | (simp only [List.length_drop, List.length_take]; rfl)) ?_; (with_reducible refine (class_Partner.calls a0 t205 true t207 _ A4.out).mono ?_); rintro e w' ⟨rfl, ⟨nd, rfl⟩⟩; refine ⟨_, rfl, ?_⟩))
        go_ret
        exact ⟨by first | rfl | (simp; done) | (simp [*]; done), by repeat (first | exact Drawn0.refl _ | apply Drawn0.step)⟩
      · replace c5 := Bool.eq_false_iff.mpr c5
        subst c5
        have H1 : (some t205) = some r := by rw [if_neg (show ¬ (false = true) by decide)] at H; exact H
        clear H
        have H := H1
        clear H1
        obtain rfl := Option.some.inj H
        go_enter Tryd.func32, Tryd.ntmps32
        go_wp2_with (first | ((with_reducible refine gate_callee (f := 50) rfl ?_); refine goesL_ (some 13) rfl rfl Tryd.func50 (by kernel_rfl) rfl #[.int .u8 a0] rfl (by (try simp only [List.map_toArray, List.map_cons, List.map_nil]); first | done | rfl | (simp only [List.length_drop, List.length_take]; rfl)) ?_; (with_reducible refine (class_Partner.calls a0 t205 false t207 _ A4.out).mono ?_); rintro e w' ⟨rfl, ⟨nd, rfl⟩⟩; refine ⟨_, rfl, ?_⟩))
        go_ret
        exact ⟨by first | rfl | (simp; done) | (simp [*]; done), by repeat (first | exact Drawn0.refl _ | apply Drawn0.step)⟩

end Go.Proofs.YtcochbkdgjgaeaaDoor.X
end
