-- Written by wip/xprint.py over the kit's print.py: the Lean function of each Go function, and the proof that the Go text comes to it.
import Derived.Test.YtcochbkdgjgaeaaDoorX0
import Derived.Test.YtcochbkdgjgaeaaDoorX7
import Derived.Test.YtcochbkdgjgaeaaDoorX9
import Derived.Test.YtcochbkdgjgaeaaDoorX11
namespace Go.Proofs.YtcochbkdgjgaeaaDoor.X
open Go.RowKit Go.Proofs.YtcochbkdgjgaeaaDoorW.PrintWords Go.Proofs.YtcochbkdgjgaeaaDoorW.PrintLast Go.Proofs.YtcochbkdgjgaeaaDoorW.PrintMore
attribute [local go_sem] max2_int min2_int max_two min_two max_three min_three max_four min_four   -- for this text's walks alone
set_option linter.unusedVariables false
set_option linter.unusedSimpArgs false

/-! ### object_quoted: function 29 -/
mutual
def object_quoted.l0 : Nat → List Int → Int → Int → Bool → Int → Int → Int → Int → Int → Int → Option (Int × Int × Bool)
 | 0, _, _, _, _, _, _, _, _, _, _ => none
 | k + 1, x0, x2, x3, x4, x13, x15, x17, x18, x19, x20 => if x20 < x15 then (object_quoted.j1 k x0 x2 x3 x4 x13 x15 x17 x18 x19 x20 (decide (x18 < x2))) else (object_quoted.j1 k x0 x2 x3 x4 x13 x15 x17 x18 x19 x20 false)
def object_quoted.j1 : Nat → List Int → Int → Int → Bool → Int → Int → Int → Int → Int → Int → Bool → Option (Int × Int × Bool)
 | 0, _, _, _, _, _, _, _, _, _, _, _ => none
 | k + 1, x0, x2, x3, x4, x13, x15, x17, x18, x19, x20, x43 => if x43 = true then (if 0 ≤ x20 then (if x20 < (x0.length : Int) then (if (rd x0 x20) = x3 then (object_quoted.j2 k x0 x2 x3 x4 x13 x15 x17 x18 x19 x20 ((Int.tmod x19 2) == 0)) else (object_quoted.j2 k x0 x2 x3 x4 x13 x15 x17 x18 x19 x20 false)) else (none)) else (none)) else (if x17 < 0 then (object_quoted.j4 k x0 x4 x13 x15 x17 x18 true) else (if x18 < x17 then (object_quoted.j4 k x0 x4 x13 x15 x17 x18 true) else (object_quoted.j4 k x0 x4 x13 x15 x17 x18 (decide (x18 < x2)))))
def object_quoted.j2 : Nat → List Int → Int → Int → Bool → Int → Int → Int → Int → Int → Int → Bool → Option (Int × Int × Bool)
 | 0, _, _, _, _, _, _, _, _, _, _, _ => none
 | k + 1, x0, x2, x3, x4, x13, x15, x17, x18, x19, x20, x56 => if x56 = true then (if x17 ≥ 0 then (object_quoted.j3 k x0 x2 x3 x4 x13 x15 x17 x18 x19 x20 (decide (x18 < x17))) else (object_quoted.j3 k x0 x2 x3 x4 x13 x15 x17 x18 x19 x20 false)) else (if 0 ≤ x20 then (if x20 < (x0.length : Int) then (if (rd x0 x20) = 92 then (object_quoted.l0 k x0 x2 x3 x4 x13 x15 x17 x18 (wrap64 (x19 + 1)) (wrap64 (x20 + 1))) else (object_quoted.l0 k x0 x2 x3 x4 x13 x15 x17 x18 0 (wrap64 (x20 + 1)))) else (none)) else (none))
def object_quoted.j3 : Nat → List Int → Int → Int → Bool → Int → Int → Int → Int → Int → Int → Bool → Option (Int × Int × Bool)
 | 0, _, _, _, _, _, _, _, _, _, _, _ => none
 | k + 1, x0, x2, x3, x4, x13, x15, x17, x18, x19, x20, x63 => if x63 = true then (if 0 ≤ x20 then (if x20 < (x0.length : Int) then (if (rd x0 x20) = 92 then (object_quoted.l0 k x0 x2 x3 x4 x13 x15 x17 x20 (wrap64 (x19 + 1)) (wrap64 (x20 + 1))) else (object_quoted.l0 k x0 x2 x3 x4 x13 x15 x17 x20 0 (wrap64 (x20 + 1)))) else (none)) else (none)) else (if 0 ≤ x20 then (if x20 < (x0.length : Int) then (if (rd x0 x20) = 92 then (object_quoted.l0 k x0 x2 x3 x4 x13 x15 x20 x18 (wrap64 (x19 + 1)) (wrap64 (x20 + 1))) else (object_quoted.l0 k x0 x2 x3 x4 x13 x15 x20 x18 0 (wrap64 (x20 + 1)))) else (none)) else (none))
def object_quoted.j4 : Nat → List Int → Bool → Int → Int → Int → Int → Bool → Option (Int × Int × Bool)
 | 0, _, _, _, _, _, _, _ => none
 | k + 1, x0, x4, x13, x15, x17, x18, x84 => if x84 = true then (some (0, 0, false)) else (if x4 = true then (object_quoted.l1 k x0 x13 x15 x18 x17 (wrap64 (x18 + 1))) else (some (wrap64 (x17 + 1), x18, true)))
def object_quoted.j6 : Nat → List Int → Int → Int → Int → Int → Option (Int × Int × Bool)
 | 0, _, _, _, _, _ => none
 | k + 1, x0, x13, x18, x21, x22 => if x22 = (wrap64 (x18 + 1)) then (object_quoted.l2 k x0 x13 x21 x22) else (some (x21, x22, true))
def object_quoted.l2 : Nat → List Int → Int → Int → Int → Option (Int × Int × Bool)
 | 0, _, _, _, _ => none
 | k + 1, x0, x13, x21, x22 => if x21 > x13 then (if 0 ≤ (wrap64 (x21 - 1)) then (if (wrap64 (x21 - 1)) < (x0.length : Int) then ((class_Of.f k (rd x0 (wrap64 (x21 - 1))) false).bind fun t191 => (if t191 = 0 then (object_quoted.l2 k x0 x13 (wrap64 (x21 - 1)) x22) else (some (x21, x22, true)))) else (none)) else (none)) else (some (x21, x22, true))
def object_quoted.l1 : Nat → List Int → Int → Int → Int → Int → Int → Option (Int × Int × Bool)
 | 0, _, _, _, _, _, _ => none
 | k + 1, x0, x13, x15, x18, x21, x22 => if x22 < x15 then (if 0 ≤ x22 then (if x22 < (x0.length : Int) then ((class_Of.f k (rd x0 x22) false).bind fun t189 => (if t189 = 0 then (object_quoted.l1 k x0 x13 x15 x18 x21 (wrap64 (x22 + 1))) else (object_quoted.j6 k x0 x13 x18 x21 x22))) else (none)) else (none)) else (object_quoted.j6 k x0 x13 x18 x21 x22)
end
def object_quoted.f (k : Nat) (l0 : List Int) (a1 : Int) (a2 : Int) (a3 : Int) (a4 : Bool) : Option (Int × Int × Bool) := (lines_Start.f k l0 a1).bind fun bt180 => ((lines_End.f k l0 a1).bind fun bt182 => (object_quoted.l0 k l0 a2 a3 a4 bt180.1 bt182.1 (-1) (-1) 0 bt180.1))
theorem object_quoted.mono_l : ∀ k, (∀ y0 y1 y2 y3 y4 y5 y6 y7 y8 y9, LeO (object_quoted.l0 k y0 y1 y2 y3 y4 y5 y6 y7 y8 y9) (object_quoted.l0 (k + 1) y0 y1 y2 y3 y4 y5 y6 y7 y8 y9)) ∧ (∀ y0 y1 y2 y3 y4 y5 y6 y7 y8 y9 y10, LeO (object_quoted.j1 k y0 y1 y2 y3 y4 y5 y6 y7 y8 y9 y10) (object_quoted.j1 (k + 1) y0 y1 y2 y3 y4 y5 y6 y7 y8 y9 y10)) ∧ (∀ y0 y1 y2 y3 y4 y5 y6 y7 y8 y9 y10, LeO (object_quoted.j2 k y0 y1 y2 y3 y4 y5 y6 y7 y8 y9 y10) (object_quoted.j2 (k + 1) y0 y1 y2 y3 y4 y5 y6 y7 y8 y9 y10)) ∧ (∀ y0 y1 y2 y3 y4 y5 y6 y7 y8 y9 y10, LeO (object_quoted.j3 k y0 y1 y2 y3 y4 y5 y6 y7 y8 y9 y10) (object_quoted.j3 (k + 1) y0 y1 y2 y3 y4 y5 y6 y7 y8 y9 y10)) ∧ (∀ y0 y1 y2 y3 y4 y5 y6, LeO (object_quoted.j4 k y0 y1 y2 y3 y4 y5 y6) (object_quoted.j4 (k + 1) y0 y1 y2 y3 y4 y5 y6)) ∧ (∀ y0 y1 y2 y3 y4, LeO (object_quoted.j6 k y0 y1 y2 y3 y4) (object_quoted.j6 (k + 1) y0 y1 y2 y3 y4)) ∧ (∀ y0 y1 y2 y3, LeO (object_quoted.l2 k y0 y1 y2 y3) (object_quoted.l2 (k + 1) y0 y1 y2 y3)) ∧ (∀ y0 y1 y2 y3 y4 y5, LeO (object_quoted.l1 k y0 y1 y2 y3 y4 y5) (object_quoted.l1 (k + 1) y0 y1 y2 y3 y4 y5))
 | 0 => ⟨fun _ _ _ _ _ _ _ _ _ _ r h => by simp [object_quoted.l0] at h, fun _ _ _ _ _ _ _ _ _ _ _ r h => by simp [object_quoted.j1] at h, fun _ _ _ _ _ _ _ _ _ _ _ r h => by simp [object_quoted.j2] at h, fun _ _ _ _ _ _ _ _ _ _ _ r h => by simp [object_quoted.j3] at h, fun _ _ _ _ _ _ _ r h => by simp [object_quoted.j4] at h, fun _ _ _ _ _ r h => by simp [object_quoted.j6] at h, fun _ _ _ _ r h => by simp [object_quoted.l2] at h, fun _ _ _ _ _ _ r h => by simp [object_quoted.l1] at h⟩
 | k + 1 => by
  obtain ⟨ih0, ih1, ih2, ih3, ih4, ih5, ih6, ih7⟩ := object_quoted.mono_l k
  refine ⟨?_, ?_, ?_, ?_, ?_, ?_, ?_, ?_⟩
  ·intro y0 y1 y2 y3 y4 y5 y6 y7 y8 y9
   unfold object_quoted.l0
   repeat' first
   | (with_reducible exact ih0 _ _ _ _ _ _ _ _ _ _)
   | (with_reducible exact ih1 _ _ _ _ _ _ _ _ _ _ _)
   | (with_reducible exact ih2 _ _ _ _ _ _ _ _ _ _ _)
   | (with_reducible exact ih3 _ _ _ _ _ _ _ _ _ _ _)
   | (with_reducible exact ih4 _ _ _ _ _ _ _)
   | (with_reducible exact ih5 _ _ _ _ _)
   | (with_reducible exact ih6 _ _ _ _)
   | (with_reducible exact ih7 _ _ _ _ _ _)
   | (with_reducible exact class_Of.mono _ _ _)
   | (with_reducible exact lines_End.mono _ _ _)
   | (with_reducible exact lines_Start.mono _ _ _)
   | (with_reducible exact LeO.refl _)
   | (with_reducible exact LeO.none _)
   | (with_reducible refine LeO.ite ?_ ?_)
   | (with_reducible refine LeO.bind ?_ (fun _ => ?_))
   | exact ih0 _ _ _ _ _ _ _ _ _ _
   | exact ih1 _ _ _ _ _ _ _ _ _ _ _
   | exact ih2 _ _ _ _ _ _ _ _ _ _ _
   | exact ih3 _ _ _ _ _ _ _ _ _ _ _
   | exact ih4 _ _ _ _ _ _ _
   | exact ih5 _ _ _ _ _
   | exact ih6 _ _ _ _
   | exact ih7 _ _ _ _ _ _
   | exact class_Of.mono _ _ _
   | exact lines_End.mono _ _ _
   | exact lines_Start.mono _ _ _
   | exact LeO.none _
   | refine LeO.ite ?_ ?_
   | refine LeO.bind ?_ (fun _ => ?_)
  ·intro y0 y1 y2 y3 y4 y5 y6 y7 y8 y9 y10
   unfold object_quoted.j1
   repeat' first
   | (with_reducible exact ih0 _ _ _ _ _ _ _ _ _ _)
   | (with_reducible exact ih1 _ _ _ _ _ _ _ _ _ _ _)
   | (with_reducible exact ih2 _ _ _ _ _ _ _ _ _ _ _)
   | (with_reducible exact ih3 _ _ _ _ _ _ _ _ _ _ _)
   | (with_reducible exact ih4 _ _ _ _ _ _ _)
   | (with_reducible exact ih5 _ _ _ _ _)
   | (with_reducible exact ih6 _ _ _ _)
   | (with_reducible exact ih7 _ _ _ _ _ _)
   | (with_reducible exact class_Of.mono _ _ _)
   | (with_reducible exact lines_End.mono _ _ _)
   | (with_reducible exact lines_Start.mono _ _ _)
   | (with_reducible exact LeO.refl _)
   | (with_reducible exact LeO.none _)
   | (with_reducible refine LeO.ite ?_ ?_)
   | (with_reducible refine LeO.bind ?_ (fun _ => ?_))
   | exact ih0 _ _ _ _ _ _ _ _ _ _
   | exact ih1 _ _ _ _ _ _ _ _ _ _ _
   | exact ih2 _ _ _ _ _ _ _ _ _ _ _
   | exact ih3 _ _ _ _ _ _ _ _ _ _ _
   | exact ih4 _ _ _ _ _ _ _
   | exact ih5 _ _ _ _ _
   | exact ih6 _ _ _ _
   | exact ih7 _ _ _ _ _ _
   | exact class_Of.mono _ _ _
   | exact lines_End.mono _ _ _
   | exact lines_Start.mono _ _ _
   | exact LeO.none _
   | refine LeO.ite ?_ ?_
   | refine LeO.bind ?_ (fun _ => ?_)
  ·intro y0 y1 y2 y3 y4 y5 y6 y7 y8 y9 y10
   unfold object_quoted.j2
   repeat' first
   | (with_reducible exact ih0 _ _ _ _ _ _ _ _ _ _)
   | (with_reducible exact ih1 _ _ _ _ _ _ _ _ _ _ _)
   | (with_reducible exact ih2 _ _ _ _ _ _ _ _ _ _ _)
   | (with_reducible exact ih3 _ _ _ _ _ _ _ _ _ _ _)
   | (with_reducible exact ih4 _ _ _ _ _ _ _)
   | (with_reducible exact ih5 _ _ _ _ _)
   | (with_reducible exact ih6 _ _ _ _)
   | (with_reducible exact ih7 _ _ _ _ _ _)
   | (with_reducible exact class_Of.mono _ _ _)
   | (with_reducible exact lines_End.mono _ _ _)
   | (with_reducible exact lines_Start.mono _ _ _)
   | (with_reducible exact LeO.refl _)
   | (with_reducible exact LeO.none _)
   | (with_reducible refine LeO.ite ?_ ?_)
   | (with_reducible refine LeO.bind ?_ (fun _ => ?_))
   | exact ih0 _ _ _ _ _ _ _ _ _ _
   | exact ih1 _ _ _ _ _ _ _ _ _ _ _
   | exact ih2 _ _ _ _ _ _ _ _ _ _ _
   | exact ih3 _ _ _ _ _ _ _ _ _ _ _
   | exact ih4 _ _ _ _ _ _ _
   | exact ih5 _ _ _ _ _
   | exact ih6 _ _ _ _
   | exact ih7 _ _ _ _ _ _
   | exact class_Of.mono _ _ _
   | exact lines_End.mono _ _ _
   | exact lines_Start.mono _ _ _
   | exact LeO.none _
   | refine LeO.ite ?_ ?_
   | refine LeO.bind ?_ (fun _ => ?_)
  ·intro y0 y1 y2 y3 y4 y5 y6 y7 y8 y9 y10
   unfold object_quoted.j3
   repeat' first
   | (with_reducible exact ih0 _ _ _ _ _ _ _ _ _ _)
   | (with_reducible exact ih1 _ _ _ _ _ _ _ _ _ _ _)
   | (with_reducible exact ih2 _ _ _ _ _ _ _ _ _ _ _)
   | (with_reducible exact ih3 _ _ _ _ _ _ _ _ _ _ _)
   | (with_reducible exact ih4 _ _ _ _ _ _ _)
   | (with_reducible exact ih5 _ _ _ _ _)
   | (with_reducible exact ih6 _ _ _ _)
   | (with_reducible exact ih7 _ _ _ _ _ _)
   | (with_reducible exact class_Of.mono _ _ _)
   | (with_reducible exact lines_End.mono _ _ _)
   | (with_reducible exact lines_Start.mono _ _ _)
   | (with_reducible exact LeO.refl _)
   | (with_reducible exact LeO.none _)
   | (with_reducible refine LeO.ite ?_ ?_)
   | (with_reducible refine LeO.bind ?_ (fun _ => ?_))
   | exact ih0 _ _ _ _ _ _ _ _ _ _
   | exact ih1 _ _ _ _ _ _ _ _ _ _ _
   | exact ih2 _ _ _ _ _ _ _ _ _ _ _
   | exact ih3 _ _ _ _ _ _ _ _ _ _ _
   | exact ih4 _ _ _ _ _ _ _
   | exact ih5 _ _ _ _ _
   | exact ih6 _ _ _ _
   | exact ih7 _ _ _ _ _ _
   | exact class_Of.mono _ _ _
   | exact lines_End.mono _ _ _
   | exact lines_Start.mono _ _ _
   | exact LeO.none _
   | refine LeO.ite ?_ ?_
   | refine LeO.bind ?_ (fun _ => ?_)
  ·intro y0 y1 y2 y3 y4 y5 y6
   unfold object_quoted.j4
   repeat' first
   | (with_reducible exact ih0 _ _ _ _ _ _ _ _ _ _)
   | (with_reducible exact ih1 _ _ _ _ _ _ _ _ _ _ _)
   | (with_reducible exact ih2 _ _ _ _ _ _ _ _ _ _ _)
   | (with_reducible exact ih3 _ _ _ _ _ _ _ _ _ _ _)
   | (with_reducible exact ih4 _ _ _ _ _ _ _)
   | (with_reducible exact ih5 _ _ _ _ _)
   | (with_reducible exact ih6 _ _ _ _)
   | (with_reducible exact ih7 _ _ _ _ _ _)
   | (with_reducible exact class_Of.mono _ _ _)
   | (with_reducible exact lines_End.mono _ _ _)
   | (with_reducible exact lines_Start.mono _ _ _)
   | (with_reducible exact LeO.refl _)
   | (with_reducible exact LeO.none _)
   | (with_reducible refine LeO.ite ?_ ?_)
   | (with_reducible refine LeO.bind ?_ (fun _ => ?_))
   | exact ih0 _ _ _ _ _ _ _ _ _ _
   | exact ih1 _ _ _ _ _ _ _ _ _ _ _
   | exact ih2 _ _ _ _ _ _ _ _ _ _ _
   | exact ih3 _ _ _ _ _ _ _ _ _ _ _
   | exact ih4 _ _ _ _ _ _ _
   | exact ih5 _ _ _ _ _
   | exact ih6 _ _ _ _
   | exact ih7 _ _ _ _ _ _
   | exact class_Of.mono _ _ _
   | exact lines_End.mono _ _ _
   | exact lines_Start.mono _ _ _
   | exact LeO.none _
   | refine LeO.ite ?_ ?_
   | refine LeO.bind ?_ (fun _ => ?_)
  ·intro y0 y1 y2 y3 y4
   unfold object_quoted.j6
   repeat' first
   | (with_reducible exact ih0 _ _ _ _ _ _ _ _ _ _)
   | (with_reducible exact ih1 _ _ _ _ _ _ _ _ _ _ _)
   | (with_reducible exact ih2 _ _ _ _ _ _ _ _ _ _ _)
   | (with_reducible exact ih3 _ _ _ _ _ _ _ _ _ _ _)
   | (with_reducible exact ih4 _ _ _ _ _ _ _)
   | (with_reducible exact ih5 _ _ _ _ _)
   | (with_reducible exact ih6 _ _ _ _)
   | (with_reducible exact ih7 _ _ _ _ _ _)
   | (with_reducible exact class_Of.mono _ _ _)
   | (with_reducible exact lines_End.mono _ _ _)
   | (with_reducible exact lines_Start.mono _ _ _)
   | (with_reducible exact LeO.refl _)
   | (with_reducible exact LeO.none _)
   | (with_reducible refine LeO.ite ?_ ?_)
   | (with_reducible refine LeO.bind ?_ (fun _ => ?_))
   | exact ih0 _ _ _ _ _ _ _ _ _ _
   | exact ih1 _ _ _ _ _ _ _ _ _ _ _
   | exact ih2 _ _ _ _ _ _ _ _ _ _ _
   | exact ih3 _ _ _ _ _ _ _ _ _ _ _
   | exact ih4 _ _ _ _ _ _ _
   | exact ih5 _ _ _ _ _
   | exact ih6 _ _ _ _
   | exact ih7 _ _ _ _ _ _
   | exact class_Of.mono _ _ _
   | exact lines_End.mono _ _ _
   | exact lines_Start.mono _ _ _
   | exact LeO.none _
   | refine LeO.ite ?_ ?_
   | refine LeO.bind ?_ (fun _ => ?_)
  ·intro y0 y1 y2 y3
   unfold object_quoted.l2
   repeat' first
   | (with_reducible exact ih0 _ _ _ _ _ _ _ _ _ _)
   | (with_reducible exact ih1 _ _ _ _ _ _ _ _ _ _ _)
   | (with_reducible exact ih2 _ _ _ _ _ _ _ _ _ _ _)
   | (with_reducible exact ih3 _ _ _ _ _ _ _ _ _ _ _)
   | (with_reducible exact ih4 _ _ _ _ _ _ _)
   | (with_reducible exact ih5 _ _ _ _ _)
   | (with_reducible exact ih6 _ _ _ _)
   | (with_reducible exact ih7 _ _ _ _ _ _)
   | (with_reducible exact class_Of.mono _ _ _)
   | (with_reducible exact lines_End.mono _ _ _)
   | (with_reducible exact lines_Start.mono _ _ _)
   | (with_reducible exact LeO.refl _)
   | (with_reducible exact LeO.none _)
   | (with_reducible refine LeO.ite ?_ ?_)
   | (with_reducible refine LeO.bind ?_ (fun _ => ?_))
   | exact ih0 _ _ _ _ _ _ _ _ _ _
   | exact ih1 _ _ _ _ _ _ _ _ _ _ _
   | exact ih2 _ _ _ _ _ _ _ _ _ _ _
   | exact ih3 _ _ _ _ _ _ _ _ _ _ _
   | exact ih4 _ _ _ _ _ _ _
   | exact ih5 _ _ _ _ _
   | exact ih6 _ _ _ _
   | exact ih7 _ _ _ _ _ _
   | exact class_Of.mono _ _ _
   | exact lines_End.mono _ _ _
   | exact lines_Start.mono _ _ _
   | exact LeO.none _
   | refine LeO.ite ?_ ?_
   | refine LeO.bind ?_ (fun _ => ?_)
  ·intro y0 y1 y2 y3 y4 y5
   unfold object_quoted.l1
   repeat' first
   | (with_reducible exact ih0 _ _ _ _ _ _ _ _ _ _)
   | (with_reducible exact ih1 _ _ _ _ _ _ _ _ _ _ _)
   | (with_reducible exact ih2 _ _ _ _ _ _ _ _ _ _ _)
   | (with_reducible exact ih3 _ _ _ _ _ _ _ _ _ _ _)
   | (with_reducible exact ih4 _ _ _ _ _ _ _)
   | (with_reducible exact ih5 _ _ _ _ _)
   | (with_reducible exact ih6 _ _ _ _)
   | (with_reducible exact ih7 _ _ _ _ _ _)
   | (with_reducible exact class_Of.mono _ _ _)
   | (with_reducible exact lines_End.mono _ _ _)
   | (with_reducible exact lines_Start.mono _ _ _)
   | (with_reducible exact LeO.refl _)
   | (with_reducible exact LeO.none _)
   | (with_reducible refine LeO.ite ?_ ?_)
   | (with_reducible refine LeO.bind ?_ (fun _ => ?_))
   | exact ih0 _ _ _ _ _ _ _ _ _ _
   | exact ih1 _ _ _ _ _ _ _ _ _ _ _
   | exact ih2 _ _ _ _ _ _ _ _ _ _ _
   | exact ih3 _ _ _ _ _ _ _ _ _ _ _
   | exact ih4 _ _ _ _ _ _ _
   | exact ih5 _ _ _ _ _
   | exact ih6 _ _ _ _
   | exact ih7 _ _ _ _ _ _
   | exact class_Of.mono _ _ _
   | exact lines_End.mono _ _ _
   | exact lines_Start.mono _ _ _
   | exact LeO.none _
   | refine LeO.ite ?_ ?_
   | refine LeO.bind ?_ (fun _ => ?_)
theorem object_quoted.mono : ∀ a0 a1 a2 a3 a4 k, LeO (object_quoted.f k a0 a1 a2 a3 a4) (object_quoted.f (k + 1) a0 a1 a2 a3 a4) := by
 intro a0 a1 a2 a3 a4 k
 obtain ⟨ih0, ih1, ih2, ih3, ih4, ih5, ih6, ih7⟩ := object_quoted.mono_l k
 unfold object_quoted.f
 repeat' first
   | (with_reducible exact ih0 _ _ _ _ _ _ _ _ _ _)
   | (with_reducible exact ih1 _ _ _ _ _ _ _ _ _ _ _)
   | (with_reducible exact ih2 _ _ _ _ _ _ _ _ _ _ _)
   | (with_reducible exact ih3 _ _ _ _ _ _ _ _ _ _ _)
   | (with_reducible exact ih4 _ _ _ _ _ _ _)
   | (with_reducible exact ih5 _ _ _ _ _)
   | (with_reducible exact ih6 _ _ _ _)
   | (with_reducible exact ih7 _ _ _ _ _ _)
   | (with_reducible exact class_Of.mono _ _ _)
   | (with_reducible exact lines_End.mono _ _ _)
   | (with_reducible exact lines_Start.mono _ _ _)
   | (with_reducible exact LeO.refl _)
   | (with_reducible exact LeO.none _)
   | (with_reducible refine LeO.ite ?_ ?_)
   | (with_reducible refine LeO.bind ?_ (fun _ => ?_))
   | exact ih0 _ _ _ _ _ _ _ _ _ _
   | exact ih1 _ _ _ _ _ _ _ _ _ _ _
   | exact ih2 _ _ _ _ _ _ _ _ _ _ _
   | exact ih3 _ _ _ _ _ _ _ _ _ _ _
   | exact ih4 _ _ _ _ _ _ _
   | exact ih5 _ _ _ _ _
   | exact ih6 _ _ _ _
   | exact ih7 _ _ _ _ _ _
   | exact class_Of.mono _ _ _
   | exact lines_End.mono _ _ _
   | exact lines_Start.mono _ _ _
   | exact LeO.none _
   | refine LeO.ite ?_ ?_
   | refine LeO.bind ?_ (fun _ => ?_)
set_option maxHeartbeats 8000000 in
set_option maxRecDepth 100000 in
theorem object_quoted.calls (k : Nat) (A0 : Option Addr) (c0 : Nat) (l0 : List Int) (a1 : Int) (a2 : Int) (a3 : Int) (a4 : Bool) (r1 : Int) (r2 : Int) (r3 : Bool) (w : World) (hr0 : Kd.C (Kd.int .u8) w A0 l0.length l0) (hc0 : l0.length ≤ c0) (h : object_quoted.f k l0 a1 a2 a3 a4 = some (r1, r2, r3)) :
  Calls Tryd.prog 29 #[.slice A0 l0.length c0, .int .i64 a1, .int .i64 a2, .int .u8 a3, .bool a4] w fun e w' => e = .returned (.tuple #[.int .i64 r1, .int .i64 r2, .bool r3]) ∧ Drawn0 w w' := by
 have HR0 := Aside0.mk hr0
 have HC0 := Aside0.mk hc0
 clear hr0 hc0
 have H : ((lines_Start.f k l0 a1).bind fun bt180 => ((lines_End.f k l0 a1).bind fun bt182 => (object_quoted.l0 k l0 a2 a3 a4 bt180.1 bt182.1 (-1) (-1) 0 bt180.1))) = some (r1, r2, r3) := h
 clear h
 replace H := Option.bind_eq_some_iff.mp H
 obtain ⟨⟨t180, t181⟩, A60, H⟩ := H
 replace H : ((lines_End.f k l0 a1).bind fun bt182 => (object_quoted.l0 k l0 a2 a3 a4 t180 bt182.1 (-1) (-1) 0 t180)) = some (r1, r2, r3) := H
 have A6 := Aside0.mk A60
 clear A60
 replace H := Option.bind_eq_some_iff.mp H
 obtain ⟨⟨t182, t183⟩, A70, H⟩ := H
 replace H : (object_quoted.l0 k l0 a2 a3 a4 t180 t182 (-1) (-1) 0 t180) = some (r1, r2, r3) := H
 have A7 := Aside0.mk A70
 clear A70
 have H' := Aside0.mk H
 clear H
 go_enter Tryd.func29, Tryd.ntmps29
 go_wp2_with (first | ((with_reducible refine gate_callee (f := 44) rfl ?_); refine goesL_ (some 26) rfl rfl Tryd.func44 (by kernel_rfl) rfl #[.slice A0 l0.length c0, .int .i64 a1] rfl (by (try simp only [List.map_toArray, List.map_cons, List.map_nil]); first | done | rfl | (simp only [List.length_drop, List.length_take]; rfl)) ?_; (with_reducible refine (lines_Start.calls k _ _ l0 a1 t180 t181 _ ?side1 ?side2 A6.out).mono ?_); (case side1 => repeat (first | exact HR0.out | (with_reducible refine Kd.C_alloc ?_ _) | (with_reducible refine Kd.C_drewN ?_ _) | (with_reducible refine Kd.C_drew ?_))); (case side2 => exact HC0.out); rintro e w' ⟨rfl, ⟨nd, rfl⟩⟩; refine ⟨_, rfl, ?_⟩) | ((with_reducible refine gate_callee (f := 45) rfl ?_); refine goesL_ (some 32) rfl rfl Tryd.func45 (by kernel_rfl) rfl #[.slice A0 l0.length c0, .int .i64 a1] rfl (by (try simp only [List.map_toArray, List.map_cons, List.map_nil]); first | done | rfl | (simp only [List.length_drop, List.length_take]; rfl)) ?_; (with_reducible refine (lines_End.calls k _ _ l0 a1 t182 t183 _ ?side1 ?side2 A7.out).mono ?_); (case side1 => repeat (first | exact HR0.out | (with_reducible refine Kd.C_alloc ?_ _) | (with_reducible refine Kd.C_drewN ?_ _) | (with_reducible refine Kd.C_drew ?_))); (case side2 => exact HC0.out); rintro e w' ⟨rfl, ⟨nd, rfl⟩⟩; refine ⟨_, rfl, ?_⟩))
 go_loopg [17, 18, 19, 20] k (fun kq v17 v18 v19 v20 w' => ∃ (x17_1 : Int) (x18_1 : Int) (x19_1 : Int) (x20_1 : Int), v17 = .int .i64 x17_1 ∧ v18 = .int .i64 x18_1 ∧ v19 = .int .i64 x19_1 ∧ v20 = .int .i64 x20_1 ∧ Aside0 (object_quoted.l0 kq l0 a2 a3 a4 t180 t182 x17_1 x18_1 x19_1 x20_1 = some (r1, r2, r3)) ∧ Aside0 (kq ≤ k) ∧ Drawn0 w w')
 case atStart => exact ⟨((-1)), ((-1)), (0), (t180), (by first | rfl | (simp; done) | (simp [*]; done)), (by first | rfl | (simp; done) | (simp [*]; done)), (by first | rfl | (simp; done) | (simp [*]; done)), (by first | rfl | (simp; done) | (simp [*]; done)), H', ⟨Nat.le_refl _⟩, by repeat (first | exact Drawn0.refl _ | apply Drawn0.step)⟩
 case round =>
  clear H'
  try clear c2
  try clear p2
  try clear c4
  obtain ⟨x17_1, x18_1, x19_1, x20_1, rfl, rfl, rfl, rfl, HA, HK1, ⟨m1, rfl⟩⟩ := hrel
  cases gk with
  | zero => exact absurd HA.out (by simp [object_quoted.l0])
  | succ k1 =>
   have H := HA.out
   clear HA
   simp only [object_quoted.l0] at H
   have HC8 := Aside0.mk H
   clear H
   go_upto_region 5 with (fail)
   go_cut [43] (fun v43 wc => ∃ (kq : Nat) (x43_7 : Bool), v43 = .bool x43_7 ∧ Aside0 (object_quoted.j1 kq l0 a2 a3 a4 t180 t182 x17_1 x18_1 x19_1 x20_1 x43_7 = some (r1, r2, r3)) ∧ Aside0 (kq ≤ k1) ∧ Drawn0 w wc)
   case first =>
    have H := HC8.out
    clear HC8
    by_cases c9 : x20_1 < t182
    ·rw [if_pos c9] at H
     have c9b0 : decide (x20_1 < t182) = true := decide_eq_true c9
     clear c9
     (first | rw [c9b0] | (simp only [i64_w, i32_w]; rw [c9b0]) | skip)
     have H' := Aside0.mk H
     clear H
     go_wp2
     go_meet
     case rel => exact ⟨_, (decide (x18_1 < a2)), (by first | rfl | (simp; done) | (simp [*]; done)), H', ⟨by have := HK1.out; first | omega | exact Nat.le_refl _⟩, by repeat (first | exact Drawn0.refl _ | apply Drawn0.step)⟩
    ·rw [if_neg c9] at H
     have c9b0 : decide (x20_1 < t182) = false := decide_eq_false c9
     clear c9
     (first | rw [c9b0] | (simp only [i64_w, i32_w]; rw [c9b0]) | skip)
     have H' := Aside0.mk H
     clear H
     go_wp2
     go_meet
     case rel => exact ⟨_, (false), (by first | rfl | (simp; done) | (simp [*]; done)), H', ⟨by have := HK1.out; first | omega | exact Nat.le_refl _⟩, by repeat (first | exact Drawn0.refl _ | apply Drawn0.step)⟩
   case rest =>
    clear HC8
    try clear c2
    try clear p2
    try clear c4
    try clear c9
    try clear c9b0
    try clear p2
    obtain ⟨kq, x43_7, rfl, HA, HJ7, ⟨mc7, rfl⟩⟩ := hcut
    cases kq with
    | zero => exact absurd HA.out (by simp [object_quoted.j1])
    | succ kj7 =>
     have H := HA.out
     clear HA
     simp only [object_quoted.j1] at H
     by_cases c10 : x43_7 = true
     ·subst c10
      have H1 : (if 0 ≤ x20_1 then (if x20_1 < (l0.length : Int) then (if (rd l0 x20_1) = a3 then (object_quoted.j2 kj7 l0 a2 a3 a4 t180 t182 x17_1 x18_1 x19_1 x20_1 ((Int.tmod x19_1 2) == 0)) else (object_quoted.j2 kj7 l0 a2 a3 a4 t180 t182 x17_1 x18_1 x19_1 x20_1 false)) else (none)) else (none)) = some (r1, r2, r3) := by rw [if_pos rfl] at H; exact H
      clear H
      have H := H1
      clear H1
      have HC11 := Aside0.mk H
      clear H
      go_upto_region 7 with (fail)
      go_cut [56] (fun v56 wc => ∃ (kq : Nat) (x56_10 : Bool), v56 = .bool x56_10 ∧ Aside0 (object_quoted.j2 kq l0 a2 a3 a4 t180 t182 x17_1 x18_1 x19_1 x20_1 x56_10 = some (r1, r2, r3)) ∧ Aside0 (kq ≤ kj7) ∧ Drawn0 w wc)
      case first =>
       have H := HC11.out
       clear HC11
       by_cases c12 : 0 ≤ x20_1
       ·rw [if_pos c12] at H
        have c12b0 : decide (0 ≤ x20_1) = true := decide_eq_true c12
        clear c12
        (first | rw [c12b0] | (simp only [i64_w, i32_w]; rw [c12b0]) | skip)
        by_cases c13 : x20_1 < (l0.length : Int)
        ·rw [if_pos c13] at H
         have c13b0 : decide (x20_1 < (l0.length : Int)) = true := decide_eq_true c13
         clear c13
         by_cases c14 : (rd l0 x20_1) = a3
         ·rw [if_pos c14] at H
          have c14b0 : ((rd l0 x20_1) == a3) = true := beq_iff_eq.mpr c14
          have c14b1 : ((rd l0 x20_1) != a3) = false := bne_eq_false_iff_eq.mpr c14
          clear c14
          have H' := Aside0.mk H
          clear H
          have p184 : 0 ≤ (x20_1 : Int) := of_decide_eq_true (by first | (with_reducible assumption) | assumption)
          have q184 : x20_1 < (l0.length : Int) := of_decide_eq_true (by first | (with_reducible assumption) | assumption)
          obtain ⟨ad184, e184, hx184_0⟩ := Kd.at_int HR0.out x20_1 p184 q184
          cases e184
          replace p184 := eq_true p184
          replace q184 := eq_true q184
          go_wp2
          go_meet
          case rel => exact ⟨_, (((Int.tmod x19_1 2) == 0)), (by first | rfl | (simp; done) | (simp [*]; done)), H', ⟨by have := HK1.out; have := HJ7.out; first | omega | exact Nat.le_refl _⟩, by repeat (first | exact Drawn0.refl _ | apply Drawn0.step)⟩
         ·rw [if_neg c14] at H
          have c14b0 : ((rd l0 x20_1) == a3) = false := beq_eq_false_iff_ne.mpr c14
          have c14b1 : ((rd l0 x20_1) != a3) = true := bne_iff_ne.mpr c14
          have H' := Aside0.mk H
          clear H
          have p184 : 0 ≤ (x20_1 : Int) := of_decide_eq_true (by first | (with_reducible assumption) | assumption)
          have q184 : x20_1 < (l0.length : Int) := of_decide_eq_true (by first | (with_reducible assumption) | assumption)
          obtain ⟨ad184, e184, hx184_0⟩ := Kd.at_int HR0.out x20_1 p184 q184
          cases e184
          replace p184 := eq_true p184
          replace q184 := eq_true q184
          go_wp2
          go_meet
          case rel => exact ⟨_, (false), (by first | rfl | (simp; done) | (simp [*]; done)), H', ⟨by have := HK1.out; have := HJ7.out; first | omega | exact Nat.le_refl _⟩, by repeat (first | exact Drawn0.refl _ | apply Drawn0.step)⟩
        ·rw [if_neg c13] at H
         exact absurd H (by simp)
       ·rw [if_neg c12] at H
        exact absurd H (by simp)
      case rest =>
       clear HC11
       try clear c1
       try clear p1
       try clear q1
       try clear hx1
       try clear c2
       try clear p2
       try clear c4
       try clear c7
       try clear c9
       try clear c9b0
       try clear c10
       try clear c12
       try clear c12b0
       try clear c13
       try clear c13b0
       try clear c14
       try clear c14b0
       try clear c14b1
       try clear hx184_0
       try clear p184
       try clear p2
       try clear q184
       obtain ⟨kq, x56_10, rfl, HA, HJ10, ⟨mc10, rfl⟩⟩ := hcut
       cases kq with
       | zero => exact absurd HA.out (by simp [object_quoted.j2])
       | succ kj10 =>
        have H := HA.out
        clear HA
        simp only [object_quoted.j2] at H
        by_cases c15 : x56_10 = true
        ·subst c15
         have H1 : (if x17_1 ≥ 0 then (object_quoted.j3 kj10 l0 a2 a3 a4 t180 t182 x17_1 x18_1 x19_1 x20_1 (decide (x18_1 < x17_1))) else (object_quoted.j3 kj10 l0 a2 a3 a4 t180 t182 x17_1 x18_1 x19_1 x20_1 false)) = some (r1, r2, r3) := by rw [if_pos rfl] at H; exact H
         clear H
         have H := H1
         clear H1
         have HC16 := Aside0.mk H
         clear H
         go_upto_region 8 with (fail)
         go_cut [63] (fun v63 wc => ∃ (kq : Nat) (x63_15 : Bool), v63 = .bool x63_15 ∧ Aside0 (object_quoted.j3 kq l0 a2 a3 a4 t180 t182 x17_1 x18_1 x19_1 x20_1 x63_15 = some (r1, r2, r3)) ∧ Aside0 (kq ≤ kj10) ∧ Drawn0 w wc)
         case first =>
          have H := HC16.out
          clear HC16
          by_cases c17 : x17_1 ≥ 0
          ·rw [if_pos c17] at H
           have c17b0 : decide (0 ≤ x17_1) = true := decide_eq_true c17
           clear c17
           (first | rw [c17b0] | (simp only [i64_w, i32_w]; rw [c17b0]) | skip)
           have H' := Aside0.mk H
           clear H
           go_wp2
           go_meet
           case rel => exact ⟨_, (decide (x18_1 < x17_1)), (by first | rfl | (simp; done) | (simp [*]; done)), H', ⟨by have := HK1.out; have := HJ7.out; have := HJ10.out; first | omega | exact Nat.le_refl _⟩, by repeat (first | exact Drawn0.refl _ | apply Drawn0.step)⟩
          ·rw [if_neg c17] at H
           have c17b0 : decide (0 ≤ x17_1) = false := decide_eq_false c17
           clear c17
           (first | rw [c17b0] | (simp only [i64_w, i32_w]; rw [c17b0]) | skip)
           have H' := Aside0.mk H
           clear H
           go_wp2
           go_meet
           case rel => exact ⟨_, (false), (by first | rfl | (simp; done) | (simp [*]; done)), H', ⟨by have := HK1.out; have := HJ7.out; have := HJ10.out; first | omega | exact Nat.le_refl _⟩, by repeat (first | exact Drawn0.refl _ | apply Drawn0.step)⟩
         case rest =>
          clear HC16
          try clear c1
          try clear p1
          try clear q1
          try clear hx1
          try clear c2
          try clear p2
          try clear c4
          try clear c7
          try clear c9
          try clear c9b0
          try clear c10
          try clear c12
          try clear c12b0
          try clear c13
          try clear c13b0
          try clear c14
          try clear c14b0
          try clear c14b1
          try clear c15
          try clear c17
          try clear c17b0
          try clear hx184_0
          try clear p1
          try clear p184
          try clear p2
          try clear q1
          try clear q184
          obtain ⟨kq, x63_15, rfl, HA, HJ15, ⟨mc15, rfl⟩⟩ := hcut
          cases kq with
          | zero => exact absurd HA.out (by simp [object_quoted.j3])
          | succ kj15 =>
           have H := HA.out
           clear HA
           simp only [object_quoted.j3] at H
           by_cases c18 : x63_15 = true
           ·subst c18
            have H1 : (if 0 ≤ x20_1 then (if x20_1 < (l0.length : Int) then (if (rd l0 x20_1) = 92 then (object_quoted.l0 kj15 l0 a2 a3 a4 t180 t182 x17_1 x20_1 (wrap64 (x19_1 + 1)) (wrap64 (x20_1 + 1))) else (object_quoted.l0 kj15 l0 a2 a3 a4 t180 t182 x17_1 x20_1 0 (wrap64 (x20_1 + 1)))) else (none)) else (none)) = some (r1, r2, r3) := by rw [if_pos rfl] at H; exact H
            clear H
            have H := H1
            clear H1
            by_cases c19 : 0 ≤ x20_1
            ·rw [if_pos c19] at H
             have c19b0 : decide (0 ≤ x20_1) = true := decide_eq_true c19
             clear c19
             by_cases c20 : x20_1 < (l0.length : Int)
             ·rw [if_pos c20] at H
              have c20b0 : decide (x20_1 < (l0.length : Int)) = true := decide_eq_true c20
              clear c20
              by_cases c21 : (rd l0 x20_1) = 92
              ·rw [if_pos c21] at H
               have c21b0 : ((rd l0 x20_1) == 92) = true := beq_iff_eq.mpr c21
               have c21b1 : ((rd l0 x20_1) != 92) = false := bne_eq_false_iff_eq.mpr c21
               clear c21
               have H' := Aside0.mk H
               clear H
               have p185 : 0 ≤ (x20_1 : Int) := of_decide_eq_true (by first | (with_reducible assumption) | assumption)
               have q185 : x20_1 < (l0.length : Int) := of_decide_eq_true (by first | (with_reducible assumption) | assumption)
               obtain ⟨ad185, e185, hx185_0⟩ := Kd.at_int HR0.out x20_1 p185 q185
               cases e185
               replace p185 := eq_true p185
               replace q185 := eq_true q185
               go_wp2
               go_roundg kj15
               case measure => have := HK1.out; have := HJ7.out; have := HJ10.out; have := HJ15.out; omega
               case rel => exact ⟨(x17_1), (x20_1), (wrap64 (x19_1 + 1)), (wrap64 (x20_1 + 1)), (by first | rfl | (simp; done) | (simp [*]; done)), (by first | rfl | (simp; done) | (simp [*]; done)), (by first | rfl | (simp; done) | (simp [*]; done)), (by first | rfl | (simp; done) | (simp [*]; done)), H', ⟨by have := HK1.out; have := HJ7.out; have := HJ10.out; have := HJ15.out; omega⟩, by repeat (first | exact Drawn0.refl _ | apply Drawn0.step)⟩
              ·rw [if_neg c21] at H
               have c21b0 : ((rd l0 x20_1) == 92) = false := beq_eq_false_iff_ne.mpr c21
               have c21b1 : ((rd l0 x20_1) != 92) = true := bne_iff_ne.mpr c21
               have H' := Aside0.mk H
               clear H
               have p185 : 0 ≤ (x20_1 : Int) := of_decide_eq_true (by first | (with_reducible assumption) | assumption)
               have q185 : x20_1 < (l0.length : Int) := of_decide_eq_true (by first | (with_reducible assumption) | assumption)
               obtain ⟨ad185, e185, hx185_0⟩ := Kd.at_int HR0.out x20_1 p185 q185
               cases e185
               replace p185 := eq_true p185
               replace q185 := eq_true q185
               go_wp2
               go_roundg kj15
               case measure => have := HK1.out; have := HJ7.out; have := HJ10.out; have := HJ15.out; omega
               case rel => exact ⟨(x17_1), (x20_1), (0), (wrap64 (x20_1 + 1)), (by first | rfl | (simp; done) | (simp [*]; done)), (by first | rfl | (simp; done) | (simp [*]; done)), (by first | rfl | (simp; done) | (simp [*]; done)), (by first | rfl | (simp; done) | (simp [*]; done)), H', ⟨by have := HK1.out; have := HJ7.out; have := HJ10.out; have := HJ15.out; omega⟩, by repeat (first | exact Drawn0.refl _ | apply Drawn0.step)⟩
             ·rw [if_neg c20] at H
              exact absurd H (by simp)
            ·rw [if_neg c19] at H
             exact absurd H (by simp)
           ·replace c18 := Bool.eq_false_iff.mpr c18
            subst c18
            have H1 : (if 0 ≤ x20_1 then (if x20_1 < (l0.length : Int) then (if (rd l0 x20_1) = 92 then (object_quoted.l0 kj15 l0 a2 a3 a4 t180 t182 x20_1 x18_1 (wrap64 (x19_1 + 1)) (wrap64 (x20_1 + 1))) else (object_quoted.l0 kj15 l0 a2 a3 a4 t180 t182 x20_1 x18_1 0 (wrap64 (x20_1 + 1)))) else (none)) else (none)) = some (r1, r2, r3) := by rw [if_neg (show ¬ (false = true) by decide)] at H; exact H
            clear H
            have H := H1
            clear H1
            by_cases c22 : 0 ≤ x20_1
            ·rw [if_pos c22] at H
             have c22b0 : decide (0 ≤ x20_1) = true := decide_eq_true c22
             clear c22
             by_cases c23 : x20_1 < (l0.length : Int)
             ·rw [if_pos c23] at H
              have c23b0 : decide (x20_1 < (l0.length : Int)) = true := decide_eq_true c23
              clear c23
              by_cases c24 : (rd l0 x20_1) = 92
              ·rw [if_pos c24] at H
               have c24b0 : ((rd l0 x20_1) == 92) = true := beq_iff_eq.mpr c24
               have c24b1 : ((rd l0 x20_1) != 92) = false := bne_eq_false_iff_eq.mpr c24
               clear c24
               have H' := Aside0.mk H
               clear H
               have p186 : 0 ≤ (x20_1 : Int) := of_decide_eq_true (by first | (with_reducible assumption) | assumption)
               have q186 : x20_1 < (l0.length : Int) := of_decide_eq_true (by first | (with_reducible assumption) | assumption)
               obtain ⟨ad186, e186, hx186_0⟩ := Kd.at_int HR0.out x20_1 p186 q186
               cases e186
               replace p186 := eq_true p186
               replace q186 := eq_true q186
               go_wp2
               go_roundg kj15
               case measure => have := HK1.out; have := HJ7.out; have := HJ10.out; have := HJ15.out; omega
               case rel => exact ⟨(x20_1), (x18_1), (wrap64 (x19_1 + 1)), (wrap64 (x20_1 + 1)), (by first | rfl | (simp; done) | (simp [*]; done)), (by first | rfl | (simp; done) | (simp [*]; done)), (by first | rfl | (simp; done) | (simp [*]; done)), (by first | rfl | (simp; done) | (simp [*]; done)), H', ⟨by have := HK1.out; have := HJ7.out; have := HJ10.out; have := HJ15.out; omega⟩, by repeat (first | exact Drawn0.refl _ | apply Drawn0.step)⟩
              ·rw [if_neg c24] at H
               have c24b0 : ((rd l0 x20_1) == 92) = false := beq_eq_false_iff_ne.mpr c24
               have c24b1 : ((rd l0 x20_1) != 92) = true := bne_iff_ne.mpr c24
               have H' := Aside0.mk H
               clear H
               have p186 : 0 ≤ (x20_1 : Int) := of_decide_eq_true (by first | (with_reducible assumption) | assumption)
               have q186 : x20_1 < (l0.length : Int) := of_decide_eq_true (by first | (with_reducible assumption) | assumption)
               obtain ⟨ad186, e186, hx186_0⟩ := Kd.at_int HR0.out x20_1 p186 q186
               cases e186
               replace p186 := eq_true p186
               replace q186 := eq_true q186
               go_wp2
               go_roundg kj15
               case measure => have := HK1.out; have := HJ7.out; have := HJ10.out; have := HJ15.out; omega
               case rel => exact ⟨(x20_1), (x18_1), (0), (wrap64 (x20_1 + 1)), (by first | rfl | (simp; done) | (simp [*]; done)), (by first | rfl | (simp; done) | (simp [*]; done)), (by first | rfl | (simp; done) | (simp [*]; done)), (by first | rfl | (simp; done) | (simp [*]; done)), H', ⟨by have := HK1.out; have := HJ7.out; have := HJ10.out; have := HJ15.out; omega⟩, by repeat (first | exact Drawn0.refl _ | apply Drawn0.step)⟩
             ·rw [if_neg c23] at H
              exact absurd H (by simp)
            ·rw [if_neg c22] at H
             exact absurd H (by simp)
        ·replace c15 := Bool.eq_false_iff.mpr c15
         subst c15
         have H1 : (if 0 ≤ x20_1 then (if x20_1 < (l0.length : Int) then (if (rd l0 x20_1) = 92 then (object_quoted.l0 kj10 l0 a2 a3 a4 t180 t182 x17_1 x18_1 (wrap64 (x19_1 + 1)) (wrap64 (x20_1 + 1))) else (object_quoted.l0 kj10 l0 a2 a3 a4 t180 t182 x17_1 x18_1 0 (wrap64 (x20_1 + 1)))) else (none)) else (none)) = some (r1, r2, r3) := by rw [if_neg (show ¬ (false = true) by decide)] at H; exact H
         clear H
         have H := H1
         clear H1
         by_cases c25 : 0 ≤ x20_1
         ·rw [if_pos c25] at H
          have c25b0 : decide (0 ≤ x20_1) = true := decide_eq_true c25
          clear c25
          by_cases c26 : x20_1 < (l0.length : Int)
          ·rw [if_pos c26] at H
           have c26b0 : decide (x20_1 < (l0.length : Int)) = true := decide_eq_true c26
           clear c26
           by_cases c27 : (rd l0 x20_1) = 92
           ·rw [if_pos c27] at H
            have c27b0 : ((rd l0 x20_1) == 92) = true := beq_iff_eq.mpr c27
            have c27b1 : ((rd l0 x20_1) != 92) = false := bne_eq_false_iff_eq.mpr c27
            clear c27
            have H' := Aside0.mk H
            clear H
            have p187 : 0 ≤ (x20_1 : Int) := of_decide_eq_true (by first | (with_reducible assumption) | assumption)
            have q187 : x20_1 < (l0.length : Int) := of_decide_eq_true (by first | (with_reducible assumption) | assumption)
            obtain ⟨ad187, e187, hx187_0⟩ := Kd.at_int HR0.out x20_1 p187 q187
            cases e187
            replace p187 := eq_true p187
            replace q187 := eq_true q187
            go_wp2
            go_roundg kj10
            case measure => have := HK1.out; have := HJ7.out; have := HJ10.out; omega
            case rel => exact ⟨(x17_1), (x18_1), (wrap64 (x19_1 + 1)), (wrap64 (x20_1 + 1)), (by first | rfl | (simp; done) | (simp [*]; done)), (by first | rfl | (simp; done) | (simp [*]; done)), (by first | rfl | (simp; done) | (simp [*]; done)), (by first | rfl | (simp; done) | (simp [*]; done)), H', ⟨by have := HK1.out; have := HJ7.out; have := HJ10.out; omega⟩, by repeat (first | exact Drawn0.refl _ | apply Drawn0.step)⟩
           ·rw [if_neg c27] at H
            have c27b0 : ((rd l0 x20_1) == 92) = false := beq_eq_false_iff_ne.mpr c27
            have c27b1 : ((rd l0 x20_1) != 92) = true := bne_iff_ne.mpr c27
            have H' := Aside0.mk H
            clear H
            have p187 : 0 ≤ (x20_1 : Int) := of_decide_eq_true (by first | (with_reducible assumption) | assumption)
            have q187 : x20_1 < (l0.length : Int) := of_decide_eq_true (by first | (with_reducible assumption) | assumption)
            obtain ⟨ad187, e187, hx187_0⟩ := Kd.at_int HR0.out x20_1 p187 q187
            cases e187
            replace p187 := eq_true p187
            replace q187 := eq_true q187
            go_wp2
            go_roundg kj10
            case measure => have := HK1.out; have := HJ7.out; have := HJ10.out; omega
            case rel => exact ⟨(x17_1), (x18_1), (0), (wrap64 (x20_1 + 1)), (by first | rfl | (simp; done) | (simp [*]; done)), (by first | rfl | (simp; done) | (simp [*]; done)), (by first | rfl | (simp; done) | (simp [*]; done)), (by first | rfl | (simp; done) | (simp [*]; done)), H', ⟨by have := HK1.out; have := HJ7.out; have := HJ10.out; omega⟩, by repeat (first | exact Drawn0.refl _ | apply Drawn0.step)⟩
          ·rw [if_neg c26] at H
           exact absurd H (by simp)
         ·rw [if_neg c25] at H
          exact absurd H (by simp)
     ·replace c10 := Bool.eq_false_iff.mpr c10
      subst c10
      have H1 : (if x17_1 < 0 then (object_quoted.j4 kj7 l0 a4 t180 t182 x17_1 x18_1 true) else (if x18_1 < x17_1 then (object_quoted.j4 kj7 l0 a4 t180 t182 x17_1 x18_1 true) else (object_quoted.j4 kj7 l0 a4 t180 t182 x17_1 x18_1 (decide (x18_1 < a2))))) = some (r1, r2, r3) := by rw [if_neg (show ¬ (false = true) by decide)] at H; exact H
      clear H
      have H := H1
      clear H1
      have HC28 := Aside0.mk H
      clear H
      go_upto_region 14 with (fail)
      go_cut [84] (fun v84 wc => ∃ (kq : Nat) (x84_27 : Bool), v84 = .bool x84_27 ∧ Aside0 (object_quoted.j4 kq l0 a4 t180 t182 x17_1 x18_1 x84_27 = some (r1, r2, r3)) ∧ Aside0 (kq ≤ kj7) ∧ Drawn0 w wc)
      case first =>
       have H := HC28.out
       clear HC28
       by_cases c29 : x17_1 < 0
       ·rw [if_pos c29] at H
        have c29b0 : decide (x17_1 < 0) = true := decide_eq_true c29
        clear c29
        (first | rw [c29b0] | (simp only [i64_w, i32_w]; rw [c29b0]) | skip)
        have H' := Aside0.mk H
        clear H
        go_wp2
        go_meet
        case rel => exact ⟨_, (true), (by first | rfl | (simp; done) | (simp [*]; done)), H', ⟨by have := HK1.out; have := HJ7.out; first | omega | exact Nat.le_refl _⟩, by repeat (first | exact Drawn0.refl _ | apply Drawn0.step)⟩
       ·rw [if_neg c29] at H
        have c29b0 : decide (x17_1 < 0) = false := decide_eq_false c29
        clear c29
        (first | rw [c29b0] | (simp only [i64_w, i32_w]; rw [c29b0]) | skip)
        by_cases c30 : x18_1 < x17_1
        ·rw [if_pos c30] at H
         have c30b0 : decide (x18_1 < x17_1) = true := decide_eq_true c30
         clear c30
         have H' := Aside0.mk H
         clear H
         go_wp2
         go_meet
         case rel => exact ⟨_, (true), (by first | rfl | (simp; done) | (simp [*]; done)), H', ⟨by have := HK1.out; have := HJ7.out; first | omega | exact Nat.le_refl _⟩, by repeat (first | exact Drawn0.refl _ | apply Drawn0.step)⟩
        ·rw [if_neg c30] at H
         have c30b0 : decide (x18_1 < x17_1) = false := decide_eq_false c30
         clear c30
         have H' := Aside0.mk H
         clear H
         go_wp2
         go_meet
         case rel => exact ⟨_, (decide (x18_1 < a2)), (by first | rfl | (simp; done) | (simp [*]; done)), H', ⟨by have := HK1.out; have := HJ7.out; first | omega | exact Nat.le_refl _⟩, by repeat (first | exact Drawn0.refl _ | apply Drawn0.step)⟩
      case rest =>
       clear HC28
       try clear c1
       try clear p1
       try clear q1
       try clear hx1
       try clear c2
       try clear p2
       try clear c3
       try clear c4
       try clear p6
       try clear c7
       try clear c9
       try clear c9b0
       try clear c10
       try clear c12
       try clear c12b0
       try clear c13
       try clear c13b0
       try clear c14
       try clear c14b0
       try clear c14b1
       try clear c15
       try clear c17
       try clear c17b0
       try clear c18
       try clear p18
       try clear q18
       try clear hx18
       try clear c19
       try clear c19b0
       try clear c20
       try clear c20b0
       try clear c21
       try clear c21b0
       try clear c21b1
       try clear c22
       try clear c22b0
       try clear c23
       try clear c23b0
       try clear c24
       try clear c24b0
       try clear c24b1
       try clear c25
       try clear c25b0
       try clear c26
       try clear c26b0
       try clear c27
       try clear c27b0
       try clear c27b1
       try clear c29
       try clear c29b0
       try clear c30
       try clear c30b0
       try clear hx184_0
       try clear hx185_0
       try clear hx186_0
       try clear hx187_0
       try clear p1
       try clear p184
       try clear p185
       try clear p186
       try clear p187
       try clear p2
       try clear q1
       try clear q184
       try clear q185
       try clear q186
       try clear q187
       obtain ⟨kq, x84_27, rfl, HA, HJ27, ⟨mc27, rfl⟩⟩ := hcut
       cases kq with
       | zero => exact absurd HA.out (by simp [object_quoted.j4])
       | succ kj27 =>
        have H := HA.out
        clear HA
        simp only [object_quoted.j4] at H
        by_cases c31 : x84_27 = true
        ·subst c31
         have H1 : (some (0, 0, false)) = some (r1, r2, r3) := by rw [if_pos rfl] at H; exact H
         clear H
         have H := H1
         clear H1
         simp only [Option.some.injEq, Prod.mk.injEq] at H
         obtain ⟨rfl, rfl, rfl⟩ := H
         go_wp2
         go_ret3
         exact ⟨by first | rfl | (simp; done) | (simp [*]; done), by repeat (first | exact Drawn0.refl _ | apply Drawn0.step)⟩
        ·replace c31 := Bool.eq_false_iff.mpr c31
         subst c31
         have H1 : (if a4 = true then (object_quoted.l1 kj27 l0 t180 t182 x18_1 x17_1 (wrap64 (x18_1 + 1))) else (some (wrap64 (x17_1 + 1), x18_1, true))) = some (r1, r2, r3) := by rw [if_neg (show ¬ (false = true) by decide)] at H; exact H
         clear H
         have H := H1
         clear H1
         by_cases c32 : a4 = true
         ·subst c32
          have H1 : (object_quoted.l1 kj27 l0 t180 t182 x18_1 x17_1 (wrap64 (x18_1 + 1))) = some (r1, r2, r3) := by rw [if_pos rfl] at H; exact H
          clear H
          have H := H1
          clear H1
          have HC33 := Aside0.mk H
          clear H
          go_upto_block 2 with (fail)
          go_cut [22] (fun v22 wc => ∃ (kq : Nat) (x22_32 : Int), v22 = .int .i64 x22_32 ∧ Aside0 (object_quoted.j6 kq l0 t180 x18_1 x17_1 x22_32 = some (r1, r2, r3)) ∧ Aside0 (kq ≤ kj27) ∧ Drawn0 w wc)
          case first =>
           have H := HC33.out
           clear HC33
           have H' := Aside0.mk H
           clear H
           go_wp2
           go_loopg [22] kj27 (fun kq v22 w' => ∃ (x22_4 : Int), v22 = .int .i64 x22_4 ∧ Aside0 (object_quoted.l1 kq l0 t180 t182 x18_1 x17_1 x22_4 = some (r1, r2, r3)) ∧ Aside0 (kq ≤ kj27) ∧ Drawn0 w w')
           case atStart => exact ⟨(wrap64 (x18_1 + 1)), (by first | rfl | (simp; done) | (simp [*]; done)), H', ⟨Nat.le_refl _⟩, by repeat (first | exact Drawn0.refl _ | apply Drawn0.step)⟩
           case round =>
            clear H'
            try clear c1
            try clear p1
            try clear q1
            try clear hx1
            try clear c2
            try clear p2
            try clear c3
            try clear c4
            try clear p6
            try clear c7
            try clear c9
            try clear c9b0
            try clear c10
            try clear c12
            try clear c12b0
            try clear c13
            try clear c13b0
            try clear c14
            try clear c14b0
            try clear c14b1
            try clear c15
            try clear c17
            try clear c17b0
            try clear c18
            try clear p18
            try clear q18
            try clear hx18
            try clear c19
            try clear c19b0
            try clear c20
            try clear c20b0
            try clear c21
            try clear c21b0
            try clear c21b1
            try clear c22
            try clear c22b0
            try clear c23
            try clear c23b0
            try clear c24
            try clear c24b0
            try clear c24b1
            try clear c25
            try clear c25b0
            try clear c26
            try clear c26b0
            try clear c27
            try clear c27b0
            try clear c27b1
            try clear c29
            try clear c29b0
            try clear c30
            try clear c30b0
            try clear c31
            try clear c32
            try clear hx184_0
            try clear hx185_0
            try clear hx186_0
            try clear hx187_0
            try clear p1
            try clear p18
            try clear p184
            try clear p185
            try clear p186
            try clear p187
            try clear p2
            try clear p6
            try clear q1
            try clear q18
            try clear q184
            try clear q185
            try clear q186
            try clear q187
            obtain ⟨x22_4, rfl, HA, HK4, ⟨m4, rfl⟩⟩ := hrel
            cases gk with
            | zero => exact absurd HA.out (by simp [object_quoted.l1])
            | succ k4 =>
             have H := HA.out
             clear HA
             simp only [object_quoted.l1] at H
             by_cases c34 : x22_4 < t182
             ·rw [if_pos c34] at H
              have c34b0 : decide (x22_4 < t182) = true := decide_eq_true c34
              clear c34
              (first | rw [c34b0] | (simp only [i64_w, i32_w]; rw [c34b0]) | skip)
              by_cases c35 : 0 ≤ x22_4
              ·rw [if_pos c35] at H
               have c35b0 : decide (0 ≤ x22_4) = true := decide_eq_true c35
               clear c35
               by_cases c36 : x22_4 < (l0.length : Int)
               ·rw [if_pos c36] at H
                have c36b0 : decide (x22_4 < (l0.length : Int)) = true := decide_eq_true c36
                clear c36
                replace H := Option.bind_eq_some_iff.mp H
                obtain ⟨t189, A370, H⟩ := H
                replace H : (if t189 = 0 then (object_quoted.l1 k4 l0 t180 t182 x18_1 x17_1 (wrap64 (x22_4 + 1))) else (object_quoted.j6 k4 l0 t180 x18_1 x17_1 x22_4)) = some (r1, r2, r3) := H
                have A37 := Aside0.mk A370
                clear A370
                by_cases c38 : t189 = 0
                ·rw [if_pos c38] at H
                 have c38b0 : (t189 == 0) = true := beq_iff_eq.mpr c38
                 have c38b1 : (t189 != 0) = false := bne_eq_false_iff_eq.mpr c38
                 clear c38
                 have H' := Aside0.mk H
                 clear H
                 have p188 : 0 ≤ (x22_4 : Int) := of_decide_eq_true (by first | (with_reducible assumption) | assumption)
                 have q188 : x22_4 < (l0.length : Int) := of_decide_eq_true (by first | (with_reducible assumption) | assumption)
                 obtain ⟨ad188, e188, hx188_0⟩ := Kd.at_int HR0.out x22_4 p188 q188
                 cases e188
                 replace p188 := eq_true p188
                 replace q188 := eq_true q188
                 go_wp2_with (first | (go_at_call 15; (with_reducible refine (class_Of.calls k4 (rd l0 x22_4) false t189 _ A37.out).mono ?_); rintro e w' ⟨rfl, ⟨nd, rfl⟩⟩))
                 go_roundg k4
                 case measure => have := HK1.out; have := HJ7.out; have := HJ27.out; have := HK4.out; omega
                 case rel => exact ⟨(wrap64 (x22_4 + 1)), (by first | rfl | (simp; done) | (simp [*]; done)), H', ⟨by have := HK1.out; have := HJ7.out; have := HJ27.out; have := HK4.out; omega⟩, by repeat (first | exact Drawn0.refl _ | apply Drawn0.step)⟩
                ·rw [if_neg c38] at H
                 have c38b0 : (t189 == 0) = false := beq_eq_false_iff_ne.mpr c38
                 have c38b1 : (t189 != 0) = true := bne_iff_ne.mpr c38
                 have H' := Aside0.mk H
                 clear H
                 have p188 : 0 ≤ (x22_4 : Int) := of_decide_eq_true (by first | (with_reducible assumption) | assumption)
                 have q188 : x22_4 < (l0.length : Int) := of_decide_eq_true (by first | (with_reducible assumption) | assumption)
                 obtain ⟨ad188, e188, hx188_0⟩ := Kd.at_int HR0.out x22_4 p188 q188
                 cases e188
                 replace p188 := eq_true p188
                 replace q188 := eq_true q188
                 go_wp2_with (first | (go_at_call 15; (with_reducible refine (class_Of.calls k4 (rd l0 x22_4) false t189 _ A37.out).mono ?_); rintro e w' ⟨rfl, ⟨nd, rfl⟩⟩))
                 go_meet
                 case rel => exact ⟨_, (x22_4), (by first | rfl | (simp; done) | (simp [*]; done)), H', ⟨by have := HK1.out; have := HJ7.out; have := HJ27.out; have := HK4.out; first | omega | exact Nat.le_refl _⟩, by repeat (first | exact Drawn0.refl _ | apply Drawn0.step)⟩
               ·rw [if_neg c36] at H
                exact absurd H (by simp)
              ·rw [if_neg c35] at H
               exact absurd H (by simp)
             ·rw [if_neg c34] at H
              have c34b0 : decide (x22_4 < t182) = false := decide_eq_false c34
              clear c34
              (first | rw [c34b0] | (simp only [i64_w, i32_w]; rw [c34b0]) | skip)
              have H' := Aside0.mk H
              clear H
              go_wp2
              go_meet
              case rel => exact ⟨_, (x22_4), (by first | rfl | (simp; done) | (simp [*]; done)), H', ⟨by have := HK1.out; have := HJ7.out; have := HJ27.out; have := HK4.out; first | omega | exact Nat.le_refl _⟩, by repeat (first | exact Drawn0.refl _ | apply Drawn0.step)⟩
          case rest =>
           clear HC33
           try clear c1
           try clear p1
           try clear q1
           try clear hx1
           try clear c2
           try clear p2
           try clear c3
           try clear c4
           try clear p6
           try clear c7
           try clear c9
           try clear c9b0
           try clear c10
           try clear c12
           try clear c12b0
           try clear c13
           try clear c13b0
           try clear c14
           try clear c14b0
           try clear c14b1
           try clear c15
           try clear c17
           try clear c17b0
           try clear c18
           try clear p18
           try clear q18
           try clear hx18
           try clear c19
           try clear c19b0
           try clear c20
           try clear c20b0
           try clear c21
           try clear c21b0
           try clear c21b1
           try clear c22
           try clear c22b0
           try clear c23
           try clear c23b0
           try clear c24
           try clear c24b0
           try clear c24b1
           try clear c25
           try clear c25b0
           try clear c26
           try clear c26b0
           try clear c27
           try clear c27b0
           try clear c27b1
           try clear c29
           try clear c29b0
           try clear c30
           try clear c30b0
           try clear c31
           try clear c32
           try clear c34
           try clear c34b0
           try clear c35
           try clear c35b0
           try clear c36
           try clear c36b0
           try clear c38
           try clear c38b0
           try clear c38b1
           try clear hx184_0
           try clear hx185_0
           try clear hx186_0
           try clear hx187_0
           try clear hx188_0
           try clear p1
           try clear p18
           try clear p184
           try clear p185
           try clear p186
           try clear p187
           try clear p188
           try clear p2
           try clear p6
           try clear q1
           try clear q18
           try clear q184
           try clear q185
           try clear q186
           try clear q187
           try clear q188
           obtain ⟨kq, x22_32, rfl, HA, HJ32, ⟨mc32, rfl⟩⟩ := hcut
           cases kq with
           | zero => exact absurd HA.out (by simp [object_quoted.j6])
           | succ kj32 =>
            have H := HA.out
            clear HA
            simp only [object_quoted.j6] at H
            by_cases c39 : x22_32 = (wrap64 (x18_1 + 1))
            ·rw [if_pos c39] at H
             have c39b0 : (x22_32 == (wrap64 (x18_1 + 1))) = true := beq_iff_eq.mpr c39
             have c39b1 : (x22_32 != (wrap64 (x18_1 + 1))) = false := bne_eq_false_iff_eq.mpr c39
             clear c39
             have H' := Aside0.mk H
             clear H
             go_wp2
             go_loopg [21] kj32 (fun kq v21 w' => ∃ (x21_5 : Int), v21 = .int .i64 x21_5 ∧ Aside0 (object_quoted.l2 kq l0 t180 x21_5 x22_32 = some (r1, r2, r3)) ∧ Aside0 (kq ≤ kj32) ∧ Drawn0 w w')
             case atStart => exact ⟨(x17_1), (by first | rfl | (simp; done) | (simp [*]; done)), H', ⟨Nat.le_refl _⟩, by repeat (first | exact Drawn0.refl _ | apply Drawn0.step)⟩
             case round =>
              clear H'
              try clear c1
              try clear p1
              try clear q1
              try clear hx1
              try clear c2
              try clear p2
              try clear c3
              try clear c4
              try clear p6
              try clear c7
              try clear c9
              try clear c9b0
              try clear c10
              try clear c12
              try clear c12b0
              try clear c13
              try clear c13b0
              try clear c14
              try clear c14b0
              try clear c14b1
              try clear c15
              try clear c17
              try clear c17b0
              try clear c18
              try clear p18
              try clear q18
              try clear hx18
              try clear c19
              try clear c19b0
              try clear c20
              try clear c20b0
              try clear c21
              try clear c21b0
              try clear c21b1
              try clear c22
              try clear c22b0
              try clear c23
              try clear c23b0
              try clear c24
              try clear c24b0
              try clear c24b1
              try clear c25
              try clear c25b0
              try clear c26
              try clear c26b0
              try clear c27
              try clear c27b0
              try clear c27b1
              try clear c29
              try clear c29b0
              try clear c30
              try clear c30b0
              try clear c31
              try clear c32
              try clear c34
              try clear c34b0
              try clear c35
              try clear c35b0
              try clear c36
              try clear c36b0
              try clear c38
              try clear c38b0
              try clear c38b1
              try clear c39
              try clear c39b0
              try clear c39b1
              try clear hx184_0
              try clear hx185_0
              try clear hx186_0
              try clear hx187_0
              try clear hx188_0
              try clear p1
              try clear p18
              try clear p184
              try clear p185
              try clear p186
              try clear p187
              try clear p188
              try clear p2
              try clear p6
              try clear q1
              try clear q18
              try clear q184
              try clear q185
              try clear q186
              try clear q187
              try clear q188
              obtain ⟨x21_5, rfl, HA, HK5, ⟨m5, rfl⟩⟩ := hrel
              cases gk with
              | zero => exact absurd HA.out (by simp [object_quoted.l2])
              | succ k5 =>
               have H := HA.out
               clear HA
               simp only [object_quoted.l2] at H
               by_cases c40 : x21_5 > t180
               ·rw [if_pos c40] at H
                have c40b0 : decide (t180 < x21_5) = true := decide_eq_true c40
                clear c40
                obtain ⟨ji41, hji41⟩ : ∃ j_ : Int, (wrap64 (x21_5 - 1)) = j_ := ⟨_, rfl⟩
                replace H : (if 0 ≤ (ji41) then (if (ji41) < (l0.length : Int) then ((class_Of.f k5 (rd l0 (ji41)) false).bind fun t191 => (if t191 = 0 then (object_quoted.l2 k5 l0 t180 ji41 x22_32) else (some (x21_5, x22_32, true)))) else (none)) else (none)) = some (r1, r2, r3) := by first | (rw [hji41] at H; exact H) | (simp only [hji41] at H ⊢; exact H)
                have hji41w : (IntKind.i64.wrap (x21_5 - 1)) = ji41 := (i64_w _).trans hji41
                by_cases c42 : 0 ≤ (ji41)
                ·rw [if_pos c42] at H
                 have c42b0 : decide (0 ≤ (ji41)) = true := decide_eq_true c42
                 clear c42
                 by_cases c43 : (ji41) < (l0.length : Int)
                 ·rw [if_pos c43] at H
                  have c43b0 : decide ((ji41) < (l0.length : Int)) = true := decide_eq_true c43
                  clear c43
                  replace H := Option.bind_eq_some_iff.mp H
                  obtain ⟨t191, A440, H⟩ := H
                  replace H : (if t191 = 0 then (object_quoted.l2 k5 l0 t180 ji41 x22_32) else (some (x21_5, x22_32, true))) = some (r1, r2, r3) := H
                  have A44 := Aside0.mk A440
                  clear A440
                  by_cases c45 : t191 = 0
                  ·rw [if_pos c45] at H
                   have c45b0 : (t191 == 0) = true := beq_iff_eq.mpr c45
                   have c45b1 : (t191 != 0) = false := bne_eq_false_iff_eq.mpr c45
                   clear c45
                   have H' := Aside0.mk H
                   clear H
                   have p190 : 0 ≤ ((ji41) : Int) := of_decide_eq_true (by first | (with_reducible assumption) | assumption)
                   have q190 : (ji41) < (l0.length : Int) := of_decide_eq_true (by first | (with_reducible assumption) | assumption)
                   obtain ⟨ad190, e190, hx190_0⟩ := Kd.at_int HR0.out (ji41) p190 q190
                   cases e190
                   replace p190 := eq_true p190
                   replace q190 := eq_true q190
                   go_wp2_with (first | (go_at_call 15; (with_reducible refine (class_Of.calls k5 (rd l0 (ji41)) false t191 _ A44.out).mono ?_); rintro e w' ⟨rfl, ⟨nd, rfl⟩⟩))
                   go_roundg k5
                   case measure => have := HK1.out; have := HJ7.out; have := HJ27.out; have := HJ32.out; have := HK5.out; omega
                   case rel => exact ⟨(ji41), (by first | rfl | (simp; done) | (simp only [← hji41] <;> (first | rfl | simp)) | (simp [*]; done)), H', ⟨by have := HK1.out; have := HJ7.out; have := HJ27.out; have := HJ32.out; have := HK5.out; omega⟩, by repeat (first | exact Drawn0.refl _ | apply Drawn0.step)⟩
                  ·rw [if_neg c45] at H
                   have c45b0 : (t191 == 0) = false := beq_eq_false_iff_ne.mpr c45
                   have c45b1 : (t191 != 0) = true := bne_iff_ne.mpr c45
                   simp only [Option.some.injEq, Prod.mk.injEq] at H
                   obtain ⟨rfl, rfl, rfl⟩ := H
                   have p190 : 0 ≤ ((ji41) : Int) := of_decide_eq_true (by first | (with_reducible assumption) | assumption)
                   have q190 : (ji41) < (l0.length : Int) := of_decide_eq_true (by first | (with_reducible assumption) | assumption)
                   obtain ⟨ad190, e190, hx190_0⟩ := Kd.at_int HR0.out (ji41) p190 q190
                   cases e190
                   replace p190 := eq_true p190
                   replace q190 := eq_true q190
                   go_wp2_with (first | (go_at_call 15; (with_reducible refine (class_Of.calls k5 (rd l0 (ji41)) false t191 _ A44.out).mono ?_); rintro e w' ⟨rfl, ⟨nd, rfl⟩⟩))
                   go_ret3
                   exact ⟨by first | rfl | (simp; done) | (simp only [← hji41] <;> (first | rfl | simp)) | (simp [*]; done), by repeat (first | exact Drawn0.refl _ | apply Drawn0.step)⟩
                 ·rw [if_neg c43] at H
                  exact absurd H (by simp)
                ·rw [if_neg c42] at H
                 exact absurd H (by simp)
               ·rw [if_neg c40] at H
                have c40b0 : decide (t180 < x21_5) = false := decide_eq_false c40
                clear c40
                simp only [Option.some.injEq, Prod.mk.injEq] at H
                obtain ⟨rfl, rfl, rfl⟩ := H
                go_wp2
                go_ret3
                exact ⟨by first | rfl | (simp; done) | (simp [*]; done), by repeat (first | exact Drawn0.refl _ | apply Drawn0.step)⟩
            ·rw [if_neg c39] at H
             have c39b0 : (x22_32 == (wrap64 (x18_1 + 1))) = false := beq_eq_false_iff_ne.mpr c39
             have c39b1 : (x22_32 != (wrap64 (x18_1 + 1))) = true := bne_iff_ne.mpr c39
             simp only [Option.some.injEq, Prod.mk.injEq] at H
             obtain ⟨rfl, rfl, rfl⟩ := H
             go_wp2
             go_ret3
             exact ⟨by first | rfl | (simp; done) | (simp [*]; done), by repeat (first | exact Drawn0.refl _ | apply Drawn0.step)⟩
         ·replace c32 := Bool.eq_false_iff.mpr c32
          subst c32
          have H1 : (some (wrap64 (x17_1 + 1), x18_1, true)) = some (r1, r2, r3) := by rw [if_neg (show ¬ (false = true) by decide)] at H; exact H
          clear H
          have H := H1
          clear H1
          simp only [Option.some.injEq, Prod.mk.injEq] at H
          obtain ⟨rfl, rfl, rfl⟩ := H
          go_wp2
          go_ret3
          exact ⟨by first | rfl | (simp; done) | (simp [*]; done), by repeat (first | exact Drawn0.refl _ | apply Drawn0.step)⟩

end Go.Proofs.YtcochbkdgjgaeaaDoor.X
