/-
  Texts of one proof in one file (wip/bundle.py): X33, SayLinesNumbers, PureLinesNumbers.
  Conditions: none.
-/
import Derived.Test.YtaljihphjppjgaaDoorBNum1
import Derived.Test.YtaljihphjppjgaaDoorBNum2
import Derived.Test.YtaljihphjppjgaaDoorBNum4
import Derived.Test.YtaljihphjppjgaaDoorBNum3
section
-- Written by wip/xprint.py over the kit's print.py: the Lean function of each Go function, and the proof that the Go text comes to it.
namespace Go.Proofs.YtaljihphjppjgaaDoor.X
open Go.RowKit Go.Proofs.YtaljihphjppjgaaDoorW.PrintWords Go.Proofs.YtaljihphjppjgaaDoorW.PrintLast Go.Proofs.YtaljihphjppjgaaDoorW.PrintMore
attribute [local go_sem] max2_int min2_int max_two min_two max_three min_three max_four min_four   -- for this text's walks alone
set_option linter.unusedVariables false
set_option linter.unusedSimpArgs false

/-! ### quoinlaw05_LinesNumbers: function 6 -/
mutual
def quoinlaw05_LinesNumbers.j0 : Nat → List Int → List Int → Int → Bool → Option (Bool)
  | 0, _, _, _, _ => none
  | k + 1, x0, x1, x2, x21 => if x21 = true then (some false) else (quoinlaw05_LinesNumbers.l0 k x0 x1 x2 0)
def quoinlaw05_LinesNumbers.l0 : Nat → List Int → List Int → Int → Int → Option (Bool)
  | 0, _, _, _, _ => none
  | k + 1, x0, x1, x2, x7 => if x7 < (x1.length : Int) then (quoinlaw05_LinesNumbers.j2 k x0 x1 x2 x7 (decide (x7 < 200))) else (quoinlaw05_LinesNumbers.j2 k x0 x1 x2 x7 false)
def quoinlaw05_LinesNumbers.j2 : Nat → List Int → List Int → Int → Int → Bool → Option (Bool)
  | 0, _, _, _, _, _ => none
  | k + 1, x0, x1, x2, x7, x29 => if x29 = true then (if 0 ≤ x7 then (if x7 < (x1.length : Int) then ((lines_Start.f k x0 (rd x1 x7)).bind fun bt279 => ((quoinref05_Start.f k x0 (rd x1 x7)).bind fun bt281 => (if bt279.1 = bt281.1 then (quoinlaw05_LinesNumbers.j3 k x0 x1 x2 x7 (rd x1 x7) (bt279.2 != bt281.2)) else (quoinlaw05_LinesNumbers.j3 k x0 x1 x2 x7 (rd x1 x7) true)))) else (none)) else (none)) else (some true)
def quoinlaw05_LinesNumbers.j3 : Nat → List Int → List Int → Int → Int → Int → Bool → Option (Bool)
  | 0, _, _, _, _, _, _ => none
  | k + 1, x0, x1, x2, x7, x8, x55 => if x55 = true then (some false) else ((lines_End.f k x0 x8).bind fun bt283 => ((quoinref05_End.f k x0 x8).bind fun bt285 => (if bt283.1 = bt285.1 then (quoinlaw05_LinesNumbers.j4 k x0 x1 x2 x7 x8 (bt283.2 != bt285.2)) else (quoinlaw05_LinesNumbers.j4 k x0 x1 x2 x7 x8 true))))
def quoinlaw05_LinesNumbers.j4 : Nat → List Int → List Int → Int → Int → Int → Bool → Option (Bool)
  | 0, _, _, _, _, _, _ => none
  | k + 1, x0, x1, x2, x7, x8, x75 => if x75 = true then (some false) else ((lines_Of.f x0 x8).bind fun bt287 => ((quoinref05_Of.f k x0 x8).bind fun bt289 => (if bt287.1 = bt289.1 then (quoinlaw05_LinesNumbers.j5 k x0 x1 x2 x7 x8 (bt287.2 != bt289.2)) else (quoinlaw05_LinesNumbers.j5 k x0 x1 x2 x7 x8 true))))
def quoinlaw05_LinesNumbers.j5 : Nat → List Int → List Int → Int → Int → Int → Bool → Option (Bool)
  | 0, _, _, _, _, _, _ => none
  | k + 1, x0, x1, x2, x7, x8, x95 => if x95 = true then (some false) else ((lines_Column.f k x0 x8).bind fun bt291 => ((quoinref05_Column.f k x0 x8).bind fun bt293 => (if bt291.1 = bt293.1 then (quoinlaw05_LinesNumbers.j6 k x0 x1 x2 x7 x8 (bt291.2 != bt293.2)) else (quoinlaw05_LinesNumbers.j6 k x0 x1 x2 x7 x8 true))))
def quoinlaw05_LinesNumbers.j6 : Nat → List Int → List Int → Int → Int → Int → Bool → Option (Bool)
  | 0, _, _, _, _, _, _ => none
  | k + 1, x0, x1, x2, x7, x8, x115 => if x115 = true then (some false) else ((lines_First.f k x0 x8).bind fun bt295 => ((quoinref05_First.f k x0 x8).bind fun bt297 => (if bt295.1 = bt297.1 then (quoinlaw05_LinesNumbers.j7 k x0 x1 x2 x7 x8 (bt295.2 != bt297.2)) else (quoinlaw05_LinesNumbers.j7 k x0 x1 x2 x7 x8 true))))
def quoinlaw05_LinesNumbers.j7 : Nat → List Int → List Int → Int → Int → Int → Bool → Option (Bool)
  | 0, _, _, _, _, _, _ => none
  | k + 1, x0, x1, x2, x7, x8, x135 => if x135 = true then (some false) else ((lines_At.f k x0 x8 x2).bind fun bt299 => ((quoinref05_At.f k x0 x8 x2).bind fun bt301 => (if bt299.1 = bt301.1 then (if bt299.2 = bt301.2 then ((lines_Rest.f k x0 x8).bind fun t303 => ((quoinref05_Rest.f k x0 x8).bind fun t304 => (if t303 = t304 then (quoinlaw05_LinesNumbers.l0 k x0 x1 x2 (wrap64 (x7 + 1))) else (some false)))) else (some false)) else (some false))))
end
def quoinlaw05_LinesNumbers.f (k : Nat) (l0 : List Int) (l1 : List Int) (a2 : Int) : Option (Bool) := (quoinlaw05_alive.f k).bind fun t275 => (if t275 = true then ((lines_Count.f l0).bind fun t276 => ((quoinref05_Count.f k l0).bind fun t277 => (quoinlaw05_LinesNumbers.j0 k l0 l1 a2 (t276 != t277)))) else (quoinlaw05_LinesNumbers.j0 k l0 l1 a2 true))
theorem quoinlaw05_LinesNumbers.mono_l : ∀ k, (∀ y0 y1 y2 y3, LeO (quoinlaw05_LinesNumbers.j0 k y0 y1 y2 y3) (quoinlaw05_LinesNumbers.j0 (k + 1) y0 y1 y2 y3)) ∧ (∀ y0 y1 y2 y3, LeO (quoinlaw05_LinesNumbers.l0 k y0 y1 y2 y3) (quoinlaw05_LinesNumbers.l0 (k + 1) y0 y1 y2 y3)) ∧ (∀ y0 y1 y2 y3 y4, LeO (quoinlaw05_LinesNumbers.j2 k y0 y1 y2 y3 y4) (quoinlaw05_LinesNumbers.j2 (k + 1) y0 y1 y2 y3 y4)) ∧ (∀ y0 y1 y2 y3 y4 y5, LeO (quoinlaw05_LinesNumbers.j3 k y0 y1 y2 y3 y4 y5) (quoinlaw05_LinesNumbers.j3 (k + 1) y0 y1 y2 y3 y4 y5)) ∧ (∀ y0 y1 y2 y3 y4 y5, LeO (quoinlaw05_LinesNumbers.j4 k y0 y1 y2 y3 y4 y5) (quoinlaw05_LinesNumbers.j4 (k + 1) y0 y1 y2 y3 y4 y5)) ∧ (∀ y0 y1 y2 y3 y4 y5, LeO (quoinlaw05_LinesNumbers.j5 k y0 y1 y2 y3 y4 y5) (quoinlaw05_LinesNumbers.j5 (k + 1) y0 y1 y2 y3 y4 y5)) ∧ (∀ y0 y1 y2 y3 y4 y5, LeO (quoinlaw05_LinesNumbers.j6 k y0 y1 y2 y3 y4 y5) (quoinlaw05_LinesNumbers.j6 (k + 1) y0 y1 y2 y3 y4 y5)) ∧ (∀ y0 y1 y2 y3 y4 y5, LeO (quoinlaw05_LinesNumbers.j7 k y0 y1 y2 y3 y4 y5) (quoinlaw05_LinesNumbers.j7 (k + 1) y0 y1 y2 y3 y4 y5))
  | 0 => ⟨fun _ _ _ _ r h => by simp [quoinlaw05_LinesNumbers.j0] at h, fun _ _ _ _ r h => by simp [quoinlaw05_LinesNumbers.l0] at h, fun _ _ _ _ _ r h => by simp [quoinlaw05_LinesNumbers.j2] at h, fun _ _ _ _ _ _ r h => by simp [quoinlaw05_LinesNumbers.j3] at h, fun _ _ _ _ _ _ r h => by simp [quoinlaw05_LinesNumbers.j4] at h, fun _ _ _ _ _ _ r h => by simp [quoinlaw05_LinesNumbers.j5] at h, fun _ _ _ _ _ _ r h => by simp [quoinlaw05_LinesNumbers.j6] at h, fun _ _ _ _ _ _ r h => by simp [quoinlaw05_LinesNumbers.j7] at h⟩
  | k + 1 => by
    obtain ⟨ih0, ih1, ih2, ih3, ih4, ih5, ih6, ih7⟩ := quoinlaw05_LinesNumbers.mono_l k
    refine ⟨?_, ?_, ?_, ?_, ?_, ?_, ?_, ?_⟩
    · intro y0 y1 y2 y3
      unfold quoinlaw05_LinesNumbers.j0
      repeat' first
      | (with_reducible exact ih0 _ _ _ _)
      | (with_reducible exact ih1 _ _ _ _)
      | (with_reducible exact ih2 _ _ _ _ _)
      | (with_reducible exact ih3 _ _ _ _ _ _)
      | (with_reducible exact ih4 _ _ _ _ _ _)
      | (with_reducible exact ih5 _ _ _ _ _ _)
      | (with_reducible exact ih6 _ _ _ _ _ _)
      | (with_reducible exact ih7 _ _ _ _ _ _)
      | (with_reducible exact lines_At.mono _ _ _ _)
      | (with_reducible exact lines_Column.mono _ _ _)
      | (with_reducible exact lines_End.mono _ _ _)
      | (with_reducible exact lines_First.mono _ _ _)
      | (with_reducible exact lines_Rest.mono _ _ _)
      | (with_reducible exact lines_Start.mono _ _ _)
      | (with_reducible exact quoinlaw05_alive.mono _)
      | (with_reducible exact quoinref05_At.mono _ _ _ _)
      | (with_reducible exact quoinref05_Column.mono _ _ _)
      | (with_reducible exact quoinref05_Count.mono _ _)
      | (with_reducible exact quoinref05_End.mono _ _ _)
      | (with_reducible exact quoinref05_First.mono _ _ _)
      | (with_reducible exact quoinref05_Of.mono _ _ _)
      | (with_reducible exact quoinref05_Rest.mono _ _ _)
      | (with_reducible exact quoinref05_Start.mono _ _ _)
      | (with_reducible exact LeO.refl _)
      | (with_reducible exact LeO.none _)
      | (with_reducible refine LeO.ite ?_ ?_)
      | (with_reducible refine LeO.bind ?_ (fun _ => ?_))
      | exact ih0 _ _ _ _
      | exact ih1 _ _ _ _
      | exact ih2 _ _ _ _ _
      | exact ih3 _ _ _ _ _ _
      | exact ih4 _ _ _ _ _ _
      | exact ih5 _ _ _ _ _ _
      | exact ih6 _ _ _ _ _ _
      | exact ih7 _ _ _ _ _ _
      | exact lines_At.mono _ _ _ _
      | exact lines_Column.mono _ _ _
      | exact lines_End.mono _ _ _
      | exact lines_First.mono _ _ _
      | exact lines_Rest.mono _ _ _
      | exact lines_Start.mono _ _ _
      | exact quoinlaw05_alive.mono _
      | exact quoinref05_At.mono _ _ _ _
      | exact quoinref05_Column.mono _ _ _
      | exact quoinref05_Count.mono _ _
      | exact quoinref05_End.mono _ _ _
      | exact quoinref05_First.mono _ _ _
      | exact quoinref05_Of.mono _ _ _
      | exact quoinref05_Rest.mono _ _ _
      | exact quoinref05_Start.mono _ _ _
      | exact LeO.none _
      | refine LeO.ite ?_ ?_
      | refine LeO.bind ?_ (fun _ => ?_)
    · intro y0 y1 y2 y3
      unfold quoinlaw05_LinesNumbers.l0
      repeat' first
      | (with_reducible exact ih0 _ _ _ _)
      | (with_reducible exact ih1 _ _ _ _)
      | (with_reducible exact ih2 _ _ _ _ _)
      | (with_reducible exact ih3 _ _ _ _ _ _)
      | (with_reducible exact ih4 _ _ _ _ _ _)
      | (with_reducible exact ih5 _ _ _ _ _ _)
      | (with_reducible exact ih6 _ _ _ _ _ _)
      | (with_reducible exact ih7 _ _ _ _ _ _)
      | (with_reducible exact lines_At.mono _ _ _ _)
      | (with_reducible exact lines_Column.mono _ _ _)
      | (with_reducible exact lines_End.mono _ _ _)
      | (with_reducible exact lines_First.mono _ _ _)
      | (with_reducible exact lines_Rest.mono _ _ _)
      | (with_reducible exact lines_Start.mono _ _ _)
      | (with_reducible exact quoinlaw05_alive.mono _)
      | (with_reducible exact quoinref05_At.mono _ _ _ _)
      | (with_reducible exact quoinref05_Column.mono _ _ _)
      | (with_reducible exact quoinref05_Count.mono _ _)
      | (with_reducible exact quoinref05_End.mono _ _ _)
      | (with_reducible exact quoinref05_First.mono _ _ _)
      | (with_reducible exact quoinref05_Of.mono _ _ _)
      | (with_reducible exact quoinref05_Rest.mono _ _ _)
      | (with_reducible exact quoinref05_Start.mono _ _ _)
      | (with_reducible exact LeO.refl _)
      | (with_reducible exact LeO.none _)
      | (with_reducible refine LeO.ite ?_ ?_)
      | (with_reducible refine LeO.bind ?_ (fun _ => ?_))
      | exact ih0 _ _ _ _
      | exact ih1 _ _ _ _
      | exact ih2 _ _ _ _ _
      | exact ih3 _ _ _ _ _ _
      | exact ih4 _ _ _ _ _ _
      | exact ih5 _ _ _ _ _ _
      | exact ih6 _ _ _ _ _ _
      | exact ih7 _ _ _ _ _ _
      | exact lines_At.mono _ _ _ _
      | exact lines_Column.mono _ _ _
      | exact lines_End.mono _ _ _
      | exact lines_First.mono _ _ _
      | exact lines_Rest.mono _ _ _
      | exact lines_Start.mono _ _ _
      | exact quoinlaw05_alive.mono _
      | exact quoinref05_At.mono _ _ _ _
      | exact quoinref05_Column.mono _ _ _
      | exact quoinref05_Count.mono _ _
      | exact quoinref05_End.mono _ _ _
      | exact quoinref05_First.mono _ _ _
      | exact quoinref05_Of.mono _ _ _
      | exact quoinref05_Rest.mono _ _ _
      | exact quoinref05_Start.mono _ _ _
      | exact LeO.none _
      | refine LeO.ite ?_ ?_
      | refine LeO.bind ?_ (fun _ => ?_)
    · intro y0 y1 y2 y3 y4
      unfold quoinlaw05_LinesNumbers.j2
      repeat' first
      | (with_reducible exact ih0 _ _ _ _)
      | (with_reducible exact ih1 _ _ _ _)
      | (with_reducible exact ih2 _ _ _ _ _)
      | (with_reducible exact ih3 _ _ _ _ _ _)
      | (with_reducible exact ih4 _ _ _ _ _ _)
      | (with_reducible exact ih5 _ _ _ _ _ _)
      | (with_reducible exact ih6 _ _ _ _ _ _)
      | (with_reducible exact ih7 _ _ _ _ _ _)
      | (with_reducible exact lines_At.mono _ _ _ _)
      | (with_reducible exact lines_Column.mono _ _ _)
      | (with_reducible exact lines_End.mono _ _ _)
      | (with_reducible exact lines_First.mono _ _ _)
      | (with_reducible exact lines_Rest.mono _ _ _)
      | (with_reducible exact lines_Start.mono _ _ _)
      | (with_reducible exact quoinlaw05_alive.mono _)
      | (with_reducible exact quoinref05_At.mono _ _ _ _)
      | (with_reducible exact quoinref05_Column.mono _ _ _)
      | (with_reducible exact quoinref05_Count.mono _ _)
      | (with_reducible exact quoinref05_End.mono _ _ _)
      | (with_reducible exact quoinref05_First.mono _ _ _)
      | (with_reducible exact quoinref05_Of.mono _ _ _)
      | (with_reducible exact quoinref05_Rest.mono _ _ _)
      | (with_reducible exact quoinref05_Start.mono _ _ _)
      | (with_reducible exact LeO.refl _)
      | (with_reducible exact LeO.none _)
      | (with_reducible refine LeO.ite ?_ ?_)
      | (with_reducible refine LeO.bind ?_ (fun _ => ?_))
      | exact ih0 _ _ _ _
      | exact ih1 _ _ _ _
      | exact ih2 _ _ _ _ _
      | exact ih3 _ _ _ _ _ _
      | exact ih4 _ _ _ _ _ _
      | exact ih5 _ _ _ _ _ _
      | exact ih6 _ _ _ _ _ _
      | exact ih7 _ _ _ _ _ _
      | exact lines_At.mono _ _ _ _
      | exact lines_Column.mono _ _ _
      | exact lines_End.mono _ _ _
      | exact lines_First.mono _ _ _
      | exact lines_Rest.mono _ _ _
      | exact lines_Start.mono _ _ _
      | exact quoinlaw05_alive.mono _
      | exact quoinref05_At.mono _ _ _ _
      | exact quoinref05_Column.mono _ _ _
      | exact quoinref05_Count.mono _ _
      | exact quoinref05_End.mono _ _ _
      | exact quoinref05_First.mono _ _ _
      | exact quoinref05_Of.mono _ _ _
      | exact quoinref05_Rest.mono _ _ _
      | exact quoinref05_Start.mono _ _ _
      | exact LeO.none _
      | refine LeO.ite ?_ ?_
      | refine LeO.bind ?_ (fun _ => ?_)
    · intro y0 y1 y2 y3 y4 y5
      unfold quoinlaw05_LinesNumbers.j3
      repeat' first
      | (with_reducible exact ih0 _ _ _ _)
      | (with_reducible exact ih1 _ _ _ _)
      | (with_reducible exact ih2 _ _ _ _ _)
      | (with_reducible exact ih3 _ _ _ _ _ _)
      | (with_reducible exact ih4 _ _ _ _ _ _)
      | (with_reducible exact ih5 _ _ _ _ _ _)
      | (with_reducible exact ih6 _ _ _ _ _ _)
      | (with_reducible exact ih7 _ _ _ _ _ _)
      | (with_reducible exact lines_At.mono _ _ _ _)
      | (with_reducible exact lines_Column.mono _ _ _)
      | (with_reducible exact lines_End.mono _ _ _)
      | (with_reducible exact lines_First.mono _ _ _)
      | (with_reducible exact lines_Rest.mono _ _ _)
      | (with_reducible exact lines_Start.mono _ _ _)
      | (with_reducible exact quoinlaw05_alive.mono _)
      | (with_reducible exact quoinref05_At.mono _ _ _ _)
      | (with_reducible exact quoinref05_Column.mono _ _ _)
      | (with_reducible exact quoinref05_Count.mono _ _)
      | (with_reducible exact quoinref05_End.mono _ _ _)
      | (with_reducible exact quoinref05_First.mono _ _ _)
      | (with_reducible exact quoinref05_Of.mono _ _ _)
      | (with_reducible exact quoinref05_Rest.mono _ _ _)
      | (with_reducible exact quoinref05_Start.mono _ _ _)
      | (with_reducible exact LeO.refl _)
      | (with_reducible exact LeO.none _)
      | (with_reducible refine LeO.ite ?_ ?_)
      | (with_reducible refine LeO.bind ?_ (fun _ => ?_))
      | exact ih0 _ _ _ _
      | exact ih1 _ _ _ _
      | exact ih2 _ _ _ _ _
      | exact ih3 _ _ _ _ _ _
      | exact ih4 _ _ _ _ _ _
      | exact ih5 _ _ _ _ _ _
      | exact ih6 _ _ _ _ _ _
      | exact ih7 _ _ _ _ _ _
      | exact lines_At.mono _ _ _ _
      | exact lines_Column.mono _ _ _
      | exact lines_End.mono _ _ _
      | exact lines_First.mono _ _ _
      | exact lines_Rest.mono _ _ _
      | exact lines_Start.mono _ _ _
      | exact quoinlaw05_alive.mono _
      | exact quoinref05_At.mono _ _ _ _
      | exact quoinref05_Column.mono _ _ _
      | exact quoinref05_Count.mono _ _
      | exact quoinref05_End.mono _ _ _
      | exact quoinref05_First.mono _ _ _
      | exact quoinref05_Of.mono _ _ _
      | exact quoinref05_Rest.mono _ _ _
      | exact quoinref05_Start.mono _ _ _
      | exact LeO.none _
      | refine LeO.ite ?_ ?_
      | refine LeO.bind ?_ (fun _ => ?_)
    · intro y0 y1 y2 y3 y4 y5
      unfold quoinlaw05_LinesNumbers.j4
      repeat' first
      | (with_reducible exact ih0 _ _ _ _)
      | (with_reducible exact ih1 _ _ _ _)
      | (with_reducible exact ih2 _ _ _ _ _)
      | (with_reducible exact ih3 _ _ _ _ _ _)
      | (with_reducible exact ih4 _ _ _ _ _ _)
      | (with_reducible exact ih5 _ _ _ _ _ _)
      | (with_reducible exact ih6 _ _ _ _ _ _)
      | (with_reducible exact ih7 _ _ _ _ _ _)
      | (with_reducible exact lines_At.mono _ _ _ _)
      | (with_reducible exact lines_Column.mono _ _ _)
      | (with_reducible exact lines_End.mono _ _ _)
      | (with_reducible exact lines_First.mono _ _ _)
      | (with_reducible exact lines_Rest.mono _ _ _)
      | (with_reducible exact lines_Start.mono _ _ _)
      | (with_reducible exact quoinlaw05_alive.mono _)
      | (with_reducible exact quoinref05_At.mono _ _ _ _)
      | (with_reducible exact quoinref05_Column.mono _ _ _)
      | (with_reducible exact quoinref05_Count.mono _ _)
      | (with_reducible exact quoinref05_End.mono _ _ _)
      | (with_reducible exact quoinref05_First.mono _ _ _)
      | (with_reducible exact quoinref05_Of.mono _ _ _)
      | (with_reducible exact quoinref05_Rest.mono _ _ _)
      | (with_reducible exact quoinref05_Start.mono _ _ _)
      | (with_reducible exact LeO.refl _)
      | (with_reducible exact LeO.none _)
      | (with_reducible refine LeO.ite ?_ ?_)
      | (with_reducible refine LeO.bind ?_ (fun _ => ?_))
      | exact ih0 _ _ _ _
      | exact ih1 _ _ _ _
      | exact ih2 _ _ _ _ _
      | exact ih3 _ _ _ _ _ _
      | exact ih4 _ _ _ _ _ _
      | exact ih5 _ _ _ _ _ _
      | exact ih6 _ _ _ _ _ _
      | exact ih7 _ _ _ _ _ _
      | exact lines_At.mono _ _ _ _
      | exact lines_Column.mono _ _ _
      | exact lines_End.mono _ _ _
      | exact lines_First.mono _ _ _
      | exact lines_Rest.mono _ _ _
      | exact lines_Start.mono _ _ _
      | exact quoinlaw05_alive.mono _
      | exact quoinref05_At.mono _ _ _ _
      | exact quoinref05_Column.mono _ _ _
      | exact quoinref05_Count.mono _ _
      | exact quoinref05_End.mono _ _ _
      | exact quoinref05_First.mono _ _ _
      | exact quoinref05_Of.mono _ _ _
      | exact quoinref05_Rest.mono _ _ _
      | exact quoinref05_Start.mono _ _ _
      | exact LeO.none _
      | refine LeO.ite ?_ ?_
      | refine LeO.bind ?_ (fun _ => ?_)
    · intro y0 y1 y2 y3 y4 y5
      unfold quoinlaw05_LinesNumbers.j5
      repeat' first
      | (with_reducible exact ih0 _ _ _ _)
      | (with_reducible exact ih1 _ _ _ _)
      | (with_reducible exact ih2 _ _ _ _ _)
      | (with_reducible exact ih3 _ _ _ _ _ _)
      | (with_reducible exact ih4 _ _ _ _ _ _)
      | (with_reducible exact ih5 _ _ _ _ _ _)
      | (with_reducible exact ih6 _ _ _ _ _ _)
      | (with_reducible exact ih7 _ _ _ _ _ _)
      | (with_reducible exact lines_At.mono _ _ _ _)
      | (with_reducible exact lines_Column.mono _ _ _)
      | (with_reducible exact lines_End.mono _ _ _)
      | (with_reducible exact lines_First.mono _ _ _)
      | (with_reducible exact lines_Rest.mono _ _ _)
      | (with_reducible exact lines_Start.mono _ _ _)
      | (with_reducible exact quoinlaw05_alive.mono _)
      | (with_reducible exact quoinref05_At.mono _ _ _ _)
      | (with_reducible exact quoinref05_Column.mono _ _ _)
      | (with_reducible exact quoinref05_Count.mono _ _)
      | (with_reducible exact quoinref05_End.mono _ _ _)
      | (with_reducible exact quoinref05_First.mono _ _ _)
      | (with_reducible exact quoinref05_Of.mono _ _ _)
      | (with_reducible exact quoinref05_Rest.mono _ _ _)
      | (with_reducible exact quoinref05_Start.mono _ _ _)
      | (with_reducible exact LeO.refl _)
      | (with_reducible exact LeO.none _)
      | (with_reducible refine LeO.ite ?_ ?_)
      | (with_reducible refine LeO.bind ?_ (fun _ => ?_))
      | exact ih0 _ _ _ _
      | exact ih1 _ _ _ _
      | exact ih2 _ _ _ _ _
      | exact ih3 _ _ _ _ _ _
      | exact ih4 _ _ _ _ _ _
      | exact ih5 _ _ _ _ _ _
      | exact ih6 _ _ _ _ _ _
      | exact ih7 _ _ _ _ _ _
      | exact lines_At.mono _ _ _ _
      | exact lines_Column.mono _ _ _
      | exact lines_End.mono _ _ _
      | exact lines_First.mono _ _ _
      | exact lines_Rest.mono _ _ _
      | exact lines_Start.mono _ _ _
      | exact quoinlaw05_alive.mono _
      | exact quoinref05_At.mono _ _ _ _
      | exact quoinref05_Column.mono _ _ _
      | exact quoinref05_Count.mono _ _
      | exact quoinref05_End.mono _ _ _
      | exact quoinref05_First.mono _ _ _
      | exact quoinref05_Of.mono _ _ _
      | exact quoinref05_Rest.mono _ _ _
      | exact quoinref05_Start.mono _ _ _
      | exact LeO.none _
      | refine LeO.ite ?_ ?_
      | refine LeO.bind ?_ (fun _ => ?_)
    · intro y0 y1 y2 y3 y4 y5
      unfold quoinlaw05_LinesNumbers.j6
      repeat' first
      | (with_reducible exact ih0 _ _ _ _)
      | (with_reducible exact ih1 _ _ _ _)
      | (with_reducible exact ih2 _ _ _ _ _)
      | (with_reducible exact ih3 _ _ _ _ _ _)
      | (with_reducible exact ih4 _ _ _ _ _ _)
      | (with_reducible exact ih5 _ _ _ _ _ _)
      | (with_reducible exact ih6 _ _ _ _ _ _)
      | (with_reducible exact ih7 _ _ _ _ _ _)
      | (with_reducible exact lines_At.mono _ _ _ _)
      | (with_reducible exact lines_Column.mono _ _ _)
      | (with_reducible exact lines_End.mono _ _ _)
      | (with_reducible exact lines_First.mono _ _ _)
      | (with_reducible exact lines_Rest.mono _ _ _)
      | (with_reducible exact lines_Start.mono _ _ _)
      | (with_reducible exact quoinlaw05_alive.mono _)
      | (with_reducible exact quoinref05_At.mono _ _ _ _)
      | (with_reducible exact quoinref05_Column.mono _ _ _)
      | (with_reducible exact quoinref05_Count.mono _ _)
      | (with_reducible exact quoinref05_End.mono _ _ _)
      | (with_reducible exact quoinref05_First.mono _ _ _)
      | (with_reducible exact quoinref05_Of.mono _ _ _)
      | (with_reducible exact quoinref05_Rest.mono _ _ _)
      | (with_reducible exact quoinref05_Start.mono _ _ _)
      | (with_reducible exact LeO.refl _)
      | (with_reducible exact LeO.none _)
      | (with_reducible refine LeO.ite ?_ ?_)
      | (with_reducible refine LeO.bind ?_ (fun _ => ?_))
      | exact ih0 _ _ _ _
      | exact ih1 _ _ _ _
      | exact ih2 _ _ _ _ _
      | exact ih3 _ _ _ _ _ _
      | exact ih4 _ _ _ _ _ _
      | exact ih5 _ _ _ _ _ _
      | exact ih6 _ _ _ _ _ _
      | exact ih7 _ _ _ _ _ _
      | exact lines_At.mono _ _ _ _
      | exact lines_Column.mono _ _ _
      | exact lines_End.mono _ _ _
      | exact lines_First.mono _ _ _
      | exact lines_Rest.mono _ _ _
      | exact lines_Start.mono _ _ _
      | exact quoinlaw05_alive.mono _
      | exact quoinref05_At.mono _ _ _ _
      | exact quoinref05_Column.mono _ _ _
      | exact quoinref05_Count.mono _ _
      | exact quoinref05_End.mono _ _ _
      | exact quoinref05_First.mono _ _ _
      | exact quoinref05_Of.mono _ _ _
      | exact quoinref05_Rest.mono _ _ _
      | exact quoinref05_Start.mono _ _ _
      | exact LeO.none _
      | refine LeO.ite ?_ ?_
      | refine LeO.bind ?_ (fun _ => ?_)
    · intro y0 y1 y2 y3 y4 y5
      unfold quoinlaw05_LinesNumbers.j7
      repeat' first
      | (with_reducible exact ih0 _ _ _ _)
      | (with_reducible exact ih1 _ _ _ _)
      | (with_reducible exact ih2 _ _ _ _ _)
      | (with_reducible exact ih3 _ _ _ _ _ _)
      | (with_reducible exact ih4 _ _ _ _ _ _)
      | (with_reducible exact ih5 _ _ _ _ _ _)
      | (with_reducible exact ih6 _ _ _ _ _ _)
      | (with_reducible exact ih7 _ _ _ _ _ _)
      | (with_reducible exact lines_At.mono _ _ _ _)
      | (with_reducible exact lines_Column.mono _ _ _)
      | (with_reducible exact lines_End.mono _ _ _)
      | (with_reducible exact lines_First.mono _ _ _)
      | (with_reducible exact lines_Rest.mono _ _ _)
      | (with_reducible exact lines_Start.mono _ _ _)
      | (with_reducible exact quoinlaw05_alive.mono _)
      | (with_reducible exact quoinref05_At.mono _ _ _ _)
      | (with_reducible exact quoinref05_Column.mono _ _ _)
      | (with_reducible exact quoinref05_Count.mono _ _)
      | (with_reducible exact quoinref05_End.mono _ _ _)
      | (with_reducible exact quoinref05_First.mono _ _ _)
      | (with_reducible exact quoinref05_Of.mono _ _ _)
      | (with_reducible exact quoinref05_Rest.mono _ _ _)
      | (with_reducible exact quoinref05_Start.mono _ _ _)
      | (with_reducible exact LeO.refl _)
      | (with_reducible exact LeO.none _)
      | (with_reducible refine LeO.ite ?_ ?_)
      | (with_reducible refine LeO.bind ?_ (fun _ => ?_))
      | exact ih0 _ _ _ _
      | exact ih1 _ _ _ _
      | exact ih2 _ _ _ _ _
      | exact ih3 _ _ _ _ _ _
      | exact ih4 _ _ _ _ _ _
      | exact ih5 _ _ _ _ _ _
      | exact ih6 _ _ _ _ _ _
      | exact ih7 _ _ _ _ _ _
      | exact lines_At.mono _ _ _ _
      | exact lines_Column.mono _ _ _
      | exact lines_End.mono _ _ _
      | exact lines_First.mono _ _ _
      | exact lines_Rest.mono _ _ _
      | exact lines_Start.mono _ _ _
      | exact quoinlaw05_alive.mono _
      | exact quoinref05_At.mono _ _ _ _
      | exact quoinref05_Column.mono _ _ _
      | exact quoinref05_Count.mono _ _
      | exact quoinref05_End.mono _ _ _
      | exact quoinref05_First.mono _ _ _
      | exact quoinref05_Of.mono _ _ _
      | exact quoinref05_Rest.mono _ _ _
      | exact quoinref05_Start.mono _ _ _
      | exact LeO.none _
      | refine LeO.ite ?_ ?_
      | refine LeO.bind ?_ (fun _ => ?_)
theorem quoinlaw05_LinesNumbers.mono : ∀ a0 a1 a2 k, LeO (quoinlaw05_LinesNumbers.f k a0 a1 a2) (quoinlaw05_LinesNumbers.f (k + 1) a0 a1 a2) := by
  intro a0 a1 a2 k
  obtain ⟨ih0, ih1, ih2, ih3, ih4, ih5, ih6, ih7⟩ := quoinlaw05_LinesNumbers.mono_l k
  unfold quoinlaw05_LinesNumbers.f
  repeat' first
      | (with_reducible exact ih0 _ _ _ _)
      | (with_reducible exact ih1 _ _ _ _)
      | (with_reducible exact ih2 _ _ _ _ _)
      | (with_reducible exact ih3 _ _ _ _ _ _)
      | (with_reducible exact ih4 _ _ _ _ _ _)
      | (with_reducible exact ih5 _ _ _ _ _ _)
      | (with_reducible exact ih6 _ _ _ _ _ _)
      | (with_reducible exact ih7 _ _ _ _ _ _)
      | (with_reducible exact lines_At.mono _ _ _ _)
      | (with_reducible exact lines_Column.mono _ _ _)
      | (with_reducible exact lines_End.mono _ _ _)
      | (with_reducible exact lines_First.mono _ _ _)
      | (with_reducible exact lines_Rest.mono _ _ _)
      | (with_reducible exact lines_Start.mono _ _ _)
      | (with_reducible exact quoinlaw05_alive.mono _)
      | (with_reducible exact quoinref05_At.mono _ _ _ _)
      | (with_reducible exact quoinref05_Column.mono _ _ _)
      | (with_reducible exact quoinref05_Count.mono _ _)
      | (with_reducible exact quoinref05_End.mono _ _ _)
      | (with_reducible exact quoinref05_First.mono _ _ _)
      | (with_reducible exact quoinref05_Of.mono _ _ _)
      | (with_reducible exact quoinref05_Rest.mono _ _ _)
      | (with_reducible exact quoinref05_Start.mono _ _ _)
      | (with_reducible exact LeO.refl _)
      | (with_reducible exact LeO.none _)
      | (with_reducible refine LeO.ite ?_ ?_)
      | (with_reducible refine LeO.bind ?_ (fun _ => ?_))
      | exact ih0 _ _ _ _
      | exact ih1 _ _ _ _
      | exact ih2 _ _ _ _ _
      | exact ih3 _ _ _ _ _ _
      | exact ih4 _ _ _ _ _ _
      | exact ih5 _ _ _ _ _ _
      | exact ih6 _ _ _ _ _ _
      | exact ih7 _ _ _ _ _ _
      | exact lines_At.mono _ _ _ _
      | exact lines_Column.mono _ _ _
      | exact lines_End.mono _ _ _
      | exact lines_First.mono _ _ _
      | exact lines_Rest.mono _ _ _
      | exact lines_Start.mono _ _ _
      | exact quoinlaw05_alive.mono _
      | exact quoinref05_At.mono _ _ _ _
      | exact quoinref05_Column.mono _ _ _
      | exact quoinref05_Count.mono _ _
      | exact quoinref05_End.mono _ _ _
      | exact quoinref05_First.mono _ _ _
      | exact quoinref05_Of.mono _ _ _
      | exact quoinref05_Rest.mono _ _ _
      | exact quoinref05_Start.mono _ _ _
      | exact LeO.none _
      | refine LeO.ite ?_ ?_
      | refine LeO.bind ?_ (fun _ => ?_)
set_option maxHeartbeats 8000000 in
set_option maxRecDepth 100000 in
theorem quoinlaw05_LinesNumbers.calls (k : Nat) (A0 : Option Addr) (c0 : Nat) (l0 : List Int) (A1 : Option Addr) (c1 : Nat) (l1 : List Int) (a2 : Int) (r : Bool) (w : World) (hr0 : Kd.C (Kd.int .u8) w A0 l0.length l0) (hc0 : l0.length ≤ c0) (hr1 : Kd.C (Kd.int .i64) w A1 l1.length l1) (hc1 : l1.length ≤ c1) (h : quoinlaw05_LinesNumbers.f k l0 l1 a2 = some r) :
    Calls Tryd.prog 6 #[.slice A0 l0.length c0, .slice A1 l1.length c1, .int .i64 a2] w fun e w' => e = .returned (.bool r) ∧ Below w.heap.size w w' := by
  have HR0 := Aside0.mk hr0
  have HC0 := Aside0.mk hc0
  clear hr0 hc0
  have HR1 := Aside0.mk hr1
  have HC1 := Aside0.mk hc1
  clear hr1 hc1
  have HB := Aside0.mk (Below.refl w.heap.size w)
  have H : ((quoinlaw05_alive.f k).bind fun t275 => (if t275 = true then ((lines_Count.f l0).bind fun t276 => ((quoinref05_Count.f k l0).bind fun t277 => (quoinlaw05_LinesNumbers.j0 k l0 l1 a2 (t276 != t277)))) else (quoinlaw05_LinesNumbers.j0 k l0 l1 a2 true))) = some r := h
  clear h
  have HC4 := Aside0.mk H
  clear H
  go_enter Tryd.func6, Tryd.ntmps6
  go_upto_region 1 with (fail)
  go_cut [21] (fun v21 wc => ∃ (kq : Nat) (x21_3 : Bool), v21 = .bool x21_3 ∧ Aside0 (quoinlaw05_LinesNumbers.j0 kq l0 l1 a2 x21_3 = some r) ∧ Aside0 (kq ≤ k) ∧ Aside0 (Below w.heap.size w wc))
  case first =>
    have H := HC4.out
    clear HC4
    replace H := Option.bind_eq_some_iff.mp H
    obtain ⟨t275, A50, H⟩ := H
    replace H : (if t275 = true then ((lines_Count.f l0).bind fun t276 => ((quoinref05_Count.f k l0).bind fun t277 => (quoinlaw05_LinesNumbers.j0 k l0 l1 a2 (t276 != t277)))) else (quoinlaw05_LinesNumbers.j0 k l0 l1 a2 true)) = some r := H
    have A5 := Aside0.mk A50
    clear A50
    by_cases c6 : t275 = true
    · subst c6
      have H1 : ((lines_Count.f l0).bind fun t276 => ((quoinref05_Count.f k l0).bind fun t277 => (quoinlaw05_LinesNumbers.j0 k l0 l1 a2 (t276 != t277)))) = some r := by rw [if_pos rfl] at H; exact H
      clear H
      have H := H1
      clear H1
      replace H := Option.bind_eq_some_iff.mp H
      obtain ⟨t276, A70, H⟩ := H
      replace H : ((quoinref05_Count.f k l0).bind fun t277 => (quoinlaw05_LinesNumbers.j0 k l0 l1 a2 (t276 != t277))) = some r := H
      have A7 := Aside0.mk A70
      clear A70
      replace H := Option.bind_eq_some_iff.mp H
      obtain ⟨t277, A80, H⟩ := H
      replace H : (quoinlaw05_LinesNumbers.j0 k l0 l1 a2 (t276 != t277)) = some r := H
      have A8 := Aside0.mk A80
      clear A80
      have H' := Aside0.mk H
      clear H
      go_wp2_with (first | ((with_reducible refine gate_callee (f := 8) rfl ?_); refine goesL_ (some 13) rfl rfl Tryd.func8 (by kernel_rfl) rfl #[] rfl (by (try simp only [List.map_toArray, List.map_cons, List.map_nil]); first | done | rfl | (simp only [List.length_drop, List.length_take]; rfl)) ?_; (with_reducible refine (quoinlaw05_alive.calls k  true _ A5.out).mono ?_); rintro e w9 ⟨rfl, hb⟩; refine ⟨_, rfl, ?_⟩; have n0_ := Aside0.mk (below_step (by repeat (first | (with_reducible first | exact HB.out | apply below_alloc | apply pw_below_drewN | apply below_drew1) | exact HB.out)) hb); clear HB; have HB := n0_; clear n0_; (try clear hb); (try clear hb2); (try clear hk); (try clear hi)) | (go_at_call 12; (with_reducible refine (lines_Count.calls _ _ l0 t276 _ ?side1 ?side2 A7.out).mono ?_); (case side1 => repeat (first | exact (Kd.C_below HR0.out HB.out) | (with_reducible refine Kd.C_alloc ?_ _) | (with_reducible refine Kd.C_drewN ?_ _) | (with_reducible refine Kd.C_drew ?_))); (case side2 => exact HC0.out); rintro e w10 ⟨rfl, hb⟩; have n0_ := Aside0.mk (below_step (by repeat (first | (with_reducible first | exact HB.out | apply below_alloc | apply pw_below_drewN | apply below_drew1) | exact HB.out)) hb); clear HB; have HB := n0_; clear n0_; (try clear hb); (try clear hb2); (try clear hk); (try clear hi)) | (go_at_call 19; (with_reducible refine (quoinref05_Count.calls k _ _ l0 t277 _ ?side1 ?side2 A8.out).mono ?_); (case side1 => repeat (first | exact (Kd.C_below HR0.out HB.out) | (with_reducible refine Kd.C_alloc ?_ _) | (with_reducible refine Kd.C_drewN ?_ _) | (with_reducible refine Kd.C_drew ?_))); (case side2 => exact HC0.out); rintro e w' ⟨rfl, ⟨nd, rfl⟩⟩))
      go_meet
      case rel => exact ⟨_, ((t276 != t277)), (by first | rfl | (simp; done) | (simp [*]; done)), H', ⟨by first | omega | exact Nat.le_refl _⟩, ⟨by repeat (first | (with_reducible first | exact HB.out | apply below_alloc | apply pw_below_drewN | apply below_drew1) | exact HB.out)⟩⟩
    · replace c6 := Bool.eq_false_iff.mpr c6
      subst c6
      have H1 : (quoinlaw05_LinesNumbers.j0 k l0 l1 a2 true) = some r := by rw [if_neg (show ¬ (false = true) by decide)] at H; exact H
      clear H
      have H := H1
      clear H1
      have H' := Aside0.mk H
      clear H
      go_wp2_with (first | ((with_reducible refine gate_callee (f := 8) rfl ?_); refine goesL_ (some 13) rfl rfl Tryd.func8 (by kernel_rfl) rfl #[] rfl (by (try simp only [List.map_toArray, List.map_cons, List.map_nil]); first | done | rfl | (simp only [List.length_drop, List.length_take]; rfl)) ?_; (with_reducible refine (quoinlaw05_alive.calls k  false _ A5.out).mono ?_); rintro e w11 ⟨rfl, hb⟩; refine ⟨_, rfl, ?_⟩; have n0_ := Aside0.mk (below_step (by repeat (first | (with_reducible first | exact HB.out | apply below_alloc | apply pw_below_drewN | apply below_drew1) | exact HB.out)) hb); clear HB; have HB := n0_; clear n0_; (try clear hb); (try clear hb2); (try clear hk); (try clear hi)))
      go_meet
      case rel => exact ⟨_, (true), (by first | rfl | (simp; done) | (simp [*]; done)), H', ⟨by first | omega | exact Nat.le_refl _⟩, ⟨by repeat (first | (with_reducible first | exact HB.out | apply below_alloc | apply pw_below_drewN | apply below_drew1) | exact HB.out)⟩⟩
  case rest =>
    clear HC4
    try clear c1
    try clear p2
    try clear c6
    try clear c8
    obtain ⟨kq, x21_3, rfl, HA, HJ3, HB⟩ := hcut
    cases kq with
    | zero => exact absurd HA.out (by simp [quoinlaw05_LinesNumbers.j0])
    | succ kj3 =>
      have H := HA.out
      clear HA
      simp only [quoinlaw05_LinesNumbers.j0] at H
      by_cases c12 : x21_3 = true
      · subst c12
        have H1 : (some false) = some r := by rw [if_pos rfl] at H; exact H
        clear H
        have H := H1
        clear H1
        obtain rfl := Option.some.inj H
        go_wp2
        go_ret
        exact ⟨by first | rfl | (simp [errW_none, errW_some] <;> rfl) | (simp [*, errW_none, errW_some] <;> rfl), by repeat (first | (with_reducible first | exact HB.out | apply below_alloc | apply pw_below_drewN | apply below_drew1) | exact HB.out)⟩
      · replace c12 := Bool.eq_false_iff.mpr c12
        subst c12
        have H1 : (quoinlaw05_LinesNumbers.l0 kj3 l0 l1 a2 0) = some r := by rw [if_neg (show ¬ (false = true) by decide)] at H; exact H
        clear H
        have H := H1
        clear H1
        have H' := Aside0.mk H
        clear H
        go_wp2
        go_loopg [7] kj3 (fun kq v7 w' => ∃ (x7_2 : Int), v7 = .int .i64 x7_2 ∧ Aside0 (quoinlaw05_LinesNumbers.l0 kq l0 l1 a2 x7_2 = some r) ∧ Aside0 (kq ≤ kj3) ∧ Aside0 (Below w.heap.size w w'))
        case atStart => exact ⟨(0), (by first | rfl | (simp; done) | (simp [*]; done)), H', ⟨Nat.le_refl _⟩, ⟨by repeat (first | (with_reducible first | exact HB.out | apply below_alloc | apply pw_below_drewN | apply below_drew1) | exact HB.out)⟩⟩
        case round =>
          clear H'
          try clear c1
          try clear p2
          try clear c6
          try clear c8
          try clear c12
          try clear p2
          obtain ⟨x7_2, rfl, HA, HK2, HB⟩ := hrel
          cases gk with
          | zero => exact absurd HA.out (by simp [quoinlaw05_LinesNumbers.l0])
          | succ k2 =>
            have H := HA.out
            clear HA
            simp only [quoinlaw05_LinesNumbers.l0] at H
            have HC13 := Aside0.mk H
            clear H
            go_upto_region 4 with (fail)
            go_cut [29] (fun v29 wc => ∃ (kq : Nat) (x29_12 : Bool), v29 = .bool x29_12 ∧ Aside0 (quoinlaw05_LinesNumbers.j2 kq l0 l1 a2 x7_2 x29_12 = some r) ∧ Aside0 (kq ≤ k2) ∧ Aside0 (Below w.heap.size w wc))
            case first =>
              have H := HC13.out
              clear HC13
              by_cases c14 : x7_2 < (l1.length : Int)
              · rw [if_pos c14] at H
                have c14b0 : decide (x7_2 < (l1.length : Int)) = true := decide_eq_true c14
                clear c14
                (first | rw [c14b0] | (simp only [i64_w, i32_w]; rw [c14b0]) | skip)
                have H' := Aside0.mk H
                clear H
                go_wp2
                go_meet
                case rel => exact ⟨_, (decide (x7_2 < 200)), (by first | rfl | (simp; done) | (simp [*]; done)), H', ⟨by have := HJ3.out; have := HK2.out; first | omega | exact Nat.le_refl _⟩, ⟨by repeat (first | (with_reducible first | exact HB.out | apply below_alloc | apply pw_below_drewN | apply below_drew1) | exact HB.out)⟩⟩
              · rw [if_neg c14] at H
                have c14b0 : decide (x7_2 < (l1.length : Int)) = false := decide_eq_false c14
                clear c14
                (first | rw [c14b0] | (simp only [i64_w, i32_w]; rw [c14b0]) | skip)
                have H' := Aside0.mk H
                clear H
                go_wp2
                go_meet
                case rel => exact ⟨_, (false), (by first | rfl | (simp; done) | (simp [*]; done)), H', ⟨by have := HJ3.out; have := HK2.out; first | omega | exact Nat.le_refl _⟩, ⟨by repeat (first | (with_reducible first | exact HB.out | apply below_alloc | apply pw_below_drewN | apply below_drew1) | exact HB.out)⟩⟩
            case rest =>
              clear HC13
              try clear c1
              try clear p2
              try clear c6
              try clear c8
              try clear c12
              try clear c14
              try clear c14b0
              try clear p2
              obtain ⟨kq, x29_12, rfl, HA, HJ12, HB⟩ := hcut
              cases kq with
              | zero => exact absurd HA.out (by simp [quoinlaw05_LinesNumbers.j2])
              | succ kj12 =>
                have H := HA.out
                clear HA
                simp only [quoinlaw05_LinesNumbers.j2] at H
                by_cases c15 : x29_12 = true
                · subst c15
                  have H1 : (if 0 ≤ x7_2 then (if x7_2 < (l1.length : Int) then ((lines_Start.f kj12 l0 (rd l1 x7_2)).bind fun bt279 => ((quoinref05_Start.f kj12 l0 (rd l1 x7_2)).bind fun bt281 => (if bt279.1 = bt281.1 then (quoinlaw05_LinesNumbers.j3 kj12 l0 l1 a2 x7_2 (rd l1 x7_2) (bt279.2 != bt281.2)) else (quoinlaw05_LinesNumbers.j3 kj12 l0 l1 a2 x7_2 (rd l1 x7_2) true)))) else (none)) else (none)) = some r := by rw [if_pos rfl] at H; exact H
                  clear H
                  have H := H1
                  clear H1
                  by_cases c16 : 0 ≤ x7_2
                  · rw [if_pos c16] at H
                    have c16b0 : decide (0 ≤ x7_2) = true := decide_eq_true c16
                    clear c16
                    by_cases c17 : x7_2 < (l1.length : Int)
                    · rw [if_pos c17] at H
                      have c17b0 : decide (x7_2 < (l1.length : Int)) = true := decide_eq_true c17
                      clear c17
                      replace H := Option.bind_eq_some_iff.mp H
                      obtain ⟨⟨t279, t280⟩, A180, H⟩ := H
                      replace H : ((quoinref05_Start.f kj12 l0 (rd l1 x7_2)).bind fun bt281 => (if t279 = bt281.1 then (quoinlaw05_LinesNumbers.j3 kj12 l0 l1 a2 x7_2 (rd l1 x7_2) (t280 != bt281.2)) else (quoinlaw05_LinesNumbers.j3 kj12 l0 l1 a2 x7_2 (rd l1 x7_2) true))) = some r := H
                      have A18 := Aside0.mk A180
                      clear A180
                      replace H := Option.bind_eq_some_iff.mp H
                      obtain ⟨⟨t281, t282⟩, A190, H⟩ := H
                      replace H : (if t279 = t281 then (quoinlaw05_LinesNumbers.j3 kj12 l0 l1 a2 x7_2 (rd l1 x7_2) (t280 != t282)) else (quoinlaw05_LinesNumbers.j3 kj12 l0 l1 a2 x7_2 (rd l1 x7_2) true)) = some r := H
                      have A19 := Aside0.mk A190
                      clear A190
                      have HC20 := Aside0.mk H
                      clear H
                      have p278 : 0 ≤ (x7_2 : Int) := of_decide_eq_true (by first | (with_reducible assumption) | assumption)
                      have q278 : x7_2 < (l1.length : Int) := of_decide_eq_true (by first | (with_reducible assumption) | assumption)
                      obtain ⟨ad278, e278, hx278_0⟩ := Kd.at_int HR1.out x7_2 p278 q278
                      cases e278
                      replace hx278_0 := (HB.out.cell (World.block_lt_of_cell? w _ hx278_0)).trans hx278_0
                      replace p278 := eq_true p278
                      replace q278 := eq_true q278
                      go_upto_region 9 with (first | ((with_reducible refine gate_callee (f := 13) rfl ?_); refine goesL_ (some 39) rfl rfl Tryd.func13 (by kernel_rfl) rfl #[.slice A0 l0.length c0, .int .i64 (rd l1 x7_2)] rfl (by (try simp only [List.map_toArray, List.map_cons, List.map_nil]); first | done | rfl | (simp only [List.length_drop, List.length_take]; rfl)) ?_; (with_reducible refine (lines_Start.calls kj12 _ _ l0 (rd l1 x7_2) t279 t280 _ ?side1 ?side2 A18.out).mono ?_); (case side1 => repeat (first | exact (Kd.C_below HR0.out HB.out) | (with_reducible refine Kd.C_alloc ?_ _) | (with_reducible refine Kd.C_drewN ?_ _) | (with_reducible refine Kd.C_drew ?_))); (case side2 => exact HC0.out); rintro e w' ⟨rfl, ⟨nd, rfl⟩⟩; refine ⟨_, rfl, ?_⟩) | ((with_reducible refine gate_callee (f := 20) rfl ?_); refine goesL_ (some 45) rfl rfl Tryd.func20 (by kernel_rfl) rfl #[.slice A0 l0.length c0, .int .i64 (rd l1 x7_2)] rfl (by (try simp only [List.map_toArray, List.map_cons, List.map_nil]); first | done | rfl | (simp only [List.length_drop, List.length_take]; rfl)) ?_; (with_reducible refine (quoinref05_Start.calls kj12 _ _ l0 (rd l1 x7_2) t281 t282 _ ?side1 ?side2 A19.out).mono ?_); (case side1 => repeat (first | exact (Kd.C_below HR0.out (by repeat (first | (with_reducible first | exact HB.out | apply below_alloc | apply pw_below_drewN | apply below_drew1) | exact HB.out))) | (with_reducible refine Kd.C_alloc ?_ _) | (with_reducible refine Kd.C_drewN ?_ _) | (with_reducible refine Kd.C_drew ?_))); (case side2 => exact HC0.out); rintro e w' ⟨rfl, ⟨nd, rfl⟩⟩; refine ⟨_, rfl, ?_⟩))
                      (try simp only [Act.put, List.setIfInBounds_toArray, List.set_cons_zero, List.set_cons_succ])
                      go_cut [55] (fun v55 wc => ∃ (kq : Nat) (x55_19 : Bool), v55 = .bool x55_19 ∧ Aside0 (quoinlaw05_LinesNumbers.j3 kq l0 l1 a2 x7_2 (rd l1 x7_2) x55_19 = some r) ∧ Aside0 (kq ≤ kj12) ∧ Aside0 (Below w.heap.size w wc))
                      case first =>
                        have H := HC20.out
                        clear HC20
                        by_cases c21 : t279 = t281
                        · rw [if_pos c21] at H
                          have c21b0 : (t279 == t281) = true := beq_iff_eq.mpr c21
                          have c21b1 : (t279 != t281) = false := bne_eq_false_iff_eq.mpr c21
                          clear c21
                          (first | rw [c21b0] | (simp only [i64_w, i32_w]; rw [c21b0]) | skip)
                          have H' := Aside0.mk H
                          clear H
                          go_wp2
                          go_meet
                          case rel => exact ⟨_, ((t280 != t282)), (by first | rfl | (simp; done) | (simp [*]; done)), H', ⟨by have := HJ3.out; have := HK2.out; have := HJ12.out; first | omega | exact Nat.le_refl _⟩, ⟨by repeat (first | (with_reducible first | exact HB.out | apply below_alloc | apply pw_below_drewN | apply below_drew1) | exact HB.out)⟩⟩
                        · rw [if_neg c21] at H
                          have c21b0 : (t279 == t281) = false := beq_eq_false_iff_ne.mpr c21
                          have c21b1 : (t279 != t281) = true := bne_iff_ne.mpr c21
                          (first | rw [c21b0] | (simp only [i64_w, i32_w]; rw [c21b0]) | skip)
                          have H' := Aside0.mk H
                          clear H
                          go_wp2
                          go_meet
                          case rel => exact ⟨_, (true), (by first | rfl | (simp; done) | (simp [*]; done)), H', ⟨by have := HJ3.out; have := HK2.out; have := HJ12.out; first | omega | exact Nat.le_refl _⟩, ⟨by repeat (first | (with_reducible first | exact HB.out | apply below_alloc | apply pw_below_drewN | apply below_drew1) | exact HB.out)⟩⟩
                      case rest =>
                        clear HC20
                        try clear c1
                        try clear c2
                        try clear p2
                        try clear q2
                        try clear hx2
                        try clear c6
                        try clear c8
                        try clear c12
                        try clear c13
                        try clear c14
                        try clear c14b0
                        try clear c15
                        try clear c16
                        try clear c16b0
                        try clear c17
                        try clear c17b0
                        try clear c20
                        try clear c21
                        try clear c21b0
                        try clear c21b1
                        try clear hx278_0
                        try clear p2
                        try clear p278
                        try clear q278
                        obtain ⟨kq, x55_19, rfl, HA, HJ19, HB⟩ := hcut
                        cases kq with
                        | zero => exact absurd HA.out (by simp [quoinlaw05_LinesNumbers.j3])
                        | succ kj19 =>
                          have H := HA.out
                          clear HA
                          simp only [quoinlaw05_LinesNumbers.j3] at H
                          by_cases c22 : x55_19 = true
                          · subst c22
                            have H1 : (some false) = some r := by rw [if_pos rfl] at H; exact H
                            clear H
                            have H := H1
                            clear H1
                            obtain rfl := Option.some.inj H
                            go_wp2
                            go_ret
                            exact ⟨by first | rfl | (simp [errW_none, errW_some] <;> rfl) | (simp [*, errW_none, errW_some] <;> rfl), by repeat (first | (with_reducible first | exact HB.out | apply below_alloc | apply pw_below_drewN | apply below_drew1) | exact HB.out)⟩
                          · replace c22 := Bool.eq_false_iff.mpr c22
                            subst c22
                            have H1 : ((lines_End.f kj19 l0 (rd l1 x7_2)).bind fun bt283 => ((quoinref05_End.f kj19 l0 (rd l1 x7_2)).bind fun bt285 => (if bt283.1 = bt285.1 then (quoinlaw05_LinesNumbers.j4 kj19 l0 l1 a2 x7_2 (rd l1 x7_2) (bt283.2 != bt285.2)) else (quoinlaw05_LinesNumbers.j4 kj19 l0 l1 a2 x7_2 (rd l1 x7_2) true)))) = some r := by rw [if_neg (show ¬ (false = true) by decide)] at H; exact H
                            clear H
                            have H := H1
                            clear H1
                            replace H := Option.bind_eq_some_iff.mp H
                            obtain ⟨⟨t283, t284⟩, A230, H⟩ := H
                            replace H : ((quoinref05_End.f kj19 l0 (rd l1 x7_2)).bind fun bt285 => (if t283 = bt285.1 then (quoinlaw05_LinesNumbers.j4 kj19 l0 l1 a2 x7_2 (rd l1 x7_2) (t284 != bt285.2)) else (quoinlaw05_LinesNumbers.j4 kj19 l0 l1 a2 x7_2 (rd l1 x7_2) true))) = some r := H
                            have A23 := Aside0.mk A230
                            clear A230
                            replace H := Option.bind_eq_some_iff.mp H
                            obtain ⟨⟨t285, t286⟩, A240, H⟩ := H
                            replace H : (if t283 = t285 then (quoinlaw05_LinesNumbers.j4 kj19 l0 l1 a2 x7_2 (rd l1 x7_2) (t284 != t286)) else (quoinlaw05_LinesNumbers.j4 kj19 l0 l1 a2 x7_2 (rd l1 x7_2) true)) = some r := H
                            have A24 := Aside0.mk A240
                            clear A240
                            have HC25 := Aside0.mk H
                            clear H
                            go_upto_region 13 with (first | ((with_reducible refine gate_callee (f := 14) rfl ?_); refine goesL_ (some 59) rfl rfl Tryd.func14 (by kernel_rfl) rfl #[.slice A0 l0.length c0, .int .i64 (rd l1 x7_2)] rfl (by (try simp only [List.map_toArray, List.map_cons, List.map_nil]); first | done | rfl | (simp only [List.length_drop, List.length_take]; rfl)) ?_; (with_reducible refine (lines_End.calls kj19 _ _ l0 (rd l1 x7_2) t283 t284 _ ?side1 ?side2 A23.out).mono ?_); (case side1 => repeat (first | exact (Kd.C_below HR0.out HB.out) | (with_reducible refine Kd.C_alloc ?_ _) | (with_reducible refine Kd.C_drewN ?_ _) | (with_reducible refine Kd.C_drew ?_))); (case side2 => exact HC0.out); rintro e w' ⟨rfl, ⟨nd, rfl⟩⟩; refine ⟨_, rfl, ?_⟩) | ((with_reducible refine gate_callee (f := 21) rfl ?_); refine goesL_ (some 65) rfl rfl Tryd.func21 (by kernel_rfl) rfl #[.slice A0 l0.length c0, .int .i64 (rd l1 x7_2)] rfl (by (try simp only [List.map_toArray, List.map_cons, List.map_nil]); first | done | rfl | (simp only [List.length_drop, List.length_take]; rfl)) ?_; (with_reducible refine (quoinref05_End.calls kj19 _ _ l0 (rd l1 x7_2) t285 t286 _ ?side1 ?side2 A24.out).mono ?_); (case side1 => repeat (first | exact (Kd.C_below HR0.out (by repeat (first | (with_reducible first | exact HB.out | apply below_alloc | apply pw_below_drewN | apply below_drew1) | exact HB.out))) | (with_reducible refine Kd.C_alloc ?_ _) | (with_reducible refine Kd.C_drewN ?_ _) | (with_reducible refine Kd.C_drew ?_))); (case side2 => exact HC0.out); rintro e w' ⟨rfl, ⟨nd, rfl⟩⟩; refine ⟨_, rfl, ?_⟩))
                            (try simp only [Act.put, List.setIfInBounds_toArray, List.set_cons_zero, List.set_cons_succ])
                            go_cut [75] (fun v75 wc => ∃ (kq : Nat) (x75_24 : Bool), v75 = .bool x75_24 ∧ Aside0 (quoinlaw05_LinesNumbers.j4 kq l0 l1 a2 x7_2 (rd l1 x7_2) x75_24 = some r) ∧ Aside0 (kq ≤ kj19) ∧ Aside0 (Below w.heap.size w wc))
                            case first =>
                              have H := HC25.out
                              clear HC25
                              by_cases c26 : t283 = t285
                              · rw [if_pos c26] at H
                                have c26b0 : (t283 == t285) = true := beq_iff_eq.mpr c26
                                have c26b1 : (t283 != t285) = false := bne_eq_false_iff_eq.mpr c26
                                clear c26
                                (first | rw [c26b0] | (simp only [i64_w, i32_w]; rw [c26b0]) | skip)
                                have H' := Aside0.mk H
                                clear H
                                go_wp2
                                go_meet
                                case rel => exact ⟨_, ((t284 != t286)), (by first | rfl | (simp; done) | (simp [*]; done)), H', ⟨by have := HJ3.out; have := HK2.out; have := HJ12.out; have := HJ19.out; first | omega | exact Nat.le_refl _⟩, ⟨by repeat (first | (with_reducible first | exact HB.out | apply below_alloc | apply pw_below_drewN | apply below_drew1) | exact HB.out)⟩⟩
                              · rw [if_neg c26] at H
                                have c26b0 : (t283 == t285) = false := beq_eq_false_iff_ne.mpr c26
                                have c26b1 : (t283 != t285) = true := bne_iff_ne.mpr c26
                                (first | rw [c26b0] | (simp only [i64_w, i32_w]; rw [c26b0]) | skip)
                                have H' := Aside0.mk H
                                clear H
                                go_wp2
                                go_meet
                                case rel => exact ⟨_, (true), (by first | rfl | (simp; done) | (simp [*]; done)), H', ⟨by have := HJ3.out; have := HK2.out; have := HJ12.out; have := HJ19.out; first | omega | exact Nat.le_refl _⟩, ⟨by repeat (first | (with_reducible first | exact HB.out | apply below_alloc | apply pw_below_drewN | apply below_drew1) | exact HB.out)⟩⟩
                            case rest =>
                              clear HC25
                              try clear c1
                              try clear c2
                              try clear p2
                              try clear q2
                              try clear hx2
                              try clear c6
                              try clear c8
                              try clear c12
                              try clear c13
                              try clear c14
                              try clear c14b0
                              try clear c15
                              try clear c16
                              try clear c16b0
                              try clear c17
                              try clear c17b0
                              try clear c20
                              try clear c21
                              try clear c21b0
                              try clear c21b1
                              try clear c22
                              try clear c26
                              try clear c26b0
                              try clear c26b1
                              try clear hx278_0
                              try clear p2
                              try clear p278
                              try clear q2
                              try clear q278
                              obtain ⟨kq, x75_24, rfl, HA, HJ24, HB⟩ := hcut
                              cases kq with
                              | zero => exact absurd HA.out (by simp [quoinlaw05_LinesNumbers.j4])
                              | succ kj24 =>
                                have H := HA.out
                                clear HA
                                simp only [quoinlaw05_LinesNumbers.j4] at H
                                by_cases c27 : x75_24 = true
                                · subst c27
                                  have H1 : (some false) = some r := by rw [if_pos rfl] at H; exact H
                                  clear H
                                  have H := H1
                                  clear H1
                                  obtain rfl := Option.some.inj H
                                  go_wp2
                                  go_ret
                                  exact ⟨by first | rfl | (simp [errW_none, errW_some] <;> rfl) | (simp [*, errW_none, errW_some] <;> rfl), by repeat (first | (with_reducible first | exact HB.out | apply below_alloc | apply pw_below_drewN | apply below_drew1) | exact HB.out)⟩
                                · replace c27 := Bool.eq_false_iff.mpr c27
                                  subst c27
                                  have H1 : ((lines_Of.f l0 (rd l1 x7_2)).bind fun bt287 => ((quoinref05_Of.f kj24 l0 (rd l1 x7_2)).bind fun bt289 => (if bt287.1 = bt289.1 then (quoinlaw05_LinesNumbers.j5 kj24 l0 l1 a2 x7_2 (rd l1 x7_2) (bt287.2 != bt289.2)) else (quoinlaw05_LinesNumbers.j5 kj24 l0 l1 a2 x7_2 (rd l1 x7_2) true)))) = some r := by rw [if_neg (show ¬ (false = true) by decide)] at H; exact H
                                  clear H
                                  have H := H1
                                  clear H1
                                  replace H := Option.bind_eq_some_iff.mp H
                                  obtain ⟨⟨t287, t288⟩, A280, H⟩ := H
                                  replace H : ((quoinref05_Of.f kj24 l0 (rd l1 x7_2)).bind fun bt289 => (if t287 = bt289.1 then (quoinlaw05_LinesNumbers.j5 kj24 l0 l1 a2 x7_2 (rd l1 x7_2) (t288 != bt289.2)) else (quoinlaw05_LinesNumbers.j5 kj24 l0 l1 a2 x7_2 (rd l1 x7_2) true))) = some r := H
                                  have A28 := Aside0.mk A280
                                  clear A280
                                  replace H := Option.bind_eq_some_iff.mp H
                                  obtain ⟨⟨t289, t290⟩, A290, H⟩ := H
                                  replace H : (if t287 = t289 then (quoinlaw05_LinesNumbers.j5 kj24 l0 l1 a2 x7_2 (rd l1 x7_2) (t288 != t290)) else (quoinlaw05_LinesNumbers.j5 kj24 l0 l1 a2 x7_2 (rd l1 x7_2) true)) = some r := H
                                  have A29 := Aside0.mk A290
                                  clear A290
                                  have HC30 := Aside0.mk H
                                  clear H
                                  go_upto_region 17 with (first | ((with_reducible refine gate_callee (f := 16) rfl ?_); refine goesL_ (some 79) rfl rfl Tryd.func16 (by kernel_rfl) rfl #[.slice A0 l0.length c0, .int .i64 (rd l1 x7_2)] rfl (by (try simp only [List.map_toArray, List.map_cons, List.map_nil]); first | done | rfl | (simp only [List.length_drop, List.length_take]; rfl)) ?_; (with_reducible refine (lines_Of.calls _ _ l0 (rd l1 x7_2) t287 t288 _ ?side1 ?side2 A28.out).mono ?_); (case side1 => repeat (first | exact (Kd.C_below HR0.out HB.out) | (with_reducible refine Kd.C_alloc ?_ _) | (with_reducible refine Kd.C_drewN ?_ _) | (with_reducible refine Kd.C_drew ?_))); (case side2 => exact HC0.out); rintro e w31 ⟨rfl, hb⟩; refine ⟨_, rfl, ?_⟩; have n0_ := Aside0.mk (below_step (by repeat (first | (with_reducible first | exact HB.out | apply below_alloc | apply pw_below_drewN | apply below_drew1) | exact HB.out)) hb); clear HB; have HB := n0_; clear n0_; (try clear hb); (try clear hb2); (try clear hk); (try clear hi)) | ((with_reducible refine gate_callee (f := 22) rfl ?_); refine goesL_ (some 85) rfl rfl Tryd.func22 (by kernel_rfl) rfl #[.slice A0 l0.length c0, .int .i64 (rd l1 x7_2)] rfl (by (try simp only [List.map_toArray, List.map_cons, List.map_nil]); first | done | rfl | (simp only [List.length_drop, List.length_take]; rfl)) ?_; (with_reducible refine (quoinref05_Of.calls kj24 _ _ l0 (rd l1 x7_2) t289 t290 _ ?side1 ?side2 A29.out).mono ?_); (case side1 => repeat (first | exact (Kd.C_below HR0.out HB.out) | (with_reducible refine Kd.C_alloc ?_ _) | (with_reducible refine Kd.C_drewN ?_ _) | (with_reducible refine Kd.C_drew ?_))); (case side2 => exact HC0.out); rintro e w' ⟨rfl, ⟨nd, rfl⟩⟩; refine ⟨_, rfl, ?_⟩))
                                  (try simp only [Act.put, List.setIfInBounds_toArray, List.set_cons_zero, List.set_cons_succ])
                                  go_cut [95] (fun v95 wc => ∃ (kq : Nat) (x95_29 : Bool), v95 = .bool x95_29 ∧ Aside0 (quoinlaw05_LinesNumbers.j5 kq l0 l1 a2 x7_2 (rd l1 x7_2) x95_29 = some r) ∧ Aside0 (kq ≤ kj24) ∧ Aside0 (Below w.heap.size w wc))
                                  case first =>
                                    have H := HC30.out
                                    clear HC30
                                    by_cases c32 : t287 = t289
                                    · rw [if_pos c32] at H
                                      have c32b0 : (t287 == t289) = true := beq_iff_eq.mpr c32
                                      have c32b1 : (t287 != t289) = false := bne_eq_false_iff_eq.mpr c32
                                      clear c32
                                      (first | rw [c32b0] | (simp only [i64_w, i32_w]; rw [c32b0]) | skip)
                                      have H' := Aside0.mk H
                                      clear H
                                      go_wp2
                                      go_meet
                                      case rel => exact ⟨_, ((t288 != t290)), (by first | rfl | (simp; done) | (simp [*]; done)), H', ⟨by have := HJ3.out; have := HK2.out; have := HJ12.out; have := HJ19.out; have := HJ24.out; first | omega | exact Nat.le_refl _⟩, ⟨by repeat (first | (with_reducible first | exact HB.out | apply below_alloc | apply pw_below_drewN | apply below_drew1) | exact HB.out)⟩⟩
                                    · rw [if_neg c32] at H
                                      have c32b0 : (t287 == t289) = false := beq_eq_false_iff_ne.mpr c32
                                      have c32b1 : (t287 != t289) = true := bne_iff_ne.mpr c32
                                      (first | rw [c32b0] | (simp only [i64_w, i32_w]; rw [c32b0]) | skip)
                                      have H' := Aside0.mk H
                                      clear H
                                      go_wp2
                                      go_meet
                                      case rel => exact ⟨_, (true), (by first | rfl | (simp; done) | (simp [*]; done)), H', ⟨by have := HJ3.out; have := HK2.out; have := HJ12.out; have := HJ19.out; have := HJ24.out; first | omega | exact Nat.le_refl _⟩, ⟨by repeat (first | (with_reducible first | exact HB.out | apply below_alloc | apply pw_below_drewN | apply below_drew1) | exact HB.out)⟩⟩
                                  case rest =>
                                    clear HC30
                                    try clear c1
                                    try clear c2
                                    try clear p2
                                    try clear q2
                                    try clear hx2
                                    try clear c3
                                    try clear c6
                                    try clear c8
                                    try clear c12
                                    try clear c13
                                    try clear c14
                                    try clear c14b0
                                    try clear c15
                                    try clear c16
                                    try clear c16b0
                                    try clear c17
                                    try clear c17b0
                                    try clear c20
                                    try clear c21
                                    try clear c21b0
                                    try clear c21b1
                                    try clear c22
                                    try clear c26
                                    try clear c26b0
                                    try clear c26b1
                                    try clear c27
                                    try clear p27
                                    try clear q27
                                    try clear hx27
                                    try clear c32
                                    try clear c32b0
                                    try clear c32b1
                                    try clear hx278_0
                                    try clear p2
                                    try clear p278
                                    try clear q2
                                    try clear q278
                                    obtain ⟨kq, x95_29, rfl, HA, HJ29, HB⟩ := hcut
                                    cases kq with
                                    | zero => exact absurd HA.out (by simp [quoinlaw05_LinesNumbers.j5])
                                    | succ kj29 =>
                                      have H := HA.out
                                      clear HA
                                      simp only [quoinlaw05_LinesNumbers.j5] at H
                                      by_cases c33 : x95_29 = true
                                      · subst c33
                                        have H1 : (some false) = some r := by rw [if_pos rfl] at H; exact H
                                        clear H
                                        have H := H1
                                        clear H1
                                        obtain rfl := Option.some.inj H
                                        go_wp2
                                        go_ret
                                        exact ⟨by first | rfl | (simp [errW_none, errW_some] <;> rfl) | (simp [*, errW_none, errW_some] <;> rfl), by repeat (first | (with_reducible first | exact HB.out | apply below_alloc | apply pw_below_drewN | apply below_drew1) | exact HB.out)⟩
                                      · replace c33 := Bool.eq_false_iff.mpr c33
                                        subst c33
                                        have H1 : ((lines_Column.f kj29 l0 (rd l1 x7_2)).bind fun bt291 => ((quoinref05_Column.f kj29 l0 (rd l1 x7_2)).bind fun bt293 => (if bt291.1 = bt293.1 then (quoinlaw05_LinesNumbers.j6 kj29 l0 l1 a2 x7_2 (rd l1 x7_2) (bt291.2 != bt293.2)) else (quoinlaw05_LinesNumbers.j6 kj29 l0 l1 a2 x7_2 (rd l1 x7_2) true)))) = some r := by rw [if_neg (show ¬ (false = true) by decide)] at H; exact H
                                        clear H
                                        have H := H1
                                        clear H1
                                        replace H := Option.bind_eq_some_iff.mp H
                                        obtain ⟨⟨t291, t292⟩, A340, H⟩ := H
                                        replace H : ((quoinref05_Column.f kj29 l0 (rd l1 x7_2)).bind fun bt293 => (if t291 = bt293.1 then (quoinlaw05_LinesNumbers.j6 kj29 l0 l1 a2 x7_2 (rd l1 x7_2) (t292 != bt293.2)) else (quoinlaw05_LinesNumbers.j6 kj29 l0 l1 a2 x7_2 (rd l1 x7_2) true))) = some r := H
                                        have A34 := Aside0.mk A340
                                        clear A340
                                        replace H := Option.bind_eq_some_iff.mp H
                                        obtain ⟨⟨t293, t294⟩, A350, H⟩ := H
                                        replace H : (if t291 = t293 then (quoinlaw05_LinesNumbers.j6 kj29 l0 l1 a2 x7_2 (rd l1 x7_2) (t292 != t294)) else (quoinlaw05_LinesNumbers.j6 kj29 l0 l1 a2 x7_2 (rd l1 x7_2) true)) = some r := H
                                        have A35 := Aside0.mk A350
                                        clear A350
                                        have HC36 := Aside0.mk H
                                        clear H
                                        go_upto_region 21 with (first | ((with_reducible refine gate_callee (f := 17) rfl ?_); refine goesL_ (some 99) rfl rfl Tryd.func17 (by kernel_rfl) rfl #[.slice A0 l0.length c0, .int .i64 (rd l1 x7_2)] rfl (by (try simp only [List.map_toArray, List.map_cons, List.map_nil]); first | done | rfl | (simp only [List.length_drop, List.length_take]; rfl)) ?_; (with_reducible refine (lines_Column.calls kj29 _ _ l0 (rd l1 x7_2) t291 t292 _ ?side1 ?side2 A34.out).mono ?_); (case side1 => repeat (first | exact (Kd.C_below HR0.out HB.out) | (with_reducible refine Kd.C_alloc ?_ _) | (with_reducible refine Kd.C_drewN ?_ _) | (with_reducible refine Kd.C_drew ?_))); (case side2 => exact HC0.out); rintro e w' ⟨rfl, ⟨nd, rfl⟩⟩; refine ⟨_, rfl, ?_⟩) | ((with_reducible refine gate_callee (f := 23) rfl ?_); refine goesL_ (some 105) rfl rfl Tryd.func23 (by kernel_rfl) rfl #[.slice A0 l0.length c0, .int .i64 (rd l1 x7_2)] rfl (by (try simp only [List.map_toArray, List.map_cons, List.map_nil]); first | done | rfl | (simp only [List.length_drop, List.length_take]; rfl)) ?_; (with_reducible refine (quoinref05_Column.calls kj29 _ _ l0 (rd l1 x7_2) t293 t294 _ ?side1 ?side2 A35.out).mono ?_); (case side1 => repeat (first | exact (Kd.C_below HR0.out (by repeat (first | (with_reducible first | exact HB.out | apply below_alloc | apply pw_below_drewN | apply below_drew1) | exact HB.out))) | (with_reducible refine Kd.C_alloc ?_ _) | (with_reducible refine Kd.C_drewN ?_ _) | (with_reducible refine Kd.C_drew ?_))); (case side2 => exact HC0.out); rintro e w' ⟨rfl, ⟨nd, rfl⟩⟩; refine ⟨_, rfl, ?_⟩))
                                        (try simp only [Act.put, List.setIfInBounds_toArray, List.set_cons_zero, List.set_cons_succ])
                                        go_cut [115] (fun v115 wc => ∃ (kq : Nat) (x115_35 : Bool), v115 = .bool x115_35 ∧ Aside0 (quoinlaw05_LinesNumbers.j6 kq l0 l1 a2 x7_2 (rd l1 x7_2) x115_35 = some r) ∧ Aside0 (kq ≤ kj29) ∧ Aside0 (Below w.heap.size w wc))
                                        case first =>
                                          have H := HC36.out
                                          clear HC36
                                          by_cases c37 : t291 = t293
                                          · rw [if_pos c37] at H
                                            have c37b0 : (t291 == t293) = true := beq_iff_eq.mpr c37
                                            have c37b1 : (t291 != t293) = false := bne_eq_false_iff_eq.mpr c37
                                            clear c37
                                            (first | rw [c37b0] | (simp only [i64_w, i32_w]; rw [c37b0]) | skip)
                                            have H' := Aside0.mk H
                                            clear H
                                            go_wp2
                                            go_meet
                                            case rel => exact ⟨_, ((t292 != t294)), (by first | rfl | (simp; done) | (simp [*]; done)), H', ⟨by have := HJ3.out; have := HK2.out; have := HJ12.out; have := HJ19.out; have := HJ24.out; have := HJ29.out; first | omega | exact Nat.le_refl _⟩, ⟨by repeat (first | (with_reducible first | exact HB.out | apply below_alloc | apply pw_below_drewN | apply below_drew1) | exact HB.out)⟩⟩
                                          · rw [if_neg c37] at H
                                            have c37b0 : (t291 == t293) = false := beq_eq_false_iff_ne.mpr c37
                                            have c37b1 : (t291 != t293) = true := bne_iff_ne.mpr c37
                                            (first | rw [c37b0] | (simp only [i64_w, i32_w]; rw [c37b0]) | skip)
                                            have H' := Aside0.mk H
                                            clear H
                                            go_wp2
                                            go_meet
                                            case rel => exact ⟨_, (true), (by first | rfl | (simp; done) | (simp [*]; done)), H', ⟨by have := HJ3.out; have := HK2.out; have := HJ12.out; have := HJ19.out; have := HJ24.out; have := HJ29.out; first | omega | exact Nat.le_refl _⟩, ⟨by repeat (first | (with_reducible first | exact HB.out | apply below_alloc | apply pw_below_drewN | apply below_drew1) | exact HB.out)⟩⟩
                                        case rest =>
                                          clear HC36
                                          try clear c1
                                          try clear c2
                                          try clear p2
                                          try clear q2
                                          try clear hx2
                                          try clear c3
                                          try clear c6
                                          try clear c8
                                          try clear c12
                                          try clear c13
                                          try clear c14
                                          try clear c14b0
                                          try clear c15
                                          try clear c16
                                          try clear c16b0
                                          try clear c17
                                          try clear c17b0
                                          try clear c20
                                          try clear c21
                                          try clear c21b0
                                          try clear c21b1
                                          try clear c22
                                          try clear c23
                                          try clear c26
                                          try clear c26b0
                                          try clear c26b1
                                          try clear c27
                                          try clear p27
                                          try clear q27
                                          try clear hx27
                                          try clear c32
                                          try clear c32b0
                                          try clear c32b1
                                          try clear c33
                                          try clear c37
                                          try clear c37b0
                                          try clear c37b1
                                          try clear hx278_0
                                          try clear p2
                                          try clear p27
                                          try clear p278
                                          try clear q2
                                          try clear q27
                                          try clear q278
                                          obtain ⟨kq, x115_35, rfl, HA, HJ35, HB⟩ := hcut
                                          cases kq with
                                          | zero => exact absurd HA.out (by simp [quoinlaw05_LinesNumbers.j6])
                                          | succ kj35 =>
                                            have H := HA.out
                                            clear HA
                                            simp only [quoinlaw05_LinesNumbers.j6] at H
                                            by_cases c38 : x115_35 = true
                                            · subst c38
                                              have H1 : (some false) = some r := by rw [if_pos rfl] at H; exact H
                                              clear H
                                              have H := H1
                                              clear H1
                                              obtain rfl := Option.some.inj H
                                              go_wp2
                                              go_ret
                                              exact ⟨by first | rfl | (simp [errW_none, errW_some] <;> rfl) | (simp [*, errW_none, errW_some] <;> rfl), by repeat (first | (with_reducible first | exact HB.out | apply below_alloc | apply pw_below_drewN | apply below_drew1) | exact HB.out)⟩
                                            · replace c38 := Bool.eq_false_iff.mpr c38
                                              subst c38
                                              have H1 : ((lines_First.f kj35 l0 (rd l1 x7_2)).bind fun bt295 => ((quoinref05_First.f kj35 l0 (rd l1 x7_2)).bind fun bt297 => (if bt295.1 = bt297.1 then (quoinlaw05_LinesNumbers.j7 kj35 l0 l1 a2 x7_2 (rd l1 x7_2) (bt295.2 != bt297.2)) else (quoinlaw05_LinesNumbers.j7 kj35 l0 l1 a2 x7_2 (rd l1 x7_2) true)))) = some r := by rw [if_neg (show ¬ (false = true) by decide)] at H; exact H
                                              clear H
                                              have H := H1
                                              clear H1
                                              replace H := Option.bind_eq_some_iff.mp H
                                              obtain ⟨⟨t295, t296⟩, A390, H⟩ := H
                                              replace H : ((quoinref05_First.f kj35 l0 (rd l1 x7_2)).bind fun bt297 => (if t295 = bt297.1 then (quoinlaw05_LinesNumbers.j7 kj35 l0 l1 a2 x7_2 (rd l1 x7_2) (t296 != bt297.2)) else (quoinlaw05_LinesNumbers.j7 kj35 l0 l1 a2 x7_2 (rd l1 x7_2) true))) = some r := H
                                              have A39 := Aside0.mk A390
                                              clear A390
                                              replace H := Option.bind_eq_some_iff.mp H
                                              obtain ⟨⟨t297, t298⟩, A400, H⟩ := H
                                              replace H : (if t295 = t297 then (quoinlaw05_LinesNumbers.j7 kj35 l0 l1 a2 x7_2 (rd l1 x7_2) (t296 != t298)) else (quoinlaw05_LinesNumbers.j7 kj35 l0 l1 a2 x7_2 (rd l1 x7_2) true)) = some r := H
                                              have A40 := Aside0.mk A400
                                              clear A400
                                              have HC41 := Aside0.mk H
                                              clear H
                                              go_upto_region 25 with (first | ((with_reducible refine gate_callee (f := 24) rfl ?_); refine goesL_ (some 119) rfl rfl Tryd.func24 (by kernel_rfl) rfl #[.slice A0 l0.length c0, .int .i64 (rd l1 x7_2)] rfl (by (try simp only [List.map_toArray, List.map_cons, List.map_nil]); first | done | rfl | (simp only [List.length_drop, List.length_take]; rfl)) ?_; (with_reducible refine (lines_First.calls kj35 _ _ l0 (rd l1 x7_2) t295 t296 _ ?side1 ?side2 A39.out).mono ?_); (case side1 => repeat (first | exact (Kd.C_below HR0.out HB.out) | (with_reducible refine Kd.C_alloc ?_ _) | (with_reducible refine Kd.C_drewN ?_ _) | (with_reducible refine Kd.C_drew ?_))); (case side2 => exact HC0.out); rintro e w42 ⟨rfl, hb⟩; refine ⟨_, rfl, ?_⟩; have n0_ := Aside0.mk (below_step (by repeat (first | (with_reducible first | exact HB.out | apply below_alloc | apply pw_below_drewN | apply below_drew1) | exact HB.out)) hb); clear HB; have HB := n0_; clear n0_; (try clear hb); (try clear hb2); (try clear hk); (try clear hi)) | ((with_reducible refine gate_callee (f := 25) rfl ?_); refine goesL_ (some 125) rfl rfl Tryd.func25 (by kernel_rfl) rfl #[.slice A0 l0.length c0, .int .i64 (rd l1 x7_2)] rfl (by (try simp only [List.map_toArray, List.map_cons, List.map_nil]); first | done | rfl | (simp only [List.length_drop, List.length_take]; rfl)) ?_; (with_reducible refine (quoinref05_First.calls kj35 _ _ l0 (rd l1 x7_2) t297 t298 _ ?side1 ?side2 A40.out).mono ?_); (case side1 => repeat (first | exact (Kd.C_below HR0.out HB.out) | (with_reducible refine Kd.C_alloc ?_ _) | (with_reducible refine Kd.C_drewN ?_ _) | (with_reducible refine Kd.C_drew ?_))); (case side2 => exact HC0.out); rintro e w' ⟨rfl, ⟨nd, rfl⟩⟩; refine ⟨_, rfl, ?_⟩))
                                              (try simp only [Act.put, List.setIfInBounds_toArray, List.set_cons_zero, List.set_cons_succ])
                                              go_cut [135] (fun v135 wc => ∃ (kq : Nat) (x135_40 : Bool), v135 = .bool x135_40 ∧ Aside0 (quoinlaw05_LinesNumbers.j7 kq l0 l1 a2 x7_2 (rd l1 x7_2) x135_40 = some r) ∧ Aside0 (kq ≤ kj35) ∧ Aside0 (Below w.heap.size w wc))
                                              case first =>
                                                have H := HC41.out
                                                clear HC41
                                                by_cases c43 : t295 = t297
                                                · rw [if_pos c43] at H
                                                  have c43b0 : (t295 == t297) = true := beq_iff_eq.mpr c43
                                                  have c43b1 : (t295 != t297) = false := bne_eq_false_iff_eq.mpr c43
                                                  clear c43
                                                  (first | rw [c43b0] | (simp only [i64_w, i32_w]; rw [c43b0]) | skip)
                                                  have H' := Aside0.mk H
                                                  clear H
                                                  go_wp2
                                                  go_meet
                                                  case rel => exact ⟨_, ((t296 != t298)), (by first | rfl | (simp; done) | (simp [*]; done)), H', ⟨by have := HJ3.out; have := HK2.out; have := HJ12.out; have := HJ19.out; have := HJ24.out; have := HJ29.out; have := HJ35.out; first | omega | exact Nat.le_refl _⟩, ⟨by repeat (first | (with_reducible first | exact HB.out | apply below_alloc | apply pw_below_drewN | apply below_drew1) | exact HB.out)⟩⟩
                                                · rw [if_neg c43] at H
                                                  have c43b0 : (t295 == t297) = false := beq_eq_false_iff_ne.mpr c43
                                                  have c43b1 : (t295 != t297) = true := bne_iff_ne.mpr c43
                                                  (first | rw [c43b0] | (simp only [i64_w, i32_w]; rw [c43b0]) | skip)
                                                  have H' := Aside0.mk H
                                                  clear H
                                                  go_wp2
                                                  go_meet
                                                  case rel => exact ⟨_, (true), (by first | rfl | (simp; done) | (simp [*]; done)), H', ⟨by have := HJ3.out; have := HK2.out; have := HJ12.out; have := HJ19.out; have := HJ24.out; have := HJ29.out; have := HJ35.out; first | omega | exact Nat.le_refl _⟩, ⟨by repeat (first | (with_reducible first | exact HB.out | apply below_alloc | apply pw_below_drewN | apply below_drew1) | exact HB.out)⟩⟩
                                              case rest =>
                                                clear HC41
                                                try clear c1
                                                try clear c2
                                                try clear p2
                                                try clear q2
                                                try clear hx2
                                                try clear c3
                                                try clear c4
                                                try clear c6
                                                try clear c8
                                                try clear c12
                                                try clear c13
                                                try clear c14
                                                try clear c14b0
                                                try clear c15
                                                try clear c16
                                                try clear c16b0
                                                try clear c17
                                                try clear c17b0
                                                try clear c20
                                                try clear c21
                                                try clear c21b0
                                                try clear c21b1
                                                try clear c22
                                                try clear c23
                                                try clear c24
                                                try clear c25
                                                try clear c26
                                                try clear c26b0
                                                try clear c26b1
                                                try clear c27
                                                try clear p27
                                                try clear q27
                                                try clear hx27
                                                try clear c32
                                                try clear c32b0
                                                try clear c32b1
                                                try clear c33
                                                try clear c37
                                                try clear c37b0
                                                try clear c37b1
                                                try clear c38
                                                try clear c43
                                                try clear c43b0
                                                try clear c43b1
                                                try clear hx278_0
                                                try clear p2
                                                try clear p27
                                                try clear p278
                                                try clear q2
                                                try clear q27
                                                try clear q278
                                                obtain ⟨kq, x135_40, rfl, HA, HJ40, HB⟩ := hcut
                                                cases kq with
                                                | zero => exact absurd HA.out (by simp [quoinlaw05_LinesNumbers.j7])
                                                | succ kj40 =>
                                                  have H := HA.out
                                                  clear HA
                                                  simp only [quoinlaw05_LinesNumbers.j7] at H
                                                  by_cases c44 : x135_40 = true
                                                  · subst c44
                                                    have H1 : (some false) = some r := by rw [if_pos rfl] at H; exact H
                                                    clear H
                                                    have H := H1
                                                    clear H1
                                                    obtain rfl := Option.some.inj H
                                                    go_wp2
                                                    go_ret
                                                    exact ⟨by first | rfl | (simp [errW_none, errW_some] <;> rfl) | (simp [*, errW_none, errW_some] <;> rfl), by repeat (first | (with_reducible first | exact HB.out | apply below_alloc | apply pw_below_drewN | apply below_drew1) | exact HB.out)⟩
                                                  · replace c44 := Bool.eq_false_iff.mpr c44
                                                    subst c44
                                                    have H1 : ((lines_At.f kj40 l0 (rd l1 x7_2) a2).bind fun bt299 => ((quoinref05_At.f kj40 l0 (rd l1 x7_2) a2).bind fun bt301 => (if bt299.1 = bt301.1 then (if bt299.2 = bt301.2 then ((lines_Rest.f kj40 l0 (rd l1 x7_2)).bind fun t303 => ((quoinref05_Rest.f kj40 l0 (rd l1 x7_2)).bind fun t304 => (if t303 = t304 then (quoinlaw05_LinesNumbers.l0 kj40 l0 l1 a2 (wrap64 (x7_2 + 1))) else (some false)))) else (some false)) else (some false)))) = some r := by rw [if_neg (show ¬ (false = true) by decide)] at H; exact H
                                                    clear H
                                                    have H := H1
                                                    clear H1
                                                    replace H := Option.bind_eq_some_iff.mp H
                                                    obtain ⟨⟨t299, t300⟩, A450, H⟩ := H
                                                    replace H : ((quoinref05_At.f kj40 l0 (rd l1 x7_2) a2).bind fun bt301 => (if t299 = bt301.1 then (if t300 = bt301.2 then ((lines_Rest.f kj40 l0 (rd l1 x7_2)).bind fun t303 => ((quoinref05_Rest.f kj40 l0 (rd l1 x7_2)).bind fun t304 => (if t303 = t304 then (quoinlaw05_LinesNumbers.l0 kj40 l0 l1 a2 (wrap64 (x7_2 + 1))) else (some false)))) else (some false)) else (some false))) = some r := H
                                                    have A45 := Aside0.mk A450
                                                    clear A450
                                                    replace H := Option.bind_eq_some_iff.mp H
                                                    obtain ⟨⟨t301, t302⟩, A460, H⟩ := H
                                                    replace H : (if t299 = t301 then (if t300 = t302 then ((lines_Rest.f kj40 l0 (rd l1 x7_2)).bind fun t303 => ((quoinref05_Rest.f kj40 l0 (rd l1 x7_2)).bind fun t304 => (if t303 = t304 then (quoinlaw05_LinesNumbers.l0 kj40 l0 l1 a2 (wrap64 (x7_2 + 1))) else (some false)))) else (some false)) else (some false)) = some r := H
                                                    have A46 := Aside0.mk A460
                                                    clear A460
                                                    by_cases c47 : t299 = t301
                                                    · rw [if_pos c47] at H
                                                      have c47b0 : (t299 == t301) = true := beq_iff_eq.mpr c47
                                                      have c47b1 : (t299 != t301) = false := bne_eq_false_iff_eq.mpr c47
                                                      clear c47
                                                      by_cases c48 : t300 = t302
                                                      · rw [if_pos c48] at H
                                                        have c48b0 : (t300 == t302) = true := beq_iff_eq.mpr c48
                                                        have c48b1 : (t300 != t302) = false := bne_eq_false_iff_eq.mpr c48
                                                        clear c48
                                                        replace H := Option.bind_eq_some_iff.mp H
                                                        obtain ⟨t303, A490, H⟩ := H
                                                        replace H : ((quoinref05_Rest.f kj40 l0 (rd l1 x7_2)).bind fun t304 => (if t303 = t304 then (quoinlaw05_LinesNumbers.l0 kj40 l0 l1 a2 (wrap64 (x7_2 + 1))) else (some false))) = some r := H
                                                        have A49 := Aside0.mk A490
                                                        clear A490
                                                        replace H := Option.bind_eq_some_iff.mp H
                                                        obtain ⟨t304, A500, H⟩ := H
                                                        replace H : (if t303 = t304 then (quoinlaw05_LinesNumbers.l0 kj40 l0 l1 a2 (wrap64 (x7_2 + 1))) else (some false)) = some r := H
                                                        have A50 := Aside0.mk A500
                                                        clear A500
                                                        by_cases c51 : t303 = t304
                                                        · rw [if_pos c51] at H
                                                          have c51b0 : (t303 == t304) = true := beq_iff_eq.mpr c51
                                                          have c51b1 : (t303 != t304) = false := bne_eq_false_iff_eq.mpr c51
                                                          clear c51
                                                          have H' := Aside0.mk H
                                                          clear H
                                                          go_wp2_with (first | ((with_reducible refine gate_callee (f := 18) rfl ?_); refine goesL_ (some 140) rfl rfl Tryd.func18 (by kernel_rfl) rfl #[.slice A0 l0.length c0, .int .i64 (rd l1 x7_2), .int .i64 a2] rfl (by (try simp only [List.map_toArray, List.map_cons, List.map_nil]); first | done | rfl | (simp only [List.length_drop, List.length_take]; rfl)) ?_; (with_reducible refine (lines_At.calls kj40 _ _ l0 (rd l1 x7_2) a2 t299 t300 _ ?side1 ?side2 A45.out).mono ?_); (case side1 => repeat (first | exact (Kd.C_below HR0.out HB.out) | (with_reducible refine Kd.C_alloc ?_ _) | (with_reducible refine Kd.C_drewN ?_ _) | (with_reducible refine Kd.C_drew ?_))); (case side2 => exact HC0.out); rintro e w52 ⟨rfl, hb⟩; refine ⟨_, rfl, ?_⟩; have n0_ := Aside0.mk (below_step (by repeat (first | (with_reducible first | exact HB.out | apply below_alloc | apply pw_below_drewN | apply below_drew1) | exact HB.out)) hb); clear HB; have HB := n0_; clear n0_; (try clear hb); (try clear hb2); (try clear hk); (try clear hi)) | ((with_reducible refine gate_callee (f := 26) rfl ?_); refine goesL_ (some 147) rfl rfl Tryd.func26 (by kernel_rfl) rfl #[.slice A0 l0.length c0, .int .i64 (rd l1 x7_2), .int .i64 a2] rfl (by (try simp only [List.map_toArray, List.map_cons, List.map_nil]); first | done | rfl | (simp only [List.length_drop, List.length_take]; rfl)) ?_; (with_reducible refine (quoinref05_At.calls kj40 _ _ l0 (rd l1 x7_2) a2 t301 t302 _ ?side1 ?side2 A46.out).mono ?_); (case side1 => repeat (first | exact (Kd.C_below HR0.out HB.out) | (with_reducible refine Kd.C_alloc ?_ _) | (with_reducible refine Kd.C_drewN ?_ _) | (with_reducible refine Kd.C_drew ?_))); (case side2 => exact HC0.out); rintro e w' ⟨rfl, ⟨nd, rfl⟩⟩; refine ⟨_, rfl, ?_⟩) | (go_at_call 15; (with_reducible refine (lines_Rest.calls kj40 _ _ l0 (rd l1 x7_2) t303 _ ?side1 ?side2 A49.out).mono ?_); (case side1 => repeat (first | exact (Kd.C_below HR0.out (by repeat (first | (with_reducible first | exact HB.out | apply below_alloc | apply pw_below_drewN | apply below_drew1) | exact HB.out))) | (with_reducible refine Kd.C_alloc ?_ _) | (with_reducible refine Kd.C_drewN ?_ _) | (with_reducible refine Kd.C_drew ?_))); (case side2 => exact HC0.out); rintro e w53 ⟨rfl, hb⟩; have n0_ := Aside0.mk (below_step (by repeat (first | (with_reducible first | exact HB.out | apply below_alloc | apply pw_below_drewN | apply below_drew1) | exact HB.out)) hb); clear HB; have HB := n0_; clear n0_; (try clear hb); (try clear hb2); (try clear hk); (try clear hi)) | (go_at_call 27; (with_reducible refine (quoinref05_Rest.calls kj40 _ _ l0 (rd l1 x7_2) t304 _ ?side1 ?side2 A50.out).mono ?_); (case side1 => repeat (first | exact (Kd.C_below HR0.out HB.out) | (with_reducible refine Kd.C_alloc ?_ _) | (with_reducible refine Kd.C_drewN ?_ _) | (with_reducible refine Kd.C_drew ?_))); (case side2 => exact HC0.out); rintro e w54 ⟨rfl, hb⟩; have n0_ := Aside0.mk (below_step (by repeat (first | (with_reducible first | exact HB.out | apply below_alloc | apply pw_below_drewN | apply below_drew1) | exact HB.out)) hb); clear HB; have HB := n0_; clear n0_; (try clear hb); (try clear hb2); (try clear hk); (try clear hi)))
                                                          go_roundg kj40
                                                          case measure => have := HJ3.out; have := HK2.out; have := HJ12.out; have := HJ19.out; have := HJ24.out; have := HJ29.out; have := HJ35.out; have := HJ40.out; omega
                                                          case rel => exact ⟨(wrap64 (x7_2 + 1)), (by first | rfl | (simp; done) | (simp [*]; done)), H', ⟨by have := HJ3.out; have := HK2.out; have := HJ12.out; have := HJ19.out; have := HJ24.out; have := HJ29.out; have := HJ35.out; have := HJ40.out; omega⟩, ⟨by repeat (first | (with_reducible first | exact HB.out | apply below_alloc | apply pw_below_drewN | apply below_drew1) | exact HB.out)⟩⟩
                                                        · rw [if_neg c51] at H
                                                          have c51b0 : (t303 == t304) = false := beq_eq_false_iff_ne.mpr c51
                                                          have c51b1 : (t303 != t304) = true := bne_iff_ne.mpr c51
                                                          obtain rfl := Option.some.inj H
                                                          go_wp2_with (first | ((with_reducible refine gate_callee (f := 18) rfl ?_); refine goesL_ (some 140) rfl rfl Tryd.func18 (by kernel_rfl) rfl #[.slice A0 l0.length c0, .int .i64 (rd l1 x7_2), .int .i64 a2] rfl (by (try simp only [List.map_toArray, List.map_cons, List.map_nil]); first | done | rfl | (simp only [List.length_drop, List.length_take]; rfl)) ?_; (with_reducible refine (lines_At.calls kj40 _ _ l0 (rd l1 x7_2) a2 t299 t300 _ ?side1 ?side2 A45.out).mono ?_); (case side1 => repeat (first | exact (Kd.C_below HR0.out HB.out) | (with_reducible refine Kd.C_alloc ?_ _) | (with_reducible refine Kd.C_drewN ?_ _) | (with_reducible refine Kd.C_drew ?_))); (case side2 => exact HC0.out); rintro e w55 ⟨rfl, hb⟩; refine ⟨_, rfl, ?_⟩; have n0_ := Aside0.mk (below_step (by repeat (first | (with_reducible first | exact HB.out | apply below_alloc | apply pw_below_drewN | apply below_drew1) | exact HB.out)) hb); clear HB; have HB := n0_; clear n0_; (try clear hb); (try clear hb2); (try clear hk); (try clear hi)) | ((with_reducible refine gate_callee (f := 26) rfl ?_); refine goesL_ (some 147) rfl rfl Tryd.func26 (by kernel_rfl) rfl #[.slice A0 l0.length c0, .int .i64 (rd l1 x7_2), .int .i64 a2] rfl (by (try simp only [List.map_toArray, List.map_cons, List.map_nil]); first | done | rfl | (simp only [List.length_drop, List.length_take]; rfl)) ?_; (with_reducible refine (quoinref05_At.calls kj40 _ _ l0 (rd l1 x7_2) a2 t301 t302 _ ?side1 ?side2 A46.out).mono ?_); (case side1 => repeat (first | exact (Kd.C_below HR0.out HB.out) | (with_reducible refine Kd.C_alloc ?_ _) | (with_reducible refine Kd.C_drewN ?_ _) | (with_reducible refine Kd.C_drew ?_))); (case side2 => exact HC0.out); rintro e w' ⟨rfl, ⟨nd, rfl⟩⟩; refine ⟨_, rfl, ?_⟩) | (go_at_call 15; (with_reducible refine (lines_Rest.calls kj40 _ _ l0 (rd l1 x7_2) t303 _ ?side1 ?side2 A49.out).mono ?_); (case side1 => repeat (first | exact (Kd.C_below HR0.out (by repeat (first | (with_reducible first | exact HB.out | apply below_alloc | apply pw_below_drewN | apply below_drew1) | exact HB.out))) | (with_reducible refine Kd.C_alloc ?_ _) | (with_reducible refine Kd.C_drewN ?_ _) | (with_reducible refine Kd.C_drew ?_))); (case side2 => exact HC0.out); rintro e w56 ⟨rfl, hb⟩; have n0_ := Aside0.mk (below_step (by repeat (first | (with_reducible first | exact HB.out | apply below_alloc | apply pw_below_drewN | apply below_drew1) | exact HB.out)) hb); clear HB; have HB := n0_; clear n0_; (try clear hb); (try clear hb2); (try clear hk); (try clear hi)) | (go_at_call 27; (with_reducible refine (quoinref05_Rest.calls kj40 _ _ l0 (rd l1 x7_2) t304 _ ?side1 ?side2 A50.out).mono ?_); (case side1 => repeat (first | exact (Kd.C_below HR0.out HB.out) | (with_reducible refine Kd.C_alloc ?_ _) | (with_reducible refine Kd.C_drewN ?_ _) | (with_reducible refine Kd.C_drew ?_))); (case side2 => exact HC0.out); rintro e w57 ⟨rfl, hb⟩; have n0_ := Aside0.mk (below_step (by repeat (first | (with_reducible first | exact HB.out | apply below_alloc | apply pw_below_drewN | apply below_drew1) | exact HB.out)) hb); clear HB; have HB := n0_; clear n0_; (try clear hb); (try clear hb2); (try clear hk); (try clear hi)))
                                                          go_ret
                                                          exact ⟨by first | rfl | (simp [errW_none, errW_some] <;> rfl) | (simp [*, errW_none, errW_some] <;> rfl), by repeat (first | (with_reducible first | exact HB.out | apply below_alloc | apply pw_below_drewN | apply below_drew1) | exact HB.out)⟩
                                                      · rw [if_neg c48] at H
                                                        have c48b0 : (t300 == t302) = false := beq_eq_false_iff_ne.mpr c48
                                                        have c48b1 : (t300 != t302) = true := bne_iff_ne.mpr c48
                                                        obtain rfl := Option.some.inj H
                                                        go_wp2_with (first | ((with_reducible refine gate_callee (f := 18) rfl ?_); refine goesL_ (some 140) rfl rfl Tryd.func18 (by kernel_rfl) rfl #[.slice A0 l0.length c0, .int .i64 (rd l1 x7_2), .int .i64 a2] rfl (by (try simp only [List.map_toArray, List.map_cons, List.map_nil]); first | done | rfl | (simp only [List.length_drop, List.length_take]; rfl)) ?_; (with_reducible refine (lines_At.calls kj40 _ _ l0 (rd l1 x7_2) a2 t299 t300 _ ?side1 ?side2 A45.out).mono ?_); (case side1 => repeat (first | exact (Kd.C_below HR0.out HB.out) | (with_reducible refine Kd.C_alloc ?_ _) | (with_reducible refine Kd.C_drewN ?_ _) | (with_reducible refine Kd.C_drew ?_))); (case side2 => exact HC0.out); rintro e w58 ⟨rfl, hb⟩; refine ⟨_, rfl, ?_⟩; have n0_ := Aside0.mk (below_step (by repeat (first | (with_reducible first | exact HB.out | apply below_alloc | apply pw_below_drewN | apply below_drew1) | exact HB.out)) hb); clear HB; have HB := n0_; clear n0_; (try clear hb); (try clear hb2); (try clear hk); (try clear hi)) | ((with_reducible refine gate_callee (f := 26) rfl ?_); refine goesL_ (some 147) rfl rfl Tryd.func26 (by kernel_rfl) rfl #[.slice A0 l0.length c0, .int .i64 (rd l1 x7_2), .int .i64 a2] rfl (by (try simp only [List.map_toArray, List.map_cons, List.map_nil]); first | done | rfl | (simp only [List.length_drop, List.length_take]; rfl)) ?_; (with_reducible refine (quoinref05_At.calls kj40 _ _ l0 (rd l1 x7_2) a2 t301 t302 _ ?side1 ?side2 A46.out).mono ?_); (case side1 => repeat (first | exact (Kd.C_below HR0.out HB.out) | (with_reducible refine Kd.C_alloc ?_ _) | (with_reducible refine Kd.C_drewN ?_ _) | (with_reducible refine Kd.C_drew ?_))); (case side2 => exact HC0.out); rintro e w' ⟨rfl, ⟨nd, rfl⟩⟩; refine ⟨_, rfl, ?_⟩))
                                                        go_ret
                                                        exact ⟨by first | rfl | (simp [errW_none, errW_some] <;> rfl) | (simp [*, errW_none, errW_some] <;> rfl), by repeat (first | (with_reducible first | exact HB.out | apply below_alloc | apply pw_below_drewN | apply below_drew1) | exact HB.out)⟩
                                                    · rw [if_neg c47] at H
                                                      have c47b0 : (t299 == t301) = false := beq_eq_false_iff_ne.mpr c47
                                                      have c47b1 : (t299 != t301) = true := bne_iff_ne.mpr c47
                                                      obtain rfl := Option.some.inj H
                                                      go_wp2_with (first | ((with_reducible refine gate_callee (f := 18) rfl ?_); refine goesL_ (some 140) rfl rfl Tryd.func18 (by kernel_rfl) rfl #[.slice A0 l0.length c0, .int .i64 (rd l1 x7_2), .int .i64 a2] rfl (by (try simp only [List.map_toArray, List.map_cons, List.map_nil]); first | done | rfl | (simp only [List.length_drop, List.length_take]; rfl)) ?_; (with_reducible refine (lines_At.calls kj40 _ _ l0 (rd l1 x7_2) a2 t299 t300 _ ?side1 ?side2 A45.out).mono ?_); (case side1 => repeat (first | exact (Kd.C_below HR0.out HB.out) | (with_reducible refine Kd.C_alloc ?_ _) | (with_reducible refine Kd.C_drewN ?_ _) | (with_reducible refine Kd.C_drew ?_))); (case side2 => exact HC0.out); rintro e w59 ⟨rfl, hb⟩; refine ⟨_, rfl, ?_⟩; have n0_ := Aside0.mk (below_step (by repeat (first | (with_reducible first | exact HB.out | apply below_alloc | apply pw_below_drewN | apply below_drew1) | exact HB.out)) hb); clear HB; have HB := n0_; clear n0_; (try clear hb); (try clear hb2); (try clear hk); (try clear hi)) | ((with_reducible refine gate_callee (f := 26) rfl ?_); refine goesL_ (some 147) rfl rfl Tryd.func26 (by kernel_rfl) rfl #[.slice A0 l0.length c0, .int .i64 (rd l1 x7_2), .int .i64 a2] rfl (by (try simp only [List.map_toArray, List.map_cons, List.map_nil]); first | done | rfl | (simp only [List.length_drop, List.length_take]; rfl)) ?_; (with_reducible refine (quoinref05_At.calls kj40 _ _ l0 (rd l1 x7_2) a2 t301 t302 _ ?side1 ?side2 A46.out).mono ?_); (case side1 => repeat (first | exact (Kd.C_below HR0.out HB.out) | (with_reducible refine Kd.C_alloc ?_ _) | (with_reducible refine Kd.C_drewN ?_ _) | (with_reducible refine Kd.C_drew ?_))); (case side2 => exact HC0.out); rintro e w' ⟨rfl, ⟨nd, rfl⟩⟩; refine ⟨_, rfl, ?_⟩))
                                                      go_ret
                                                      exact ⟨by first | rfl | (simp [errW_none, errW_some] <;> rfl) | (simp [*, errW_none, errW_some] <;> rfl), by repeat (first | (with_reducible first | exact HB.out | apply below_alloc | apply pw_below_drewN | apply below_drew1) | exact HB.out)⟩
                    · rw [if_neg c17] at H
                      exact absurd H (by simp)
                  · rw [if_neg c16] at H
                    exact absurd H (by simp)
                · replace c15 := Bool.eq_false_iff.mpr c15
                  subst c15
                  have H1 : (some true) = some r := by rw [if_neg (show ¬ (false = true) by decide)] at H; exact H
                  clear H
                  have H := H1
                  clear H1
                  obtain rfl := Option.some.inj H
                  go_wp2
                  go_ret
                  exact ⟨by first | rfl | (simp [errW_none, errW_some] <;> rfl) | (simp [*, errW_none, errW_some] <;> rfl), by repeat (first | (with_reducible first | exact HB.out | apply below_alloc | apply pw_below_drewN | apply below_drew1) | exact HB.out)⟩

end Go.Proofs.YtaljihphjppjgaaDoor.X
end
section
namespace Go.Proofs.YtaljihphjppjgaaDoor.Say
open Go.RowKit Go.Proofs.YtaljihphjppjgaaDoorW.PrintWords Go.Proofs.YtaljihphjppjgaaDoor.X Go.Proofs.YtaljihphjppjgaaDoor.XO
def LinesNumbers : Prop := ∀ (l0 : List Int) (l1 : List Int) (a2 : Int), (okSl 1 okU8) l0 → (okSl 8 okI64) l1 → okI64 a2 → ∃ k, quoinlaw05_LinesNumbers.f k l0 l1 a2 = some true
end Go.Proofs.YtaljihphjppjgaaDoor.Say
end
section
namespace Go.Proofs.YtaljihphjppjgaaDoor.Pure
open Go.RowKit Go.Proofs.YtaljihphjppjgaaDoorW.PrintWords Go.Proofs.YtaljihphjppjgaaDoorW.PrintMore Go.Proofs.YtaljihphjppjgaaDoor.X Go.Proofs.YtaljihphjppjgaaDoor.XL Go.Proofs.YtaljihphjppjgaaDoor.XO Go.Proofs.YtaljihphjppjgaaDoor.LN
theorem alive_ev : Ev (fun k => quoinlaw05_alive.f k) true := Ev.of quoinlaw05_alive.mono (k := 40) (by decide +kernel)
section
variable {t asks : List Int} {col : Int} (hu : u8s t = true) (hl : t.length ≤ 140737488355328)
include hu hl
theorem Num_j7 {i a : Int} (ha : a ≤ 9223372036854775807) (h : Ev (fun k => quoinlaw05_LinesNumbers.l0 k t asks col (wrap64 (i + 1))) true) : Ev (fun k => quoinlaw05_LinesNumbers.j7 k t asks col i a false) true :=
  Ev.step (f := fun k => (lines_At.f k t a col).bind fun bt299 => ((quoinref05_At.f k t a col).bind fun bt301 => (if bt299.1 = bt301.1 then (if bt299.2 = bt301.2 then ((lines_Rest.f k t a).bind fun t303 => ((quoinref05_Rest.f k t a).bind fun t304 => (if t303 = t304 then (quoinlaw05_LinesNumbers.l0 k t asks col (wrap64 (i + 1))) else (some false)))) else (some false)) else (some false)))) (fun _ => rfl) (Ev.bind (At_ev hu hl a col ha) (Ev.bind (refAt_ev hl a col ha) (Ev.pos rfl (Ev.pos rfl (Ev.bind (Rest_ev hu hl a) (Ev.bind (refRest_ev hl a) (Ev.pos rfl h)))))))
theorem Num_j6 {i a : Int} (ha : a ≤ 9223372036854775807) (h : Ev (fun k => quoinlaw05_LinesNumbers.j7 k t asks col i a false) true) : Ev (fun k => quoinlaw05_LinesNumbers.j6 k t asks col i a false) true :=
  Ev.step (f := fun k => (lines_First.f k t a).bind fun bt295 => ((quoinref05_First.f k t a).bind fun bt297 => (if bt295.1 = bt297.1 then (quoinlaw05_LinesNumbers.j7 k t asks col i a (bt295.2 != bt297.2)) else (quoinlaw05_LinesNumbers.j7 k t asks col i a true)))) (fun _ => rfl) (Ev.bind (First_ev hu hl a ha) (Ev.bind (refFirst_ev hl a ha) (Ev.pos rfl (by rw [bne_self_eq_false]; exact h))))
omit hu in
theorem Num_j5 {i a : Int} (h : Ev (fun k => quoinlaw05_LinesNumbers.j6 k t asks col i a false) true) : Ev (fun k => quoinlaw05_LinesNumbers.j5 k t asks col i a false) true :=
  Ev.step (f := fun k => (lines_Column.f k t a).bind fun bt291 => ((quoinref05_Column.f k t a).bind fun bt293 => (if bt291.1 = bt293.1 then (quoinlaw05_LinesNumbers.j6 k t asks col i a (bt291.2 != bt293.2)) else (quoinlaw05_LinesNumbers.j6 k t asks col i a true)))) (fun _ => rfl) (Ev.bind (Column_ev hl a) (Ev.bind (refColumn_ev hl a) (Ev.pos rfl (by rw [bne_self_eq_false]; exact h))))
theorem Num_j4 {i a : Int} (h : Ev (fun k => quoinlaw05_LinesNumbers.j5 k t asks col i a false) true) : Ev (fun k => quoinlaw05_LinesNumbers.j4 k t asks col i a false) true := by
  have o1 : lines_Of.f t a = some (ofR t a) := Of_eq hu a
  exact Ev.step (f := fun k => (lines_Of.f t a).bind fun bt287 => ((quoinref05_Of.f k t a).bind fun bt289 => (if bt287.1 = bt289.1 then (quoinlaw05_LinesNumbers.j5 k t asks col i a (bt287.2 != bt289.2)) else (quoinlaw05_LinesNumbers.j5 k t asks col i a true)))) (fun _ => rfl) (Ev.cbind o1 (Ev.bind (refOf_ev hl a) (Ev.pos rfl (by rw [bne_self_eq_false]; exact h))))
theorem Num_j3 {i a : Int} (ha : a ≤ 9223372036854775807) (h : Ev (fun k => quoinlaw05_LinesNumbers.j4 k t asks col i a false) true) : Ev (fun k => quoinlaw05_LinesNumbers.j3 k t asks col i a false) true :=
  Ev.step (f := fun k => (lines_End.f k t a).bind fun bt283 => ((quoinref05_End.f k t a).bind fun bt285 => (if bt283.1 = bt285.1 then (quoinlaw05_LinesNumbers.j4 k t asks col i a (bt283.2 != bt285.2)) else (quoinlaw05_LinesNumbers.j4 k t asks col i a true)))) (fun _ => rfl) (Ev.bind (End_ev hu hl a ha) (Ev.bind (refEnd_ev hl a ha) (Ev.pos rfl (by rw [bne_self_eq_false]; exact h))))
theorem Num_j2 {i : Nat} (hi : i < asks.length) (ha : rd asks (i : Int) ≤ 9223372036854775807) (h : Ev (fun k => quoinlaw05_LinesNumbers.j3 k t asks col (i : Int) (rd asks (i : Int)) false) true) : Ev (fun k => quoinlaw05_LinesNumbers.j2 k t asks col (i : Int) true) true :=
  Ev.step (f := fun k => if 0 ≤ (i : Int) then (if (i : Int) < (asks.length : Int) then ((lines_Start.f k t (rd asks (i : Int))).bind fun bt279 => ((quoinref05_Start.f k t (rd asks (i : Int))).bind fun bt281 => (if bt279.1 = bt281.1 then (quoinlaw05_LinesNumbers.j3 k t asks col (i : Int) (rd asks (i : Int)) (bt279.2 != bt281.2)) else (quoinlaw05_LinesNumbers.j3 k t asks col (i : Int) (rd asks (i : Int)) true)))) else (none)) else (none)) (fun _ => rfl) (Ev.pos (by omega) (Ev.pos (by omega) (Ev.bind (Start_ev hu hl _ ha) (Ev.bind (refStart_ev hl _ ha) (Ev.pos rfl (by rw [bne_self_eq_false]; exact h))))))
theorem Num_l0 (hA : ∀ x ∈ asks, okI64 x) : ∀ (d i : Nat), i + d = 200 → i ≤ asks.length → Ev (fun k => quoinlaw05_LinesNumbers.l0 k t asks col (i : Int)) true := by
  have stop : ∀ i : Int, Ev (fun k => quoinlaw05_LinesNumbers.j2 k t asks col i false) true := fun i => Ev.step (f := fun _ => some true) (fun _ => rfl) (Ev.now _)
  intro d
  induction d with
  | zero =>
    intro i hi hia
    refine Ev.step (f := fun k => if (i : Int) < (asks.length : Int) then (quoinlaw05_LinesNumbers.j2 k t asks col (i : Int) (decide ((i : Int) < 200))) else (quoinlaw05_LinesNumbers.j2 k t asks col (i : Int) false)) (fun _ => rfl) ?_
    rw [decide_eq_false (by omega)]
    exact Ev.ite (fun _ => stop _) (fun _ => stop _)
  | succ d ih =>
    intro i hi hia
    refine Ev.step (f := fun k => if (i : Int) < (asks.length : Int) then (quoinlaw05_LinesNumbers.j2 k t asks col (i : Int) (decide ((i : Int) < 200))) else (quoinlaw05_LinesNumbers.j2 k t asks col (i : Int) false)) (fun _ => rfl) ?_
    rw [decide_eq_true (show (i : Int) < 200 by omega)]
    refine Ev.ite (fun h => ?_) (fun _ => stop _)
    have hm : rd asks (i : Int) ∈ asks := by
      unfold rd
      rw [Int.toNat_natCast, List.getD_eq_getElem?_getD, List.getElem?_eq_getElem (by omega)]
      exact List.getElem_mem _
    have ha : rd asks (i : Int) ≤ 9223372036854775807 := by have := (hA _ hm).2; omega
    have hw : wrap64 ((i : Int) + 1) = ((i + 1 : Nat) : Int) := by rw [wrap64_id (by omega) (by omega)]; omega
    have h1 := ih (i + 1) (by omega) (by omega)
    rw [← hw] at h1
    clear hw
    exact Num_j2 hu hl (by omega) ha (Num_j3 hu hl ha (Num_j4 hu hl (Num_j5 hl (Num_j6 hu hl ha (Num_j7 hu hl ha h1)))))
end
theorem LinesNumbers : Say.LinesNumbers := by
  intro t asks col ht hA hc
  have hu : u8s t = true := u8s_ok ht
  have hl : t.length ≤ 140737488355328 := by have h1 : t.length * 1 ≤ 140737488351232 := ht.1; omega
  refine Ev.rounds (g := fun k => quoinlaw05_LinesNumbers.f k t asks col) ?_
  refine Ev.bind alive_ev (Ev.pos rfl (Ev.cbind (Count_eq hu hl) (Ev.bind (refCount_ev hl) ?_)))
  rw [bne_self_eq_false]
  exact Ev.step (f := fun k => quoinlaw05_LinesNumbers.l0 k t asks col 0) (fun _ => rfl) (Num_l0 hu hl hA.2 200 0 rfl (Nat.zero_le _))
end Go.Proofs.YtaljihphjppjgaaDoor.Pure
end
