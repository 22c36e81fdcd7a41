-- Written by wip/xprint.py over the kit's print.py: the Lean function of each Go function, and the proof that the Go text comes to it.
import Derived.Test.YtofkcdnkbjpmmaaX0
import Derived.Test.YtofkcdnkbjpmmaaX10
import Derived.Test.YtofkcdnkbjpmmaaX11
import Derived.Test.YtofkcdnkbjpmmaaX12
import Derived.Test.YtofkcdnkbjpmmaaX17
namespace Go.Proofs.Ytofkcdnkbjpmmaa.X
open Go.RowKit Go.Proofs.YtofkcdnkbjpmmaaW.PrintWords Go.Proofs.YtofkcdnkbjpmmaaW.PrintLast Go.Proofs.YtofkcdnkbjpmmaaW.PrintMore
attribute [local go_sem] max2_int min2_int max_two min_two max_three min_three max_four min_four   -- for this text's walks alone
set_option linter.unusedVariables false
set_option linter.unusedSimpArgs false

/-! ### step_walk_lines: function 30 -/
mutual
def step_walk_lines.j3 : Nat → ByteArray → Int → List Int → Int → Int → Int → Bool → Int → Int → Int → Int → Option (Int × Int × Int × Int × Int × Bool)
 | 0, _, _, _, _, _, _, _, _, _, _, _ => none
 | k + 1, x1, x8, x233000, x233001, x233002, x233003, x233004, x233005, x233006, x233007, x233008 => if x8 < 0 then (step_walk_lines.j4 k x1 x8 true x233000 x233001 x233002 x233003 x233004 x233005 x233006 x233007 x233008) else (step_walk_lines.j4 k x1 x8 (decide (x8 > x233006)) x233000 x233001 x233002 x233003 x233004 x233005 x233006 x233007 x233008)
def step_walk_lines.j4 : Nat → ByteArray → Int → Bool → List Int → Int → Int → Int → Bool → Int → Int → Int → Int → Option (Int × Int × Int × Int × Int × Bool)
 | 0, _, _, _, _, _, _, _, _, _, _, _, _ => none
 | k + 1, x1, x8, x61, x233000, x233001, x233002, x233003, x233004, x233005, x233006, x233007, x233008 => if x61 = true then ((step_walk_fails.f x233000 x233001 x233002 x233003 x233004 x233005 x233006 x233007 x233008).bind fun bt234 => (some (bt234.1, bt234.2.1, bt234.2.2.1, bt234.2.2.2.1, bt234.2.2.2.2.1, bt234.2.2.2.2.2))) else (if x1.toList = ([106] : List UInt8) then (step_walk_lines.j5 k x8 true x233000 x233001 x233002 x233003 x233004 x233005 x233006 x233007 x233008) else (step_walk_lines.j5 k x8 (x1.toList == ([107] : List UInt8)) x233000 x233001 x233002 x233003 x233004 x233005 x233006 x233007 x233008))
def step_walk_lines.j5 : Nat → Int → Bool → List Int → Int → Int → Int → Bool → Int → Int → Int → Int → Option (Int × Int × Int × Int × Int × Bool)
 | 0, _, _, _, _, _, _, _, _, _, _, _ => none
 | k + 1, x8, x73, x233000, x233001, x233002, x233003, x233004, x233005, x233006, x233007, x233008 => if x73 = true then ((lines_At.f k x233000 x8 x233002).bind fun bt240 => (some (x233001, bt240.1, 3, x233002, 0, true))) else ((lines_First.f k x233000 x8).bind fun bt242 => ((step_walk_to.f k x233000 x233001 x233002 x233003 x233004 x233005 x233006 x233007 x233008 bt242.1 3).bind fun bt244 => (some (bt244.1, bt244.2.1, bt244.2.2.1, bt244.2.2.2.1, bt244.2.2.2.2.1, bt244.2.2.2.2.2))))
def step_walk_lines.j0 : Nat → ByteArray → Int → ByteArray → Bool → List Int → Int → Int → Int → Bool → Int → Int → Int → Int → Option (Int × Int × Int × Int × Int × Bool)
 | 0, _, _, _, _, _, _, _, _, _, _, _, _, _ => none
 | k + 1, x1, x8, x15, x17, x233000, x233001, x233002, x233003, x233004, x233005, x233006, x233007, x233008 => if x17 = true then (step_walk_lines.j3 k x1 (wrap64 (x8 + x233003)) x233000 x233001 x233002 x233003 x233004 x233005 x233006 x233007 x233008) else (if x15.toList = ([107] : List UInt8) then (step_walk_lines.j1 k x1 x8 x15 (x15.toList == ([107] : List UInt8)) x233000 x233001 x233002 x233003 x233004 x233005 x233006 x233007 x233008) else (step_walk_lines.j1 k x1 x8 x15 (x15.toList == ([45] : List UInt8)) x233000 x233001 x233002 x233003 x233004 x233005 x233006 x233007 x233008))
def step_walk_lines.j1 : Nat → ByteArray → Int → ByteArray → Bool → List Int → Int → Int → Int → Bool → Int → Int → Int → Int → Option (Int × Int × Int × Int × Int × Bool)
 | 0, _, _, _, _, _, _, _, _, _, _, _, _, _ => none
 | k + 1, x1, x8, x15, x25, x233000, x233001, x233002, x233003, x233004, x233005, x233006, x233007, x233008 => if x25 = true then (step_walk_lines.j3 k x1 (wrap64 (x8 - x233003)) x233000 x233001 x233002 x233003 x233004 x233005 x233006 x233007 x233008) else (if x15.toList = ([95] : List UInt8) then (step_walk_lines.j3 k x1 (wrap64 (x8 + (wrap64 (x233003 - 1)))) x233000 x233001 x233002 x233003 x233004 x233005 x233006 x233007 x233008) else (if x15.toList = ([71] : List UInt8) then (step_walk_lines.j2 k x1 (x15.toList == ([71] : List UInt8)) x233000 x233001 x233002 x233003 x233004 x233005 x233006 x233007 x233008) else (step_walk_lines.j2 k x1 (x15.toList == ([103, 103] : List UInt8)) x233000 x233001 x233002 x233003 x233004 x233005 x233006 x233007 x233008)))
def step_walk_lines.j2 : Nat → ByteArray → Bool → List Int → Int → Int → Int → Bool → Int → Int → Int → Int → Option (Int × Int × Int × Int × Int × Bool)
 | 0, _, _, _, _, _, _, _, _, _, _, _ => none
 | k + 1, x1, x39, x233000, x233001, x233002, x233003, x233004, x233005, x233006, x233007, x233008 => if x39 = true then (if x1.toList = ([71] : List UInt8) then (if x233004 = true then (step_walk_lines.j3 k x1 (wrap64 (x233003 - 1)) x233000 x233001 x233002 x233003 x233004 x233005 x233006 x233007 x233008) else (step_walk_lines.j3 k x1 x233006 x233000 x233001 x233002 x233003 x233004 x233005 x233006 x233007 x233008)) else (step_walk_lines.j3 k x1 (wrap64 (x233003 - 1)) x233000 x233001 x233002 x233003 x233004 x233005 x233006 x233007 x233008)) else (some (0, 0, 0, 0, 0, false))
end
def step_walk_lines.f (k : Nat) (l0_0 : List Int) (a0_1 : Int) (a0_2 : Int) (a0_3 : Int) (a0_4 : Bool) (a0_5 : Int) (a0_6 : Int) (a0_7 : Int) (a0_8 : Int) (a1 : ByteArray) : Option (Int × Int × Int × Int × Int × Bool) := if a1.toList = ([106] : List UInt8) then (step_walk_lines.j0 k a1 a0_5 a1 (a1.toList == ([106] : List UInt8)) l0_0 a0_1 a0_2 a0_3 a0_4 a0_5 a0_6 a0_7 a0_8) else (if a1.toList = ([43] : List UInt8) then (step_walk_lines.j0 k a1 a0_5 a1 (a1.toList == ([43] : List UInt8)) l0_0 a0_1 a0_2 a0_3 a0_4 a0_5 a0_6 a0_7 a0_8) else (step_walk_lines.j0 k a1 a0_5 a1 (a1.toList == ([13] : List UInt8)) l0_0 a0_1 a0_2 a0_3 a0_4 a0_5 a0_6 a0_7 a0_8))
theorem step_walk_lines.mono_l : ∀ k, (∀ y0 y1 y2 y3 y4 y5 y6 y7 y8 y9 y10, LeO (step_walk_lines.j3 k y0 y1 y2 y3 y4 y5 y6 y7 y8 y9 y10) (step_walk_lines.j3 (k + 1) y0 y1 y2 y3 y4 y5 y6 y7 y8 y9 y10)) ∧ (∀ y0 y1 y2 y3 y4 y5 y6 y7 y8 y9 y10 y11, LeO (step_walk_lines.j4 k y0 y1 y2 y3 y4 y5 y6 y7 y8 y9 y10 y11) (step_walk_lines.j4 (k + 1) y0 y1 y2 y3 y4 y5 y6 y7 y8 y9 y10 y11)) ∧ (∀ y0 y1 y2 y3 y4 y5 y6 y7 y8 y9 y10, LeO (step_walk_lines.j5 k y0 y1 y2 y3 y4 y5 y6 y7 y8 y9 y10) (step_walk_lines.j5 (k + 1) y0 y1 y2 y3 y4 y5 y6 y7 y8 y9 y10)) ∧ (∀ y0 y1 y2 y3 y4 y5 y6 y7 y8 y9 y10 y11 y12, LeO (step_walk_lines.j0 k y0 y1 y2 y3 y4 y5 y6 y7 y8 y9 y10 y11 y12) (step_walk_lines.j0 (k + 1) y0 y1 y2 y3 y4 y5 y6 y7 y8 y9 y10 y11 y12)) ∧ (∀ y0 y1 y2 y3 y4 y5 y6 y7 y8 y9 y10 y11 y12, LeO (step_walk_lines.j1 k y0 y1 y2 y3 y4 y5 y6 y7 y8 y9 y10 y11 y12) (step_walk_lines.j1 (k + 1) y0 y1 y2 y3 y4 y5 y6 y7 y8 y9 y10 y11 y12)) ∧ (∀ y0 y1 y2 y3 y4 y5 y6 y7 y8 y9 y10, LeO (step_walk_lines.j2 k y0 y1 y2 y3 y4 y5 y6 y7 y8 y9 y10) (step_walk_lines.j2 (k + 1) y0 y1 y2 y3 y4 y5 y6 y7 y8 y9 y10))
 | 0 => ⟨fun _ _ _ _ _ _ _ _ _ _ _ r h => by simp [step_walk_lines.j3] at h, fun _ _ _ _ _ _ _ _ _ _ _ _ r h => by simp [step_walk_lines.j4] at h, fun _ _ _ _ _ _ _ _ _ _ _ r h => by simp [step_walk_lines.j5] at h, fun _ _ _ _ _ _ _ _ _ _ _ _ _ r h => by simp [step_walk_lines.j0] at h, fun _ _ _ _ _ _ _ _ _ _ _ _ _ r h => by simp [step_walk_lines.j1] at h, fun _ _ _ _ _ _ _ _ _ _ _ r h => by simp [step_walk_lines.j2] at h⟩
 | k + 1 => by
  obtain ⟨ih0, ih1, ih2, ih3, ih4, ih5⟩ := step_walk_lines.mono_l k
  refine ⟨?_, ?_, ?_, ?_, ?_, ?_⟩
  ·intro y0 y1 y2 y3 y4 y5 y6 y7 y8 y9 y10
   unfold step_walk_lines.j3
   repeat' first
   | (with_reducible exact ih0 _ _ _ _ _ _ _ _ _ _ _)
   | (with_reducible exact ih1 _ _ _ _ _ _ _ _ _ _ _ _)
   | (with_reducible exact ih2 _ _ _ _ _ _ _ _ _ _ _)
   | (with_reducible exact ih3 _ _ _ _ _ _ _ _ _ _ _ _ _)
   | (with_reducible exact ih4 _ _ _ _ _ _ _ _ _ _ _ _ _)
   | (with_reducible exact ih5 _ _ _ _ _ _ _ _ _ _ _)
   | (with_reducible exact lines_At.mono _ _ _ _)
   | (with_reducible exact lines_First.mono _ _ _)
   | (with_reducible exact step_walk_to.mono _ _ _ _ _ _ _ _ _ _ _ _)
   | (with_reducible exact LeO.refl _)
   | (with_reducible exact LeO.none _)
   | (with_reducible refine LeO.ite ?_ ?_)
   | (with_reducible refine LeO.bind ?_ (fun _ => ?_))
   | exact ih0 _ _ _ _ _ _ _ _ _ _ _
   | exact ih1 _ _ _ _ _ _ _ _ _ _ _ _
   | exact ih2 _ _ _ _ _ _ _ _ _ _ _
   | exact ih3 _ _ _ _ _ _ _ _ _ _ _ _ _
   | exact ih4 _ _ _ _ _ _ _ _ _ _ _ _ _
   | exact ih5 _ _ _ _ _ _ _ _ _ _ _
   | exact lines_At.mono _ _ _ _
   | exact lines_First.mono _ _ _
   | exact step_walk_to.mono _ _ _ _ _ _ _ _ _ _ _ _
   | exact LeO.none _
   | refine LeO.ite ?_ ?_
   | refine LeO.bind ?_ (fun _ => ?_)
  ·intro y0 y1 y2 y3 y4 y5 y6 y7 y8 y9 y10 y11
   unfold step_walk_lines.j4
   repeat' first
   | (with_reducible exact ih0 _ _ _ _ _ _ _ _ _ _ _)
   | (with_reducible exact ih1 _ _ _ _ _ _ _ _ _ _ _ _)
   | (with_reducible exact ih2 _ _ _ _ _ _ _ _ _ _ _)
   | (with_reducible exact ih3 _ _ _ _ _ _ _ _ _ _ _ _ _)
   | (with_reducible exact ih4 _ _ _ _ _ _ _ _ _ _ _ _ _)
   | (with_reducible exact ih5 _ _ _ _ _ _ _ _ _ _ _)
   | (with_reducible exact lines_At.mono _ _ _ _)
   | (with_reducible exact lines_First.mono _ _ _)
   | (with_reducible exact step_walk_to.mono _ _ _ _ _ _ _ _ _ _ _ _)
   | (with_reducible exact LeO.refl _)
   | (with_reducible exact LeO.none _)
   | (with_reducible refine LeO.ite ?_ ?_)
   | (with_reducible refine LeO.bind ?_ (fun _ => ?_))
   | exact ih0 _ _ _ _ _ _ _ _ _ _ _
   | exact ih1 _ _ _ _ _ _ _ _ _ _ _ _
   | exact ih2 _ _ _ _ _ _ _ _ _ _ _
   | exact ih3 _ _ _ _ _ _ _ _ _ _ _ _ _
   | exact ih4 _ _ _ _ _ _ _ _ _ _ _ _ _
   | exact ih5 _ _ _ _ _ _ _ _ _ _ _
   | exact lines_At.mono _ _ _ _
   | exact lines_First.mono _ _ _
   | exact step_walk_to.mono _ _ _ _ _ _ _ _ _ _ _ _
   | exact LeO.none _
   | refine LeO.ite ?_ ?_
   | refine LeO.bind ?_ (fun _ => ?_)
  ·intro y0 y1 y2 y3 y4 y5 y6 y7 y8 y9 y10
   unfold step_walk_lines.j5
   repeat' first
   | (with_reducible exact ih0 _ _ _ _ _ _ _ _ _ _ _)
   | (with_reducible exact ih1 _ _ _ _ _ _ _ _ _ _ _ _)
   | (with_reducible exact ih2 _ _ _ _ _ _ _ _ _ _ _)
   | (with_reducible exact ih3 _ _ _ _ _ _ _ _ _ _ _ _ _)
   | (with_reducible exact ih4 _ _ _ _ _ _ _ _ _ _ _ _ _)
   | (with_reducible exact ih5 _ _ _ _ _ _ _ _ _ _ _)
   | (with_reducible exact lines_At.mono _ _ _ _)
   | (with_reducible exact lines_First.mono _ _ _)
   | (with_reducible exact step_walk_to.mono _ _ _ _ _ _ _ _ _ _ _ _)
   | (with_reducible exact LeO.refl _)
   | (with_reducible exact LeO.none _)
   | (with_reducible refine LeO.ite ?_ ?_)
   | (with_reducible refine LeO.bind ?_ (fun _ => ?_))
   | exact ih0 _ _ _ _ _ _ _ _ _ _ _
   | exact ih1 _ _ _ _ _ _ _ _ _ _ _ _
   | exact ih2 _ _ _ _ _ _ _ _ _ _ _
   | exact ih3 _ _ _ _ _ _ _ _ _ _ _ _ _
   | exact ih4 _ _ _ _ _ _ _ _ _ _ _ _ _
   | exact ih5 _ _ _ _ _ _ _ _ _ _ _
   | exact lines_At.mono _ _ _ _
   | exact lines_First.mono _ _ _
   | exact step_walk_to.mono _ _ _ _ _ _ _ _ _ _ _ _
   | exact LeO.none _
   | refine LeO.ite ?_ ?_
   | refine LeO.bind ?_ (fun _ => ?_)
  ·intro y0 y1 y2 y3 y4 y5 y6 y7 y8 y9 y10 y11 y12
   unfold step_walk_lines.j0
   repeat' first
   | (with_reducible exact ih0 _ _ _ _ _ _ _ _ _ _ _)
   | (with_reducible exact ih1 _ _ _ _ _ _ _ _ _ _ _ _)
   | (with_reducible exact ih2 _ _ _ _ _ _ _ _ _ _ _)
   | (with_reducible exact ih3 _ _ _ _ _ _ _ _ _ _ _ _ _)
   | (with_reducible exact ih4 _ _ _ _ _ _ _ _ _ _ _ _ _)
   | (with_reducible exact ih5 _ _ _ _ _ _ _ _ _ _ _)
   | (with_reducible exact lines_At.mono _ _ _ _)
   | (with_reducible exact lines_First.mono _ _ _)
   | (with_reducible exact step_walk_to.mono _ _ _ _ _ _ _ _ _ _ _ _)
   | (with_reducible exact LeO.refl _)
   | (with_reducible exact LeO.none _)
   | (with_reducible refine LeO.ite ?_ ?_)
   | (with_reducible refine LeO.bind ?_ (fun _ => ?_))
   | exact ih0 _ _ _ _ _ _ _ _ _ _ _
   | exact ih1 _ _ _ _ _ _ _ _ _ _ _ _
   | exact ih2 _ _ _ _ _ _ _ _ _ _ _
   | exact ih3 _ _ _ _ _ _ _ _ _ _ _ _ _
   | exact ih4 _ _ _ _ _ _ _ _ _ _ _ _ _
   | exact ih5 _ _ _ _ _ _ _ _ _ _ _
   | exact lines_At.mono _ _ _ _
   | exact lines_First.mono _ _ _
   | exact step_walk_to.mono _ _ _ _ _ _ _ _ _ _ _ _
   | exact LeO.none _
   | refine LeO.ite ?_ ?_
   | refine LeO.bind ?_ (fun _ => ?_)
  ·intro y0 y1 y2 y3 y4 y5 y6 y7 y8 y9 y10 y11 y12
   unfold step_walk_lines.j1
   repeat' first
   | (with_reducible exact ih0 _ _ _ _ _ _ _ _ _ _ _)
   | (with_reducible exact ih1 _ _ _ _ _ _ _ _ _ _ _ _)
   | (with_reducible exact ih2 _ _ _ _ _ _ _ _ _ _ _)
   | (with_reducible exact ih3 _ _ _ _ _ _ _ _ _ _ _ _ _)
   | (with_reducible exact ih4 _ _ _ _ _ _ _ _ _ _ _ _ _)
   | (with_reducible exact ih5 _ _ _ _ _ _ _ _ _ _ _)
   | (with_reducible exact lines_At.mono _ _ _ _)
   | (with_reducible exact lines_First.mono _ _ _)
   | (with_reducible exact step_walk_to.mono _ _ _ _ _ _ _ _ _ _ _ _)
   | (with_reducible exact LeO.refl _)
   | (with_reducible exact LeO.none _)
   | (with_reducible refine LeO.ite ?_ ?_)
   | (with_reducible refine LeO.bind ?_ (fun _ => ?_))
   | exact ih0 _ _ _ _ _ _ _ _ _ _ _
   | exact ih1 _ _ _ _ _ _ _ _ _ _ _ _
   | exact ih2 _ _ _ _ _ _ _ _ _ _ _
   | exact ih3 _ _ _ _ _ _ _ _ _ _ _ _ _
   | exact ih4 _ _ _ _ _ _ _ _ _ _ _ _ _
   | exact ih5 _ _ _ _ _ _ _ _ _ _ _
   | exact lines_At.mono _ _ _ _
   | exact lines_First.mono _ _ _
   | exact step_walk_to.mono _ _ _ _ _ _ _ _ _ _ _ _
   | exact LeO.none _
   | refine LeO.ite ?_ ?_
   | refine LeO.bind ?_ (fun _ => ?_)
  ·intro y0 y1 y2 y3 y4 y5 y6 y7 y8 y9 y10
   unfold step_walk_lines.j2
   repeat' first
   | (with_reducible exact ih0 _ _ _ _ _ _ _ _ _ _ _)
   | (with_reducible exact ih1 _ _ _ _ _ _ _ _ _ _ _ _)
   | (with_reducible exact ih2 _ _ _ _ _ _ _ _ _ _ _)
   | (with_reducible exact ih3 _ _ _ _ _ _ _ _ _ _ _ _ _)
   | (with_reducible exact ih4 _ _ _ _ _ _ _ _ _ _ _ _ _)
   | (with_reducible exact ih5 _ _ _ _ _ _ _ _ _ _ _)
   | (with_reducible exact lines_At.mono _ _ _ _)
   | (with_reducible exact lines_First.mono _ _ _)
   | (with_reducible exact step_walk_to.mono _ _ _ _ _ _ _ _ _ _ _ _)
   | (with_reducible exact LeO.refl _)
   | (with_reducible exact LeO.none _)
   | (with_reducible refine LeO.ite ?_ ?_)
   | (with_reducible refine LeO.bind ?_ (fun _ => ?_))
   | exact ih0 _ _ _ _ _ _ _ _ _ _ _
   | exact ih1 _ _ _ _ _ _ _ _ _ _ _ _
   | exact ih2 _ _ _ _ _ _ _ _ _ _ _
   | exact ih3 _ _ _ _ _ _ _ _ _ _ _ _ _
   | exact ih4 _ _ _ _ _ _ _ _ _ _ _ _ _
   | exact ih5 _ _ _ _ _ _ _ _ _ _ _
   | exact lines_At.mono _ _ _ _
   | exact lines_First.mono _ _ _
   | exact step_walk_to.mono _ _ _ _ _ _ _ _ _ _ _ _
   | exact LeO.none _
   | refine LeO.ite ?_ ?_
   | refine LeO.bind ?_ (fun _ => ?_)
theorem step_walk_lines.mono : ∀ a0 a1 a2 a3 a4 a5 a6 a7 a8 a9 k, LeO (step_walk_lines.f k a0 a1 a2 a3 a4 a5 a6 a7 a8 a9) (step_walk_lines.f (k + 1) a0 a1 a2 a3 a4 a5 a6 a7 a8 a9) := by
 intro a0 a1 a2 a3 a4 a5 a6 a7 a8 a9 k
 obtain ⟨ih0, ih1, ih2, ih3, ih4, ih5⟩ := step_walk_lines.mono_l k
 unfold step_walk_lines.f
 repeat' first
   | (with_reducible exact ih0 _ _ _ _ _ _ _ _ _ _ _)
   | (with_reducible exact ih1 _ _ _ _ _ _ _ _ _ _ _ _)
   | (with_reducible exact ih2 _ _ _ _ _ _ _ _ _ _ _)
   | (with_reducible exact ih3 _ _ _ _ _ _ _ _ _ _ _ _ _)
   | (with_reducible exact ih4 _ _ _ _ _ _ _ _ _ _ _ _ _)
   | (with_reducible exact ih5 _ _ _ _ _ _ _ _ _ _ _)
   | (with_reducible exact lines_At.mono _ _ _ _)
   | (with_reducible exact lines_First.mono _ _ _)
   | (with_reducible exact step_walk_to.mono _ _ _ _ _ _ _ _ _ _ _ _)
   | (with_reducible exact LeO.refl _)
   | (with_reducible exact LeO.none _)
   | (with_reducible refine LeO.ite ?_ ?_)
   | (with_reducible refine LeO.bind ?_ (fun _ => ?_))
   | exact ih0 _ _ _ _ _ _ _ _ _ _ _
   | exact ih1 _ _ _ _ _ _ _ _ _ _ _ _
   | exact ih2 _ _ _ _ _ _ _ _ _ _ _
   | exact ih3 _ _ _ _ _ _ _ _ _ _ _ _ _
   | exact ih4 _ _ _ _ _ _ _ _ _ _ _ _ _
   | exact ih5 _ _ _ _ _ _ _ _ _ _ _
   | exact lines_At.mono _ _ _ _
   | exact lines_First.mono _ _ _
   | exact step_walk_to.mono _ _ _ _ _ _ _ _ _ _ _ _
   | exact LeO.none _
   | refine LeO.ite ?_ ?_
   | refine LeO.bind ?_ (fun _ => ?_)
def step_walk_lines.T22 : Bool × List (List Nat × List Nat) := (true, [([], []), ([0], [0]), ([], []), ([1, 2], [1, 2]), ([], []), ([4], [4]), ([3, 0, 1, 2, 3], [3]), ([5, 6, 0, 1, 2, 3, 4, 5, 6], [5]), ([7, 0, 1, 2, 3, 4, 5, 6, 7], []), ([8, 0, 1, 2, 3, 4, 5, 6, 7, 8], [])])
def step_walk_lines.B22 : List Nat := [0, 1, 0, 7, 0, 16, 15, 127, 255, 511]
theorem step_walk_lines.tab22 : rtab .any (opsOf Try.f30 22) = step_walk_lines.T22 := by kernel_rfl
theorem step_walk_lines.bits22 : waitsOk step_walk_lines.T22.2 step_walk_lines.B22 = true := by kernel_rfl
set_option maxHeartbeats 8000000 in
set_option maxRecDepth 100000 in
theorem step_walk_lines.calls (k : Nat) (A0_0 : Option Addr) (c0_0 : Nat) (l0_0 : List Int) (a0_1 : Int) (a0_2 : Int) (a0_3 : Int) (a0_4 : Bool) (a0_5 : Int) (a0_6 : Int) (a0_7 : Int) (a0_8 : Int) (a1 : ByteArray) (r1 : Int) (r2 : Int) (r3 : Int) (r4 : Int) (r5 : Int) (r6 : Bool) (w : World) (hr0_0 : Kd.C (Kd.int .u8) w A0_0 l0_0.length l0_0) (hc0_0 : l0_0.length ≤ c0_0) (h : step_walk_lines.f k l0_0 a0_1 a0_2 a0_3 a0_4 a0_5 a0_6 a0_7 a0_8 a1 = some (r1, r2, r3, r4, r5, r6)) :
  Calls Try.prog 30 #[.agg #[.slice A0_0 l0_0.length c0_0, .int .i64 a0_1, .int .i64 a0_2, .int .i64 a0_3, .bool a0_4, .int .i64 a0_5, .int .i64 a0_6, .int .i64 a0_7, .int .i64 a0_8], .string a1] w fun e w' => e = .returned (.tuple #[.agg #[.int .i64 r1, .int .i64 r2, .int .i64 r3], .int .i64 r4, .int .i64 r5, .bool r6]) ∧ Below w.heap.size w w' := by
 have hu51 := Try.underlying51
 have hu29 := Try.underlying29
 have HR0_0 := Aside0.mk hr0_0
 have HC0_0 := Aside0.mk hc0_0
 clear hr0_0 hc0_0
 have HB := Aside0.mk (Below.refl w.heap.size w)
 have H : (if a1.toList = ([106] : List UInt8) then (step_walk_lines.j0 k a1 a0_5 a1 (a1.toList == ([106] : List UInt8)) l0_0 a0_1 a0_2 a0_3 a0_4 a0_5 a0_6 a0_7 a0_8) else (if a1.toList = ([43] : List UInt8) then (step_walk_lines.j0 k a1 a0_5 a1 (a1.toList == ([43] : List UInt8)) l0_0 a0_1 a0_2 a0_3 a0_4 a0_5 a0_6 a0_7 a0_8) else (step_walk_lines.j0 k a1 a0_5 a1 (a1.toList == ([13] : List UInt8)) l0_0 a0_1 a0_2 a0_3 a0_4 a0_5 a0_6 a0_7 a0_8))) = some (r1, r2, r3, r4, r5, r6) := h
 clear h
 have HC3 := Aside0.mk H
 clear H
 go_enter Try.func30, Try.ntmps30
 go_upto_block 0 with (first | ((with_reducible refine gate_dst (N := 2) rfl ?_); refine box_event ?hg (N := 2) ?hd (cs := #[.slice A0_0 l0_0.length c0_0, .int .i64 a0_1, .int .i64 a0_2, .int .i64 a0_3, .bool a0_4, .int .i64 a0_5, .int .i64 a0_6, .int .i64 a0_7, .int .i64 a0_8]) (t := 51) ?hr ?_; (case hd => rfl); (case hg => rfl); (case hr => first | (go_simp; done) | (go_simp; rfl)); intro gb232 hg w4 hbox hb; have n0_ := Aside0.mk (below_step (by repeat (first | (with_reducible first | exact HB.out | apply below_alloc | apply pw_below_drewN | apply below_drew1) | exact HB.out)) hb); have n1_ := Aside0.mk (hbox); have n2_ := Aside0.mk ((by rw [hg]; exact (below_size (by repeat (first | (with_reducible first | exact HB.out | apply below_alloc | apply pw_below_drewN | apply below_drew1) | exact HB.out))) : w.heap.size ≤ gb232)); have n3_ := Aside0.mk ((by rw [hg]; exact (below_size (by repeat (first | (with_reducible first | exact HB.out | apply below_alloc | apply pw_below_drewN | apply below_drew1) | exact HB.out))) : w.heap.size ≤ gb232)); clear HB; have HB := n0_; have BK232 := n1_; have GW232 := n2_; have GE232 := n3_; clear n0_ n1_ n2_ n3_; clear hb hbox hg) | ((with_reducible refine gate_dst (N := 4) rfl ?_); refine box_event ?hg (N := 4) ?hd (cs := #[.int .i64 0, .int .i64 0, .int .i64 0]) (t := 29) ?hr ?_; (case hd => rfl); (case hg => rfl); (case hr => first | (go_simp; done) | (go_simp; rfl)); intro gb233 hg w5 hbox hb; have n0_ := Aside0.mk (blk_below (g := gb232) (o := .cells #[.slice A0_0 l0_0.length c0_0, .int .i64 a0_1, .int .i64 a0_2, .int .i64 a0_3, .bool a0_4, .int .i64 a0_5, .int .i64 a0_6, .int .i64 a0_7, .int .i64 a0_8] 51 (0, 0)) (by (with_reducible repeat (first | refine blk_drewN ?_ _ | refine blk_drew ?_ | refine blk_alloc ?_ _)); exact BK232.out) hb); have n1_ := Aside0.mk (below_step (by repeat (first | (with_reducible first | exact HB.out | apply below_alloc | apply pw_below_drewN | apply below_drew1 | refine below_set ?_ GE232.out) | exact HB.out)) hb); have n2_ := Aside0.mk (hbox); have n3_ := Aside0.mk ((by rw [hg]; exact (below_size (by repeat (first | (with_reducible first | exact HB.out | apply below_alloc | apply pw_below_drewN | apply below_drew1 | refine below_set ?_ GE232.out) | exact HB.out))) : w.heap.size ≤ gb233)); have n4_ := Aside0.mk ((by rw [hg]; exact (below_size (by repeat (first | (with_reducible first | exact HB.out | apply below_alloc | apply pw_below_drewN | apply below_drew1 | refine below_set ?_ GE232.out) | exact HB.out))) : w.heap.size ≤ gb233)); have n5_ := Aside0.mk ((by rw [hg]; exact Nat.ne_of_lt (blk_lt (g := gb232) (o := .cells #[.slice A0_0 l0_0.length c0_0, .int .i64 a0_1, .int .i64 a0_2, .int .i64 a0_3, .bool a0_4, .int .i64 a0_5, .int .i64 a0_6, .int .i64 a0_7, .int .i64 a0_8] 51 (0, 0)) (by (with_reducible repeat (first | refine blk_drewN ?_ _ | refine blk_drew ?_ | refine blk_alloc ?_ _)); exact BK232.out)) : gb232 ≠ gb233)); have n6_ := Aside0.mk ((by rw [hg]; exact Nat.ne_of_gt (blk_lt (g := gb232) (o := .cells #[.slice A0_0 l0_0.length c0_0, .int .i64 a0_1, .int .i64 a0_2, .int .i64 a0_3, .bool a0_4, .int .i64 a0_5, .int .i64 a0_6, .int .i64 a0_7, .int .i64 a0_8] 51 (0, 0)) (by (with_reducible repeat (first | refine blk_drewN ?_ _ | refine blk_drew ?_ | refine blk_alloc ?_ _)); exact BK232.out)) : gb233 ≠ gb232)); clear BK232; clear HB; have BK232 := n0_; have HB := n1_; have BK233 := n2_; have GW233 := n3_; have GE233 := n4_; have NB232_233 := n5_; have NB233_232 := n6_; clear n0_ n1_ n2_ n3_ n4_ n5_ n6_; clear hb hbox hg; have hnb6 := NB232_233.out; have hnc6 := NB233_232.out; have hcz7_0 : w5.cell? ⟨gb232, 0, none⟩ = some (.slice A0_0 l0_0.length c0_0) := (blk_cell BK232.out 0).trans rfl; have hcz7_1 : w5.cell? ⟨gb232, 1, none⟩ = some (.int .i64 a0_1) := (blk_cell BK232.out 1).trans rfl; have hcz7_2 : w5.cell? ⟨gb232, 2, none⟩ = some (.int .i64 a0_2) := (blk_cell BK232.out 2).trans rfl; have hcz7_3 : w5.cell? ⟨gb232, 3, none⟩ = some (.int .i64 a0_3) := (blk_cell BK232.out 3).trans rfl; have hcz7_4 : w5.cell? ⟨gb232, 4, none⟩ = some (.bool a0_4) := (blk_cell BK232.out 4).trans rfl; have hcz7_5 : w5.cell? ⟨gb232, 5, none⟩ = some (.int .i64 a0_5) := (blk_cell BK232.out 5).trans rfl; have hcz7_6 : w5.cell? ⟨gb232, 6, none⟩ = some (.int .i64 a0_6) := (blk_cell BK232.out 6).trans rfl; have hcz7_7 : w5.cell? ⟨gb232, 7, none⟩ = some (.int .i64 a0_7) := (blk_cell BK232.out 7).trans rfl; have hcz7_8 : w5.cell? ⟨gb232, 8, none⟩ = some (.int .i64 a0_8) := (blk_cell BK232.out 8).trans rfl; have hfz7_0 := blk_frozen BK232.out 0; have hfz7_1 := blk_frozen BK232.out 1; have hfz7_2 := blk_frozen BK232.out 2; have hfz7_3 := blk_frozen BK232.out 3; have hfz7_4 := blk_frozen BK232.out 4; have hfz7_5 := blk_frozen BK232.out 5; have hfz7_6 := blk_frozen BK232.out 6; have hfz7_7 := blk_frozen BK232.out 7; have hfz7_8 := blk_frozen BK232.out 8))
 (try simp only [Act.put, List.setIfInBounds_toArray, List.set_cons_zero, List.set_cons_succ])
 go_cut [8] (fun v8 wc => ∃ (kq : Nat) (x8_2 : Int) (x234000_2 : Int) (x234001_2 : Int) (x234002_2 : Int), v8 = .int .i64 x8_2 ∧ Aside0 (step_walk_lines.j3 kq a1 x8_2 l0_0 a0_1 a0_2 a0_3 a0_4 a0_5 a0_6 a0_7 a0_8 = some (r1, r2, r3, r4, r5, r6)) ∧ Aside0 (kq ≤ k) ∧ Aside0 (wc.heap[gb232]? = some (.cells #[(.slice A0_0 l0_0.length c0_0), .int .i64 a0_1, .int .i64 a0_2, .int .i64 a0_3, .bool a0_4, .int .i64 a0_5, .int .i64 a0_6, .int .i64 a0_7, .int .i64 a0_8] 51 (0, 0))) ∧ Aside0 (wc.heap[gb233]? = some (.cells #[.int .i64 x234000_2, .int .i64 x234001_2, .int .i64 x234002_2] 29 (0, 0))) ∧ Aside0 (Below w.heap.size w wc))
 case first =>
  have H := HC3.out
  clear HC3
  have HC8 := Aside0.mk H
  clear H
  go_upto_if 17 with (fail)
  go_cut [17] (fun v17 wc => ∃ (kq : Nat) (x17_7 : Bool), v17 = .bool x17_7 ∧ Aside0 (step_walk_lines.j0 kq a1 a0_5 a1 x17_7 l0_0 a0_1 a0_2 a0_3 a0_4 a0_5 a0_6 a0_7 a0_8 = some (r1, r2, r3, r4, r5, r6)) ∧ Aside0 (kq ≤ k) ∧ Aside0 (wc.heap[gb232]? = some (.cells #[(.slice A0_0 l0_0.length c0_0), .int .i64 a0_1, .int .i64 a0_2, .int .i64 a0_3, .bool a0_4, .int .i64 a0_5, .int .i64 a0_6, .int .i64 a0_7, .int .i64 a0_8] 51 (0, 0))) ∧ Aside0 (wc.heap[gb233]? = some (.cells #[.int .i64 0, .int .i64 0, .int .i64 0] 29 (0, 0))) ∧ Aside0 (Below w.heap.size w wc))
  case first =>
   have H := HC8.out
   clear HC8
   by_cases c9 : a1.toList = ([106] : List UInt8)
   ·rw [if_pos c9] at H
    have c9b0 : (a1.toList == ([106] : List UInt8)) = true := beq_iff_eq.mpr c9
    have c9b1 : (a1.toList != ([106] : List UInt8)) = false := bne_eq_false_iff_eq.mpr c9
    clear c9
    (first | rw [c9b0] | (simp only [i64_w, i32_w]; rw [c9b0]) | skip)
    have H' := Aside0.mk H
    clear H
    go_wp2
    go_meet
    case rel => exact ⟨_, ((a1.toList == ([106] : List UInt8))), (by first | rfl | (simp; done) | (simp [*]; done)), H', ⟨by first | omega | exact Nat.le_refl _⟩, ⟨by (with_reducible repeat (first | refine blk_drewN ?_ _ | refine blk_drew ?_ | refine blk_alloc ?_ _)); exact BK232.out⟩, ⟨by (with_reducible repeat (first | refine blk_drewN ?_ _ | refine blk_drew ?_ | refine blk_alloc ?_ _)); exact BK233.out⟩, ⟨by repeat (first | (with_reducible first | exact HB.out | apply below_alloc | apply pw_below_drewN | apply below_drew1 | refine below_set ?_ GE232.out | refine below_set ?_ GE233.out) | exact HB.out)⟩⟩
   ·rw [if_neg c9] at H
    have c9b0 : (a1.toList == ([106] : List UInt8)) = false := beq_eq_false_iff_ne.mpr c9
    have c9b1 : (a1.toList != ([106] : List UInt8)) = true := bne_iff_ne.mpr c9
    (first | rw [c9b0] | (simp only [i64_w, i32_w]; rw [c9b0]) | skip)
    by_cases c10 : a1.toList = ([43] : List UInt8)
    ·rw [if_pos c10] at H
     have c10b0 : (a1.toList == ([43] : List UInt8)) = true := beq_iff_eq.mpr c10
     have c10b1 : (a1.toList != ([43] : List UInt8)) = false := bne_eq_false_iff_eq.mpr c10
     clear c10
     have H' := Aside0.mk H
     clear H
     go_wp2
     go_meet
     case rel => exact ⟨_, ((a1.toList == ([43] : List UInt8))), (by first | rfl | (simp; done) | (simp [*]; done)), H', ⟨by first | omega | exact Nat.le_refl _⟩, ⟨by (with_reducible repeat (first | refine blk_drewN ?_ _ | refine blk_drew ?_ | refine blk_alloc ?_ _)); exact BK232.out⟩, ⟨by (with_reducible repeat (first | refine blk_drewN ?_ _ | refine blk_drew ?_ | refine blk_alloc ?_ _)); exact BK233.out⟩, ⟨by repeat (first | (with_reducible first | exact HB.out | apply below_alloc | apply pw_below_drewN | apply below_drew1 | refine below_set ?_ GE232.out | refine below_set ?_ GE233.out) | exact HB.out)⟩⟩
    ·rw [if_neg c10] at H
     have c10b0 : (a1.toList == ([43] : List UInt8)) = false := beq_eq_false_iff_ne.mpr c10
     have c10b1 : (a1.toList != ([43] : List UInt8)) = true := bne_iff_ne.mpr c10
     have H' := Aside0.mk H
     clear H
     go_wp2
     go_meet
     case rel => exact ⟨_, ((a1.toList == ([13] : List UInt8))), (by first | rfl | (simp; done) | (simp [*]; done)), H', ⟨by first | omega | exact Nat.le_refl _⟩, ⟨by (with_reducible repeat (first | refine blk_drewN ?_ _ | refine blk_drew ?_ | refine blk_alloc ?_ _)); exact BK232.out⟩, ⟨by (with_reducible repeat (first | refine blk_drewN ?_ _ | refine blk_drew ?_ | refine blk_alloc ?_ _)); exact BK233.out⟩, ⟨by repeat (first | (with_reducible first | exact HB.out | apply below_alloc | apply pw_below_drewN | apply below_drew1 | refine below_set ?_ GE232.out | refine below_set ?_ GE233.out) | exact HB.out)⟩⟩
  case rest =>
   clear HC8
   try clear c1
   try clear p2
   try clear c3
   try clear c6
   try clear c9
   try clear c9b0
   try clear c9b1
   try clear c10
   try clear c10b0
   try clear c10b1
   try clear hcz7_0
   try clear hcz7_1
   try clear hcz7_2
   try clear hcz7_3
   try clear hcz7_4
   try clear hcz7_5
   try clear hcz7_6
   try clear hcz7_7
   try clear hcz7_8
   try clear hfz7_0
   try clear hfz7_1
   try clear hfz7_2
   try clear hfz7_3
   try clear hfz7_4
   try clear hfz7_5
   try clear hfz7_6
   try clear hfz7_7
   try clear hfz7_8
   obtain ⟨kq, x17_7, rfl, HA, HJ7, BK232, BK233, HB⟩ := hcut
   cases kq with
   | zero => exact absurd HA.out (by simp [step_walk_lines.j0])
   | succ kj7 =>
    have H := HA.out
    clear HA
    simp only [step_walk_lines.j0] at H
    by_cases c11 : x17_7 = true
    ·subst c11
     have H1 : (step_walk_lines.j3 kj7 a1 (wrap64 (a0_5 + a0_3)) l0_0 a0_1 a0_2 a0_3 a0_4 a0_5 a0_6 a0_7 a0_8) = some (r1, r2, r3, r4, r5, r6) := by rw [if_pos rfl] at H; exact H
     clear H
     have H := H1
     clear H1
     have H' := Aside0.mk H
     clear H
     have hnb12 := NB232_233.out
     have hnc12 := NB233_232.out
     have hcz13_0 : wc.cell? ⟨gb232, 0, none⟩ = some (.slice A0_0 l0_0.length c0_0) := (blk_cell BK232.out 0).trans rfl
     have hcz13_1 : wc.cell? ⟨gb232, 1, none⟩ = some (.int .i64 a0_1) := (blk_cell BK232.out 1).trans rfl
     have hcz13_2 : wc.cell? ⟨gb232, 2, none⟩ = some (.int .i64 a0_2) := (blk_cell BK232.out 2).trans rfl
     have hcz13_3 : wc.cell? ⟨gb232, 3, none⟩ = some (.int .i64 a0_3) := (blk_cell BK232.out 3).trans rfl
     have hcz13_4 : wc.cell? ⟨gb232, 4, none⟩ = some (.bool a0_4) := (blk_cell BK232.out 4).trans rfl
     have hcz13_5 : wc.cell? ⟨gb232, 5, none⟩ = some (.int .i64 a0_5) := (blk_cell BK232.out 5).trans rfl
     have hcz13_6 : wc.cell? ⟨gb232, 6, none⟩ = some (.int .i64 a0_6) := (blk_cell BK232.out 6).trans rfl
     have hcz13_7 : wc.cell? ⟨gb232, 7, none⟩ = some (.int .i64 a0_7) := (blk_cell BK232.out 7).trans rfl
     have hcz13_8 : wc.cell? ⟨gb232, 8, none⟩ = some (.int .i64 a0_8) := (blk_cell BK232.out 8).trans rfl
     have hfz13_0 := blk_frozen BK232.out 0
     have hfz13_1 := blk_frozen BK232.out 1
     have hfz13_2 := blk_frozen BK232.out 2
     have hfz13_3 := blk_frozen BK232.out 3
     have hfz13_4 := blk_frozen BK232.out 4
     have hfz13_5 := blk_frozen BK232.out 5
     have hfz13_6 := blk_frozen BK232.out 6
     have hfz13_7 := blk_frozen BK232.out 7
     have hfz13_8 := blk_frozen BK232.out 8
     go_wp2
     go_meet
     case rel => exact ⟨_, (wrap64 (a0_5 + a0_3)), (0), (0), (0), (by first | rfl | (simp; done) | (simp [*]; done)), H', ⟨by have := HJ7.out; first | omega | exact Nat.le_refl _⟩, ⟨by (with_reducible repeat (first | refine blk_drewN ?_ _ | refine blk_drew ?_ | refine blk_alloc ?_ _)); exact BK232.out⟩, ⟨by (with_reducible repeat (first | refine blk_drewN ?_ _ | refine blk_drew ?_ | refine blk_alloc ?_ _)); exact BK233.out⟩, ⟨by repeat (first | (with_reducible first | exact HB.out | apply below_alloc | apply pw_below_drewN | apply below_drew1 | refine below_set ?_ GE232.out | refine below_set ?_ GE233.out) | exact HB.out)⟩⟩
    ·replace c11 := Bool.eq_false_iff.mpr c11
     subst c11
     have H1 : (if a1.toList = ([107] : List UInt8) then (step_walk_lines.j1 kj7 a1 a0_5 a1 (a1.toList == ([107] : List UInt8)) l0_0 a0_1 a0_2 a0_3 a0_4 a0_5 a0_6 a0_7 a0_8) else (step_walk_lines.j1 kj7 a1 a0_5 a1 (a1.toList == ([45] : List UInt8)) l0_0 a0_1 a0_2 a0_3 a0_4 a0_5 a0_6 a0_7 a0_8)) = some (r1, r2, r3, r4, r5, r6) := by rw [if_neg (show ¬ (false = true) by decide)] at H; exact H
     clear H
     have H := H1
     clear H1
     have HC14 := Aside0.mk H
     clear H
     go_upto_if 25 with (fail)
     go_cut [25] (fun v25 wc => ∃ (kq : Nat) (x25_13 : Bool), v25 = .bool x25_13 ∧ Aside0 (step_walk_lines.j1 kq a1 a0_5 a1 x25_13 l0_0 a0_1 a0_2 a0_3 a0_4 a0_5 a0_6 a0_7 a0_8 = some (r1, r2, r3, r4, r5, r6)) ∧ Aside0 (kq ≤ kj7) ∧ Aside0 (wc.heap[gb232]? = some (.cells #[(.slice A0_0 l0_0.length c0_0), .int .i64 a0_1, .int .i64 a0_2, .int .i64 a0_3, .bool a0_4, .int .i64 a0_5, .int .i64 a0_6, .int .i64 a0_7, .int .i64 a0_8] 51 (0, 0))) ∧ Aside0 (wc.heap[gb233]? = some (.cells #[.int .i64 0, .int .i64 0, .int .i64 0] 29 (0, 0))) ∧ Aside0 (Below w.heap.size w wc))
     case first =>
      have H := HC14.out
      clear HC14
      by_cases c15 : a1.toList = ([107] : List UInt8)
      ·rw [if_pos c15] at H
       have c15b0 : (a1.toList == ([107] : List UInt8)) = true := beq_iff_eq.mpr c15
       have c15b1 : (a1.toList != ([107] : List UInt8)) = false := bne_eq_false_iff_eq.mpr c15
       clear c15
       (first | rw [c15b0] | (simp only [i64_w, i32_w]; rw [c15b0]) | skip)
       have H' := Aside0.mk H
       clear H
       go_wp2
       go_meet
       case rel => exact ⟨_, ((a1.toList == ([107] : List UInt8))), (by first | rfl | (simp; done) | (simp [*]; done)), H', ⟨by have := HJ7.out; first | omega | exact Nat.le_refl _⟩, ⟨by (with_reducible repeat (first | refine blk_drewN ?_ _ | refine blk_drew ?_ | refine blk_alloc ?_ _)); exact BK232.out⟩, ⟨by (with_reducible repeat (first | refine blk_drewN ?_ _ | refine blk_drew ?_ | refine blk_alloc ?_ _)); exact BK233.out⟩, ⟨by repeat (first | (with_reducible first | exact HB.out | apply below_alloc | apply pw_below_drewN | apply below_drew1 | refine below_set ?_ GE232.out | refine below_set ?_ GE233.out) | exact HB.out)⟩⟩
      ·rw [if_neg c15] at H
       have c15b0 : (a1.toList == ([107] : List UInt8)) = false := beq_eq_false_iff_ne.mpr c15
       have c15b1 : (a1.toList != ([107] : List UInt8)) = true := bne_iff_ne.mpr c15
       (first | rw [c15b0] | (simp only [i64_w, i32_w]; rw [c15b0]) | skip)
       have H' := Aside0.mk H
       clear H
       go_wp2
       go_meet
       case rel => exact ⟨_, ((a1.toList == ([45] : List UInt8))), (by first | rfl | (simp; done) | (simp [*]; done)), H', ⟨by have := HJ7.out; first | omega | exact Nat.le_refl _⟩, ⟨by (with_reducible repeat (first | refine blk_drewN ?_ _ | refine blk_drew ?_ | refine blk_alloc ?_ _)); exact BK232.out⟩, ⟨by (with_reducible repeat (first | refine blk_drewN ?_ _ | refine blk_drew ?_ | refine blk_alloc ?_ _)); exact BK233.out⟩, ⟨by repeat (first | (with_reducible first | exact HB.out | apply below_alloc | apply pw_below_drewN | apply below_drew1 | refine below_set ?_ GE232.out | refine below_set ?_ GE233.out) | exact HB.out)⟩⟩
     case rest =>
      clear HC14
      try clear c1
      try clear p2
      try clear c3
      try clear c6
      try clear p6
      try clear c9
      try clear c9b0
      try clear c9b1
      try clear c10
      try clear c10b0
      try clear c10b1
      try clear c11
      try clear c12
      try clear c15
      try clear c15b0
      try clear c15b1
      try clear hcz13_0
      try clear hcz13_1
      try clear hcz13_2
      try clear hcz13_3
      try clear hcz13_4
      try clear hcz13_5
      try clear hcz13_6
      try clear hcz13_7
      try clear hcz13_8
      try clear hcz7_0
      try clear hcz7_1
      try clear hcz7_2
      try clear hcz7_3
      try clear hcz7_4
      try clear hcz7_5
      try clear hcz7_6
      try clear hcz7_7
      try clear hcz7_8
      try clear hfz13_0
      try clear hfz13_1
      try clear hfz13_2
      try clear hfz13_3
      try clear hfz13_4
      try clear hfz13_5
      try clear hfz13_6
      try clear hfz13_7
      try clear hfz13_8
      try clear hfz7_0
      try clear hfz7_1
      try clear hfz7_2
      try clear hfz7_3
      try clear hfz7_4
      try clear hfz7_5
      try clear hfz7_6
      try clear hfz7_7
      try clear hfz7_8
      try clear p2
      obtain ⟨kq, x25_13, rfl, HA, HJ13, BK232, BK233, HB⟩ := hcut
      cases kq with
      | zero => exact absurd HA.out (by simp [step_walk_lines.j1])
      | succ kj13 =>
       have H := HA.out
       clear HA
       simp only [step_walk_lines.j1] at H
       by_cases c16 : x25_13 = true
       ·subst c16
        have H1 : (step_walk_lines.j3 kj13 a1 (wrap64 (a0_5 - a0_3)) l0_0 a0_1 a0_2 a0_3 a0_4 a0_5 a0_6 a0_7 a0_8) = some (r1, r2, r3, r4, r5, r6) := by rw [if_pos rfl] at H; exact H
        clear H
        have H := H1
        clear H1
        have H' := Aside0.mk H
        clear H
        have hnb17 := NB232_233.out
        have hnc17 := NB233_232.out
        have hcz18_0 : wc.cell? ⟨gb232, 0, none⟩ = some (.slice A0_0 l0_0.length c0_0) := (blk_cell BK232.out 0).trans rfl
        have hcz18_1 : wc.cell? ⟨gb232, 1, none⟩ = some (.int .i64 a0_1) := (blk_cell BK232.out 1).trans rfl
        have hcz18_2 : wc.cell? ⟨gb232, 2, none⟩ = some (.int .i64 a0_2) := (blk_cell BK232.out 2).trans rfl
        have hcz18_3 : wc.cell? ⟨gb232, 3, none⟩ = some (.int .i64 a0_3) := (blk_cell BK232.out 3).trans rfl
        have hcz18_4 : wc.cell? ⟨gb232, 4, none⟩ = some (.bool a0_4) := (blk_cell BK232.out 4).trans rfl
        have hcz18_5 : wc.cell? ⟨gb232, 5, none⟩ = some (.int .i64 a0_5) := (blk_cell BK232.out 5).trans rfl
        have hcz18_6 : wc.cell? ⟨gb232, 6, none⟩ = some (.int .i64 a0_6) := (blk_cell BK232.out 6).trans rfl
        have hcz18_7 : wc.cell? ⟨gb232, 7, none⟩ = some (.int .i64 a0_7) := (blk_cell BK232.out 7).trans rfl
        have hcz18_8 : wc.cell? ⟨gb232, 8, none⟩ = some (.int .i64 a0_8) := (blk_cell BK232.out 8).trans rfl
        have hfz18_0 := blk_frozen BK232.out 0
        have hfz18_1 := blk_frozen BK232.out 1
        have hfz18_2 := blk_frozen BK232.out 2
        have hfz18_3 := blk_frozen BK232.out 3
        have hfz18_4 := blk_frozen BK232.out 4
        have hfz18_5 := blk_frozen BK232.out 5
        have hfz18_6 := blk_frozen BK232.out 6
        have hfz18_7 := blk_frozen BK232.out 7
        have hfz18_8 := blk_frozen BK232.out 8
        go_wp2
        go_meet
        case rel => exact ⟨_, (wrap64 (a0_5 - a0_3)), (0), (0), (0), (by first | rfl | (simp; done) | (simp [*]; done)), H', ⟨by have := HJ7.out; have := HJ13.out; first | omega | exact Nat.le_refl _⟩, ⟨by (with_reducible repeat (first | refine blk_drewN ?_ _ | refine blk_drew ?_ | refine blk_alloc ?_ _)); exact BK232.out⟩, ⟨by (with_reducible repeat (first | refine blk_drewN ?_ _ | refine blk_drew ?_ | refine blk_alloc ?_ _)); exact BK233.out⟩, ⟨by repeat (first | (with_reducible first | exact HB.out | apply below_alloc | apply pw_below_drewN | apply below_drew1 | refine below_set ?_ GE232.out | refine below_set ?_ GE233.out) | exact HB.out)⟩⟩
       ·replace c16 := Bool.eq_false_iff.mpr c16
        subst c16
        have H1 : (if a1.toList = ([95] : List UInt8) then (step_walk_lines.j3 kj13 a1 (wrap64 (a0_5 + (wrap64 (a0_3 - 1)))) l0_0 a0_1 a0_2 a0_3 a0_4 a0_5 a0_6 a0_7 a0_8) else (if a1.toList = ([71] : List UInt8) then (step_walk_lines.j2 kj13 a1 (a1.toList == ([71] : List UInt8)) l0_0 a0_1 a0_2 a0_3 a0_4 a0_5 a0_6 a0_7 a0_8) else (step_walk_lines.j2 kj13 a1 (a1.toList == ([103, 103] : List UInt8)) l0_0 a0_1 a0_2 a0_3 a0_4 a0_5 a0_6 a0_7 a0_8))) = some (r1, r2, r3, r4, r5, r6) := by rw [if_neg (show ¬ (false = true) by decide)] at H; exact H
        clear H
        have H := H1
        clear H1
        by_cases c19 : a1.toList = ([95] : List UInt8)
        ·rw [if_pos c19] at H
         have c19b0 : (a1.toList == ([95] : List UInt8)) = true := beq_iff_eq.mpr c19
         have c19b1 : (a1.toList != ([95] : List UInt8)) = false := bne_eq_false_iff_eq.mpr c19
         clear c19
         have H' := Aside0.mk H
         clear H
         have hnb20 := NB232_233.out
         have hnc20 := NB233_232.out
         have hcz21_0 : wc.cell? ⟨gb232, 0, none⟩ = some (.slice A0_0 l0_0.length c0_0) := (blk_cell BK232.out 0).trans rfl
         have hcz21_1 : wc.cell? ⟨gb232, 1, none⟩ = some (.int .i64 a0_1) := (blk_cell BK232.out 1).trans rfl
         have hcz21_2 : wc.cell? ⟨gb232, 2, none⟩ = some (.int .i64 a0_2) := (blk_cell BK232.out 2).trans rfl
         have hcz21_3 : wc.cell? ⟨gb232, 3, none⟩ = some (.int .i64 a0_3) := (blk_cell BK232.out 3).trans rfl
         have hcz21_4 : wc.cell? ⟨gb232, 4, none⟩ = some (.bool a0_4) := (blk_cell BK232.out 4).trans rfl
         have hcz21_5 : wc.cell? ⟨gb232, 5, none⟩ = some (.int .i64 a0_5) := (blk_cell BK232.out 5).trans rfl
         have hcz21_6 : wc.cell? ⟨gb232, 6, none⟩ = some (.int .i64 a0_6) := (blk_cell BK232.out 6).trans rfl
         have hcz21_7 : wc.cell? ⟨gb232, 7, none⟩ = some (.int .i64 a0_7) := (blk_cell BK232.out 7).trans rfl
         have hcz21_8 : wc.cell? ⟨gb232, 8, none⟩ = some (.int .i64 a0_8) := (blk_cell BK232.out 8).trans rfl
         have hfz21_0 := blk_frozen BK232.out 0
         have hfz21_1 := blk_frozen BK232.out 1
         have hfz21_2 := blk_frozen BK232.out 2
         have hfz21_3 := blk_frozen BK232.out 3
         have hfz21_4 := blk_frozen BK232.out 4
         have hfz21_5 := blk_frozen BK232.out 5
         have hfz21_6 := blk_frozen BK232.out 6
         have hfz21_7 := blk_frozen BK232.out 7
         have hfz21_8 := blk_frozen BK232.out 8
         go_wp2
         go_meet
         case rel => exact ⟨_, (wrap64 (a0_5 + (wrap64 (a0_3 - 1)))), (0), (0), (0), (by first | rfl | (simp; done) | (simp [*]; done)), H', ⟨by have := HJ7.out; have := HJ13.out; first | omega | exact Nat.le_refl _⟩, ⟨by (with_reducible repeat (first | refine blk_drewN ?_ _ | refine blk_drew ?_ | refine blk_alloc ?_ _)); exact BK232.out⟩, ⟨by (with_reducible repeat (first | refine blk_drewN ?_ _ | refine blk_drew ?_ | refine blk_alloc ?_ _)); exact BK233.out⟩, ⟨by repeat (first | (with_reducible first | exact HB.out | apply below_alloc | apply pw_below_drewN | apply below_drew1 | refine below_set ?_ GE232.out | refine below_set ?_ GE233.out) | exact HB.out)⟩⟩
        ·rw [if_neg c19] at H
         have c19b0 : (a1.toList == ([95] : List UInt8)) = false := beq_eq_false_iff_ne.mpr c19
         have c19b1 : (a1.toList != ([95] : List UInt8)) = true := bne_iff_ne.mpr c19
         have HC22 := Aside0.mk H
         clear H
         go_upto_if 39 with (fail)
         go_cut [39] (fun v39 wc => ∃ (kq : Nat) (x39_21 : Bool), v39 = .bool x39_21 ∧ Aside0 (step_walk_lines.j2 kq a1 x39_21 l0_0 a0_1 a0_2 a0_3 a0_4 a0_5 a0_6 a0_7 a0_8 = some (r1, r2, r3, r4, r5, r6)) ∧ Aside0 (kq ≤ kj13) ∧ Aside0 (wc.heap[gb232]? = some (.cells #[(.slice A0_0 l0_0.length c0_0), .int .i64 a0_1, .int .i64 a0_2, .int .i64 a0_3, .bool a0_4, .int .i64 a0_5, .int .i64 a0_6, .int .i64 a0_7, .int .i64 a0_8] 51 (0, 0))) ∧ Aside0 (wc.heap[gb233]? = some (.cells #[.int .i64 0, .int .i64 0, .int .i64 0] 29 (0, 0))) ∧ Aside0 (Below w.heap.size w wc))
         case first =>
          have H := HC22.out
          clear HC22
          by_cases c23 : a1.toList = ([71] : List UInt8)
          ·rw [if_pos c23] at H
           have c23b0 : (a1.toList == ([71] : List UInt8)) = true := beq_iff_eq.mpr c23
           have c23b1 : (a1.toList != ([71] : List UInt8)) = false := bne_eq_false_iff_eq.mpr c23
           clear c23
           (first | rw [c23b0] | (simp only [i64_w, i32_w]; rw [c23b0]) | skip)
           have H' := Aside0.mk H
           clear H
           go_wp2
           go_meet
           case rel => exact ⟨_, ((a1.toList == ([71] : List UInt8))), (by first | rfl | (simp; done) | (simp [*]; done)), H', ⟨by have := HJ7.out; have := HJ13.out; first | omega | exact Nat.le_refl _⟩, ⟨by (with_reducible repeat (first | refine blk_drewN ?_ _ | refine blk_drew ?_ | refine blk_alloc ?_ _)); exact BK232.out⟩, ⟨by (with_reducible repeat (first | refine blk_drewN ?_ _ | refine blk_drew ?_ | refine blk_alloc ?_ _)); exact BK233.out⟩, ⟨by repeat (first | (with_reducible first | exact HB.out | apply below_alloc | apply pw_below_drewN | apply below_drew1 | refine below_set ?_ GE232.out | refine below_set ?_ GE233.out) | exact HB.out)⟩⟩
          ·rw [if_neg c23] at H
           have c23b0 : (a1.toList == ([71] : List UInt8)) = false := beq_eq_false_iff_ne.mpr c23
           have c23b1 : (a1.toList != ([71] : List UInt8)) = true := bne_iff_ne.mpr c23
           (first | rw [c23b0] | (simp only [i64_w, i32_w]; rw [c23b0]) | skip)
           have H' := Aside0.mk H
           clear H
           go_wp2
           go_meet
           case rel => exact ⟨_, ((a1.toList == ([103, 103] : List UInt8))), (by first | rfl | (simp; done) | (simp [*]; done)), H', ⟨by have := HJ7.out; have := HJ13.out; first | omega | exact Nat.le_refl _⟩, ⟨by (with_reducible repeat (first | refine blk_drewN ?_ _ | refine blk_drew ?_ | refine blk_alloc ?_ _)); exact BK232.out⟩, ⟨by (with_reducible repeat (first | refine blk_drewN ?_ _ | refine blk_drew ?_ | refine blk_alloc ?_ _)); exact BK233.out⟩, ⟨by repeat (first | (with_reducible first | exact HB.out | apply below_alloc | apply pw_below_drewN | apply below_drew1 | refine below_set ?_ GE232.out | refine below_set ?_ GE233.out) | exact HB.out)⟩⟩
         case rest =>
          clear HC22
          try clear c1
          try clear c2
          try clear p2
          try clear c3
          try clear c6
          try clear p6
          try clear c9
          try clear c9b0
          try clear c9b1
          try clear c10
          try clear c10b0
          try clear c10b1
          try clear c11
          try clear c12
          try clear c15
          try clear c15b0
          try clear c15b1
          try clear c16
          try clear c17
          try clear c19
          try clear c19b0
          try clear c19b1
          try clear c20
          try clear c23
          try clear c23b0
          try clear c23b1
          try clear hcz13_0
          try clear hcz13_1
          try clear hcz13_2
          try clear hcz13_3
          try clear hcz13_4
          try clear hcz13_5
          try clear hcz13_6
          try clear hcz13_7
          try clear hcz13_8
          try clear hcz18_0
          try clear hcz18_1
          try clear hcz18_2
          try clear hcz18_3
          try clear hcz18_4
          try clear hcz18_5
          try clear hcz18_6
          try clear hcz18_7
          try clear hcz18_8
          try clear hcz21_0
          try clear hcz21_1
          try clear hcz21_2
          try clear hcz21_3
          try clear hcz21_4
          try clear hcz21_5
          try clear hcz21_6
          try clear hcz21_7
          try clear hcz21_8
          try clear hcz7_0
          try clear hcz7_1
          try clear hcz7_2
          try clear hcz7_3
          try clear hcz7_4
          try clear hcz7_5
          try clear hcz7_6
          try clear hcz7_7
          try clear hcz7_8
          try clear hfz13_0
          try clear hfz13_1
          try clear hfz13_2
          try clear hfz13_3
          try clear hfz13_4
          try clear hfz13_5
          try clear hfz13_6
          try clear hfz13_7
          try clear hfz13_8
          try clear hfz18_0
          try clear hfz18_1
          try clear hfz18_2
          try clear hfz18_3
          try clear hfz18_4
          try clear hfz18_5
          try clear hfz18_6
          try clear hfz18_7
          try clear hfz18_8
          try clear hfz21_0
          try clear hfz21_1
          try clear hfz21_2
          try clear hfz21_3
          try clear hfz21_4
          try clear hfz21_5
          try clear hfz21_6
          try clear hfz21_7
          try clear hfz21_8
          try clear hfz7_0
          try clear hfz7_1
          try clear hfz7_2
          try clear hfz7_3
          try clear hfz7_4
          try clear hfz7_5
          try clear hfz7_6
          try clear hfz7_7
          try clear hfz7_8
          try clear p2
          try clear p6
          obtain ⟨kq, x39_21, rfl, HA, HJ21, BK232, BK233, HB⟩ := hcut
          cases kq with
          | zero => exact absurd HA.out (by simp [step_walk_lines.j2])
          | succ kj21 =>
           have H := HA.out
           clear HA
           simp only [step_walk_lines.j2] at H
           by_cases c24 : x39_21 = true
           ·subst c24
            have H1 : (if a1.toList = ([71] : List UInt8) then (if a0_4 = true then (step_walk_lines.j3 kj21 a1 (wrap64 (a0_3 - 1)) l0_0 a0_1 a0_2 a0_3 a0_4 a0_5 a0_6 a0_7 a0_8) else (step_walk_lines.j3 kj21 a1 a0_6 l0_0 a0_1 a0_2 a0_3 a0_4 a0_5 a0_6 a0_7 a0_8)) else (step_walk_lines.j3 kj21 a1 (wrap64 (a0_3 - 1)) l0_0 a0_1 a0_2 a0_3 a0_4 a0_5 a0_6 a0_7 a0_8)) = some (r1, r2, r3, r4, r5, r6) := by rw [if_pos rfl] at H; exact H
            clear H
            have H := H1
            clear H1
            by_cases c25 : a1.toList = ([71] : List UInt8)
            ·rw [if_pos c25] at H
             have c25b0 : (a1.toList == ([71] : List UInt8)) = true := beq_iff_eq.mpr c25
             have c25b1 : (a1.toList != ([71] : List UInt8)) = false := bne_eq_false_iff_eq.mpr c25
             clear c25
             by_cases c26 : a0_4 = true
             ·subst c26
              have H1 : (step_walk_lines.j3 kj21 a1 (wrap64 (a0_3 - 1)) l0_0 a0_1 a0_2 a0_3 true a0_5 a0_6 a0_7 a0_8) = some (r1, r2, r3, r4, r5, r6) := by rw [if_pos rfl] at H; exact H
              clear H
              have H := H1
              clear H1
              have H' := Aside0.mk H
              clear H
              have hnb27 := NB232_233.out
              have hnc27 := NB233_232.out
              have hcz28_0 : wc.cell? ⟨gb232, 0, none⟩ = some (.slice A0_0 l0_0.length c0_0) := (blk_cell BK232.out 0).trans rfl
              have hcz28_1 : wc.cell? ⟨gb232, 1, none⟩ = some (.int .i64 a0_1) := (blk_cell BK232.out 1).trans rfl
              have hcz28_2 : wc.cell? ⟨gb232, 2, none⟩ = some (.int .i64 a0_2) := (blk_cell BK232.out 2).trans rfl
              have hcz28_3 : wc.cell? ⟨gb232, 3, none⟩ = some (.int .i64 a0_3) := (blk_cell BK232.out 3).trans rfl
              have hcz28_4 : wc.cell? ⟨gb232, 4, none⟩ = some (.bool true) := (blk_cell BK232.out 4).trans rfl
              have hcz28_5 : wc.cell? ⟨gb232, 5, none⟩ = some (.int .i64 a0_5) := (blk_cell BK232.out 5).trans rfl
              have hcz28_6 : wc.cell? ⟨gb232, 6, none⟩ = some (.int .i64 a0_6) := (blk_cell BK232.out 6).trans rfl
              have hcz28_7 : wc.cell? ⟨gb232, 7, none⟩ = some (.int .i64 a0_7) := (blk_cell BK232.out 7).trans rfl
              have hcz28_8 : wc.cell? ⟨gb232, 8, none⟩ = some (.int .i64 a0_8) := (blk_cell BK232.out 8).trans rfl
              have hfz28_0 := blk_frozen BK232.out 0
              have hfz28_1 := blk_frozen BK232.out 1
              have hfz28_2 := blk_frozen BK232.out 2
              have hfz28_3 := blk_frozen BK232.out 3
              have hfz28_4 := blk_frozen BK232.out 4
              have hfz28_5 := blk_frozen BK232.out 5
              have hfz28_6 := blk_frozen BK232.out 6
              have hfz28_7 := blk_frozen BK232.out 7
              have hfz28_8 := blk_frozen BK232.out 8
              go_wp2
              go_meet
              case rel => exact ⟨_, (wrap64 (a0_3 - 1)), (0), (0), (0), (by first | rfl | (simp; done) | (simp [*]; done)), H', ⟨by have := HJ7.out; have := HJ13.out; have := HJ21.out; first | omega | exact Nat.le_refl _⟩, ⟨by (with_reducible repeat (first | refine blk_drewN ?_ _ | refine blk_drew ?_ | refine blk_alloc ?_ _)); exact BK232.out⟩, ⟨by (with_reducible repeat (first | refine blk_drewN ?_ _ | refine blk_drew ?_ | refine blk_alloc ?_ _)); exact BK233.out⟩, ⟨by repeat (first | (with_reducible first | exact HB.out | apply below_alloc | apply pw_below_drewN | apply below_drew1 | refine below_set ?_ GE232.out | refine below_set ?_ GE233.out) | exact HB.out)⟩⟩
             ·replace c26 := Bool.eq_false_iff.mpr c26
              subst c26
              have H1 : (step_walk_lines.j3 kj21 a1 a0_6 l0_0 a0_1 a0_2 a0_3 false a0_5 a0_6 a0_7 a0_8) = some (r1, r2, r3, r4, r5, r6) := by rw [if_neg (show ¬ (false = true) by decide)] at H; exact H
              clear H
              have H := H1
              clear H1
              have H' := Aside0.mk H
              clear H
              have hnb29 := NB232_233.out
              have hnc29 := NB233_232.out
              have hcz30_0 : wc.cell? ⟨gb232, 0, none⟩ = some (.slice A0_0 l0_0.length c0_0) := (blk_cell BK232.out 0).trans rfl
              have hcz30_1 : wc.cell? ⟨gb232, 1, none⟩ = some (.int .i64 a0_1) := (blk_cell BK232.out 1).trans rfl
              have hcz30_2 : wc.cell? ⟨gb232, 2, none⟩ = some (.int .i64 a0_2) := (blk_cell BK232.out 2).trans rfl
              have hcz30_3 : wc.cell? ⟨gb232, 3, none⟩ = some (.int .i64 a0_3) := (blk_cell BK232.out 3).trans rfl
              have hcz30_4 : wc.cell? ⟨gb232, 4, none⟩ = some (.bool false) := (blk_cell BK232.out 4).trans rfl
              have hcz30_5 : wc.cell? ⟨gb232, 5, none⟩ = some (.int .i64 a0_5) := (blk_cell BK232.out 5).trans rfl
              have hcz30_6 : wc.cell? ⟨gb232, 6, none⟩ = some (.int .i64 a0_6) := (blk_cell BK232.out 6).trans rfl
              have hcz30_7 : wc.cell? ⟨gb232, 7, none⟩ = some (.int .i64 a0_7) := (blk_cell BK232.out 7).trans rfl
              have hcz30_8 : wc.cell? ⟨gb232, 8, none⟩ = some (.int .i64 a0_8) := (blk_cell BK232.out 8).trans rfl
              have hfz30_0 := blk_frozen BK232.out 0
              have hfz30_1 := blk_frozen BK232.out 1
              have hfz30_2 := blk_frozen BK232.out 2
              have hfz30_3 := blk_frozen BK232.out 3
              have hfz30_4 := blk_frozen BK232.out 4
              have hfz30_5 := blk_frozen BK232.out 5
              have hfz30_6 := blk_frozen BK232.out 6
              have hfz30_7 := blk_frozen BK232.out 7
              have hfz30_8 := blk_frozen BK232.out 8
              go_wp2
              go_meet
              case rel => exact ⟨_, (a0_6), (0), (0), (0), (by first | rfl | (simp; done) | (simp [*]; done)), H', ⟨by have := HJ7.out; have := HJ13.out; have := HJ21.out; first | omega | exact Nat.le_refl _⟩, ⟨by (with_reducible repeat (first | refine blk_drewN ?_ _ | refine blk_drew ?_ | refine blk_alloc ?_ _)); exact BK232.out⟩, ⟨by (with_reducible repeat (first | refine blk_drewN ?_ _ | refine blk_drew ?_ | refine blk_alloc ?_ _)); exact BK233.out⟩, ⟨by repeat (first | (with_reducible first | exact HB.out | apply below_alloc | apply pw_below_drewN | apply below_drew1 | refine below_set ?_ GE232.out | refine below_set ?_ GE233.out) | exact HB.out)⟩⟩
            ·rw [if_neg c25] at H
             have c25b0 : (a1.toList == ([71] : List UInt8)) = false := beq_eq_false_iff_ne.mpr c25
             have c25b1 : (a1.toList != ([71] : List UInt8)) = true := bne_iff_ne.mpr c25
             have H' := Aside0.mk H
             clear H
             have hnb31 := NB232_233.out
             have hnc31 := NB233_232.out
             have hcz32_0 : wc.cell? ⟨gb232, 0, none⟩ = some (.slice A0_0 l0_0.length c0_0) := (blk_cell BK232.out 0).trans rfl
             have hcz32_1 : wc.cell? ⟨gb232, 1, none⟩ = some (.int .i64 a0_1) := (blk_cell BK232.out 1).trans rfl
             have hcz32_2 : wc.cell? ⟨gb232, 2, none⟩ = some (.int .i64 a0_2) := (blk_cell BK232.out 2).trans rfl
             have hcz32_3 : wc.cell? ⟨gb232, 3, none⟩ = some (.int .i64 a0_3) := (blk_cell BK232.out 3).trans rfl
             have hcz32_4 : wc.cell? ⟨gb232, 4, none⟩ = some (.bool a0_4) := (blk_cell BK232.out 4).trans rfl
             have hcz32_5 : wc.cell? ⟨gb232, 5, none⟩ = some (.int .i64 a0_5) := (blk_cell BK232.out 5).trans rfl
             have hcz32_6 : wc.cell? ⟨gb232, 6, none⟩ = some (.int .i64 a0_6) := (blk_cell BK232.out 6).trans rfl
             have hcz32_7 : wc.cell? ⟨gb232, 7, none⟩ = some (.int .i64 a0_7) := (blk_cell BK232.out 7).trans rfl
             have hcz32_8 : wc.cell? ⟨gb232, 8, none⟩ = some (.int .i64 a0_8) := (blk_cell BK232.out 8).trans rfl
             have hfz32_0 := blk_frozen BK232.out 0
             have hfz32_1 := blk_frozen BK232.out 1
             have hfz32_2 := blk_frozen BK232.out 2
             have hfz32_3 := blk_frozen BK232.out 3
             have hfz32_4 := blk_frozen BK232.out 4
             have hfz32_5 := blk_frozen BK232.out 5
             have hfz32_6 := blk_frozen BK232.out 6
             have hfz32_7 := blk_frozen BK232.out 7
             have hfz32_8 := blk_frozen BK232.out 8
             go_wp2
             go_meet
             case rel => exact ⟨_, (wrap64 (a0_3 - 1)), (0), (0), (0), (by first | rfl | (simp; done) | (simp [*]; done)), H', ⟨by have := HJ7.out; have := HJ13.out; have := HJ21.out; first | omega | exact Nat.le_refl _⟩, ⟨by (with_reducible repeat (first | refine blk_drewN ?_ _ | refine blk_drew ?_ | refine blk_alloc ?_ _)); exact BK232.out⟩, ⟨by (with_reducible repeat (first | refine blk_drewN ?_ _ | refine blk_drew ?_ | refine blk_alloc ?_ _)); exact BK233.out⟩, ⟨by repeat (first | (with_reducible first | exact HB.out | apply below_alloc | apply pw_below_drewN | apply below_drew1 | refine below_set ?_ GE232.out | refine below_set ?_ GE233.out) | exact HB.out)⟩⟩
           ·replace c24 := Bool.eq_false_iff.mpr c24
            subst c24
            have H1 : (some (0, 0, 0, 0, 0, false)) = some (r1, r2, r3, r4, r5, r6) := by rw [if_neg (show ¬ (false = true) by decide)] at H; exact H
            clear H
            have H := H1
            clear H1
            simp only [Option.some.injEq, Prod.mk.injEq] at H
            obtain ⟨rfl, rfl, rfl, rfl, rfl, rfl⟩ := H
            have hnb33 := NB233_232.out
            have hnc33 := NB232_233.out
            have hcz34_0 : wc.cell? ⟨gb233, 0, none⟩ = some (.int .i64 0) := (blk_cell BK233.out 0).trans rfl
            have hcz34_1 : wc.cell? ⟨gb233, 1, none⟩ = some (.int .i64 0) := (blk_cell BK233.out 1).trans rfl
            have hcz34_2 : wc.cell? ⟨gb233, 2, none⟩ = some (.int .i64 0) := (blk_cell BK233.out 2).trans rfl
            have hfz34_0 := blk_frozen BK233.out 0
            have hfz34_1 := blk_frozen BK233.out 1
            have hfz34_2 := blk_frozen BK233.out 2
            go_wp2
            refine bodyPost_ret (results_list (rs := [.cell 4 29, .tmp 5, .tmp 6, .tmp 7]) rfl (by simp) (.cell gb233 29 #[.int .i64 0, .int .i64 0, .int .i64 0] (0, 0) _ rfl (by (with_reducible repeat (first | refine blk_drewN ?_ _ | refine blk_drew ?_ | refine blk_alloc ?_ _)); refine blk_put (cs := #[.int .i64 0, .int .i64 0, .int .i64 0]) ?_ 2 _ rfl; (with_reducible repeat (first | refine blk_drewN ?_ _ | refine blk_drew ?_ | refine blk_alloc ?_ _)); refine blk_put (cs := #[.int .i64 0, .int .i64 0, .int .i64 0]) ?_ 1 _ rfl; (with_reducible repeat (first | refine blk_drewN ?_ _ | refine blk_drew ?_ | refine blk_alloc ?_ _)); refine blk_put (cs := #[.int .i64 0, .int .i64 0, .int .i64 0]) ?_ 0 _ rfl; (with_reducible repeat (first | refine blk_drewN ?_ _ | refine blk_drew ?_ | refine blk_alloc ?_ _)); exact BK233.out) Try.underlying29 rfl (by kernel_rfl) (.tmp (.tmp (.tmp .nil))))) rfl ?_
            exact ⟨by first | rfl | (simp [errW_none, errW_some] <;> rfl) | (simp [*, errW_none, errW_some] <;> rfl), by repeat (first | (with_reducible first | exact HB.out | apply below_alloc | apply pw_below_drewN | apply below_drew1 | refine below_set ?_ GE232.out | refine below_set ?_ GE233.out) | exact HB.out)⟩
 case rest =>
  clear HC3
  try clear c1
  try clear c2
  try clear p2
  try clear c3
  try clear c6
  try clear p6
  try clear c9
  try clear c9b0
  try clear c9b1
  try clear c10
  try clear c10b0
  try clear c10b1
  try clear c11
  try clear c12
  try clear c15
  try clear c15b0
  try clear c15b1
  try clear c16
  try clear c17
  try clear c19
  try clear c19b0
  try clear c19b1
  try clear c20
  try clear c23
  try clear c23b0
  try clear c23b1
  try clear c24
  try clear c25
  try clear c25b0
  try clear c25b1
  try clear c26
  try clear c27
  try clear c29
  try clear c30
  try clear c31
  try clear c33
  try clear hcz13_0
  try clear hcz13_1
  try clear hcz13_2
  try clear hcz13_3
  try clear hcz13_4
  try clear hcz13_5
  try clear hcz13_6
  try clear hcz13_7
  try clear hcz13_8
  try clear hcz18_0
  try clear hcz18_1
  try clear hcz18_2
  try clear hcz18_3
  try clear hcz18_4
  try clear hcz18_5
  try clear hcz18_6
  try clear hcz18_7
  try clear hcz18_8
  try clear hcz21_0
  try clear hcz21_1
  try clear hcz21_2
  try clear hcz21_3
  try clear hcz21_4
  try clear hcz21_5
  try clear hcz21_6
  try clear hcz21_7
  try clear hcz21_8
  try clear hcz28_0
  try clear hcz28_1
  try clear hcz28_2
  try clear hcz28_3
  try clear hcz28_4
  try clear hcz28_5
  try clear hcz28_6
  try clear hcz28_7
  try clear hcz28_8
  try clear hcz30_0
  try clear hcz30_1
  try clear hcz30_2
  try clear hcz30_3
  try clear hcz30_4
  try clear hcz30_5
  try clear hcz30_6
  try clear hcz30_7
  try clear hcz30_8
  try clear hcz32_0
  try clear hcz32_1
  try clear hcz32_2
  try clear hcz32_3
  try clear hcz32_4
  try clear hcz32_5
  try clear hcz32_6
  try clear hcz32_7
  try clear hcz32_8
  try clear hcz34_0
  try clear hcz34_1
  try clear hcz34_2
  try clear hcz7_0
  try clear hcz7_1
  try clear hcz7_2
  try clear hcz7_3
  try clear hcz7_4
  try clear hcz7_5
  try clear hcz7_6
  try clear hcz7_7
  try clear hcz7_8
  try clear hfz13_0
  try clear hfz13_1
  try clear hfz13_2
  try clear hfz13_3
  try clear hfz13_4
  try clear hfz13_5
  try clear hfz13_6
  try clear hfz13_7
  try clear hfz13_8
  try clear hfz18_0
  try clear hfz18_1
  try clear hfz18_2
  try clear hfz18_3
  try clear hfz18_4
  try clear hfz18_5
  try clear hfz18_6
  try clear hfz18_7
  try clear hfz18_8
  try clear hfz21_0
  try clear hfz21_1
  try clear hfz21_2
  try clear hfz21_3
  try clear hfz21_4
  try clear hfz21_5
  try clear hfz21_6
  try clear hfz21_7
  try clear hfz21_8
  try clear hfz28_0
  try clear hfz28_1
  try clear hfz28_2
  try clear hfz28_3
  try clear hfz28_4
  try clear hfz28_5
  try clear hfz28_6
  try clear hfz28_7
  try clear hfz28_8
  try clear hfz30_0
  try clear hfz30_1
  try clear hfz30_2
  try clear hfz30_3
  try clear hfz30_4
  try clear hfz30_5
  try clear hfz30_6
  try clear hfz30_7
  try clear hfz30_8
  try clear hfz32_0
  try clear hfz32_1
  try clear hfz32_2
  try clear hfz32_3
  try clear hfz32_4
  try clear hfz32_5
  try clear hfz32_6
  try clear hfz32_7
  try clear hfz32_8
  try clear hfz34_0
  try clear hfz34_1
  try clear hfz34_2
  try clear hfz7_0
  try clear hfz7_1
  try clear hfz7_2
  try clear hfz7_3
  try clear hfz7_4
  try clear hfz7_5
  try clear hfz7_6
  try clear hfz7_7
  try clear hfz7_8
  try clear p2
  try clear p6
  obtain ⟨kq, x8_2, x234000_2, x234001_2, x234002_2, rfl, HA, HJ2, BK232, BK233, HB⟩ := hcut
  cases kq with
  | zero => exact absurd HA.out (by simp [step_walk_lines.j3])
  | succ kj2 =>
   have H := HA.out
   clear HA
   simp only [step_walk_lines.j3] at H
   have HC35 := Aside0.mk H
   clear H
   go_upto_region 18 with (fail)
   go_cut [61] (fun v61 wc => ∃ (kq : Nat) (x61_34 : Bool), v61 = .bool x61_34 ∧ Aside0 (step_walk_lines.j4 kq a1 x8_2 x61_34 l0_0 a0_1 a0_2 a0_3 a0_4 a0_5 a0_6 a0_7 a0_8 = some (r1, r2, r3, r4, r5, r6)) ∧ Aside0 (kq ≤ kj2) ∧ Aside0 (wc.heap[gb232]? = some (.cells #[(.slice A0_0 l0_0.length c0_0), .int .i64 a0_1, .int .i64 a0_2, .int .i64 a0_3, .bool a0_4, .int .i64 a0_5, .int .i64 a0_6, .int .i64 a0_7, .int .i64 a0_8] 51 (0, 0))) ∧ Aside0 (wc.heap[gb233]? = some (.cells #[.int .i64 x234000_2, .int .i64 x234001_2, .int .i64 x234002_2] 29 (0, 0))) ∧ Aside0 (Below w.heap.size w wc))
   case first =>
    have H := HC35.out
    clear HC35
    by_cases c36 : x8_2 < 0
    ·rw [if_pos c36] at H
     have c36b0 : decide (x8_2 < 0) = true := decide_eq_true c36
     clear c36
     (first | rw [c36b0] | (simp only [i64_w, i32_w]; rw [c36b0]) | skip)
     have H' := Aside0.mk H
     clear H
     go_wp2
     go_meet
     case rel => exact ⟨_, (true), (by first | rfl | (simp; done) | (simp [*]; done)), H', ⟨by have := HJ2.out; first | omega | exact Nat.le_refl _⟩, ⟨by (with_reducible repeat (first | refine blk_drewN ?_ _ | refine blk_drew ?_ | refine blk_alloc ?_ _)); exact BK232.out⟩, ⟨by (with_reducible repeat (first | refine blk_drewN ?_ _ | refine blk_drew ?_ | refine blk_alloc ?_ _)); exact BK233.out⟩, ⟨by repeat (first | (with_reducible first | exact HB.out | apply below_alloc | apply pw_below_drewN | apply below_drew1 | refine below_set ?_ GE232.out | refine below_set ?_ GE233.out) | exact HB.out)⟩⟩
    ·rw [if_neg c36] at H
     have c36b0 : decide (x8_2 < 0) = false := decide_eq_false c36
     clear c36
     (first | rw [c36b0] | (simp only [i64_w, i32_w]; rw [c36b0]) | skip)
     have H' := Aside0.mk H
     clear H
     have hnb37 := NB232_233.out
     have hnc37 := NB233_232.out
     have hcz38_0 : wc.cell? ⟨gb232, 0, none⟩ = some (.slice A0_0 l0_0.length c0_0) := (blk_cell BK232.out 0).trans rfl
     have hcz38_1 : wc.cell? ⟨gb232, 1, none⟩ = some (.int .i64 a0_1) := (blk_cell BK232.out 1).trans rfl
     have hcz38_2 : wc.cell? ⟨gb232, 2, none⟩ = some (.int .i64 a0_2) := (blk_cell BK232.out 2).trans rfl
     have hcz38_3 : wc.cell? ⟨gb232, 3, none⟩ = some (.int .i64 a0_3) := (blk_cell BK232.out 3).trans rfl
     have hcz38_4 : wc.cell? ⟨gb232, 4, none⟩ = some (.bool a0_4) := (blk_cell BK232.out 4).trans rfl
     have hcz38_5 : wc.cell? ⟨gb232, 5, none⟩ = some (.int .i64 a0_5) := (blk_cell BK232.out 5).trans rfl
     have hcz38_6 : wc.cell? ⟨gb232, 6, none⟩ = some (.int .i64 a0_6) := (blk_cell BK232.out 6).trans rfl
     have hcz38_7 : wc.cell? ⟨gb232, 7, none⟩ = some (.int .i64 a0_7) := (blk_cell BK232.out 7).trans rfl
     have hcz38_8 : wc.cell? ⟨gb232, 8, none⟩ = some (.int .i64 a0_8) := (blk_cell BK232.out 8).trans rfl
     have hfz38_0 := blk_frozen BK232.out 0
     have hfz38_1 := blk_frozen BK232.out 1
     have hfz38_2 := blk_frozen BK232.out 2
     have hfz38_3 := blk_frozen BK232.out 3
     have hfz38_4 := blk_frozen BK232.out 4
     have hfz38_5 := blk_frozen BK232.out 5
     have hfz38_6 := blk_frozen BK232.out 6
     have hfz38_7 := blk_frozen BK232.out 7
     have hfz38_8 := blk_frozen BK232.out 8
     go_wp2
     go_meet
     case rel => exact ⟨_, (decide (x8_2 > a0_6)), (by first | rfl | (simp; done) | (simp [*]; done)), H', ⟨by have := HJ2.out; first | omega | exact Nat.le_refl _⟩, ⟨by (with_reducible repeat (first | refine blk_drewN ?_ _ | refine blk_drew ?_ | refine blk_alloc ?_ _)); exact BK232.out⟩, ⟨by (with_reducible repeat (first | refine blk_drewN ?_ _ | refine blk_drew ?_ | refine blk_alloc ?_ _)); exact BK233.out⟩, ⟨by repeat (first | (with_reducible first | exact HB.out | apply below_alloc | apply pw_below_drewN | apply below_drew1 | refine below_set ?_ GE232.out | refine below_set ?_ GE233.out) | exact HB.out)⟩⟩
   case rest =>
    clear HC35
    try clear c1
    try clear c2
    try clear p2
    try clear c3
    try clear c6
    try clear p6
    try clear c9
    try clear c9b0
    try clear c9b1
    try clear c10
    try clear c10b0
    try clear c10b1
    try clear c11
    try clear c12
    try clear c15
    try clear c15b0
    try clear c15b1
    try clear c16
    try clear c17
    try clear c19
    try clear c19b0
    try clear c19b1
    try clear c20
    try clear c23
    try clear c23b0
    try clear c23b1
    try clear c24
    try clear c25
    try clear c25b0
    try clear c25b1
    try clear c26
    try clear c27
    try clear c29
    try clear c30
    try clear c31
    try clear c33
    try clear c36
    try clear c36b0
    try clear c37
    try clear hcz13_0
    try clear hcz13_1
    try clear hcz13_2
    try clear hcz13_3
    try clear hcz13_4
    try clear hcz13_5
    try clear hcz13_6
    try clear hcz13_7
    try clear hcz13_8
    try clear hcz18_0
    try clear hcz18_1
    try clear hcz18_2
    try clear hcz18_3
    try clear hcz18_4
    try clear hcz18_5
    try clear hcz18_6
    try clear hcz18_7
    try clear hcz18_8
    try clear hcz21_0
    try clear hcz21_1
    try clear hcz21_2
    try clear hcz21_3
    try clear hcz21_4
    try clear hcz21_5
    try clear hcz21_6
    try clear hcz21_7
    try clear hcz21_8
    try clear hcz28_0
    try clear hcz28_1
    try clear hcz28_2
    try clear hcz28_3
    try clear hcz28_4
    try clear hcz28_5
    try clear hcz28_6
    try clear hcz28_7
    try clear hcz28_8
    try clear hcz30_0
    try clear hcz30_1
    try clear hcz30_2
    try clear hcz30_3
    try clear hcz30_4
    try clear hcz30_5
    try clear hcz30_6
    try clear hcz30_7
    try clear hcz30_8
    try clear hcz32_0
    try clear hcz32_1
    try clear hcz32_2
    try clear hcz32_3
    try clear hcz32_4
    try clear hcz32_5
    try clear hcz32_6
    try clear hcz32_7
    try clear hcz32_8
    try clear hcz34_0
    try clear hcz34_1
    try clear hcz34_2
    try clear hcz38_0
    try clear hcz38_1
    try clear hcz38_2
    try clear hcz38_3
    try clear hcz38_4
    try clear hcz38_5
    try clear hcz38_6
    try clear hcz38_7
    try clear hcz38_8
    try clear hcz7_0
    try clear hcz7_1
    try clear hcz7_2
    try clear hcz7_3
    try clear hcz7_4
    try clear hcz7_5
    try clear hcz7_6
    try clear hcz7_7
    try clear hcz7_8
    try clear hfz13_0
    try clear hfz13_1
    try clear hfz13_2
    try clear hfz13_3
    try clear hfz13_4
    try clear hfz13_5
    try clear hfz13_6
    try clear hfz13_7
    try clear hfz13_8
    try clear hfz18_0
    try clear hfz18_1
    try clear hfz18_2
    try clear hfz18_3
    try clear hfz18_4
    try clear hfz18_5
    try clear hfz18_6
    try clear hfz18_7
    try clear hfz18_8
    try clear hfz21_0
    try clear hfz21_1
    try clear hfz21_2
    try clear hfz21_3
    try clear hfz21_4
    try clear hfz21_5
    try clear hfz21_6
    try clear hfz21_7
    try clear hfz21_8
    try clear hfz28_0
    try clear hfz28_1
    try clear hfz28_2
    try clear hfz28_3
    try clear hfz28_4
    try clear hfz28_5
    try clear hfz28_6
    try clear hfz28_7
    try clear hfz28_8
    try clear hfz30_0
    try clear hfz30_1
    try clear hfz30_2
    try clear hfz30_3
    try clear hfz30_4
    try clear hfz30_5
    try clear hfz30_6
    try clear hfz30_7
    try clear hfz30_8
    try clear hfz32_0
    try clear hfz32_1
    try clear hfz32_2
    try clear hfz32_3
    try clear hfz32_4
    try clear hfz32_5
    try clear hfz32_6
    try clear hfz32_7
    try clear hfz32_8
    try clear hfz34_0
    try clear hfz34_1
    try clear hfz34_2
    try clear hfz38_0
    try clear hfz38_1
    try clear hfz38_2
    try clear hfz38_3
    try clear hfz38_4
    try clear hfz38_5
    try clear hfz38_6
    try clear hfz38_7
    try clear hfz38_8
    try clear hfz7_0
    try clear hfz7_1
    try clear hfz7_2
    try clear hfz7_3
    try clear hfz7_4
    try clear hfz7_5
    try clear hfz7_6
    try clear hfz7_7
    try clear hfz7_8
    try clear p2
    try clear p6
    obtain ⟨kq, x61_34, rfl, HA, HJ34, BK232, BK233, HB⟩ := hcut
    cases kq with
    | zero => exact absurd HA.out (by simp [step_walk_lines.j4])
    | succ kj34 =>
     have H := HA.out
     clear HA
     simp only [step_walk_lines.j4] at H
     by_cases c39 : x61_34 = true
     ·subst c39
      have H1 : ((step_walk_fails.f l0_0 a0_1 a0_2 a0_3 a0_4 a0_5 a0_6 a0_7 a0_8).bind fun bt234 => (some (bt234.1, bt234.2.1, bt234.2.2.1, bt234.2.2.2.1, bt234.2.2.2.2.1, bt234.2.2.2.2.2))) = some (r1, r2, r3, r4, r5, r6) := by rw [if_pos rfl] at H; exact H
      clear H
      have H := H1
      clear H1
      replace H := Option.bind_eq_some_iff.mp H
      obtain ⟨⟨t234, t235, t236, t237, t238, t239⟩, A400, H⟩ := H
      replace H : (some (t234, t235, t236, t237, t238, t239)) = some (r1, r2, r3, r4, r5, r6) := H
      have A40 := Aside0.mk A400
      clear A400
      simp only [Option.some.injEq, Prod.mk.injEq] at H
      obtain ⟨rfl, rfl, rfl, rfl, rfl, rfl⟩ := H
      have hnb41 := NB232_233.out
      have hnc41 := NB233_232.out
      have hcz42_0 : wc.cell? ⟨gb232, 0, none⟩ = some (.slice A0_0 l0_0.length c0_0) := (blk_cell BK232.out 0).trans rfl
      have hcz42_1 : wc.cell? ⟨gb232, 1, none⟩ = some (.int .i64 a0_1) := (blk_cell BK232.out 1).trans rfl
      have hcz42_2 : wc.cell? ⟨gb232, 2, none⟩ = some (.int .i64 a0_2) := (blk_cell BK232.out 2).trans rfl
      have hcz42_3 : wc.cell? ⟨gb232, 3, none⟩ = some (.int .i64 a0_3) := (blk_cell BK232.out 3).trans rfl
      have hcz42_4 : wc.cell? ⟨gb232, 4, none⟩ = some (.bool a0_4) := (blk_cell BK232.out 4).trans rfl
      have hcz42_5 : wc.cell? ⟨gb232, 5, none⟩ = some (.int .i64 a0_5) := (blk_cell BK232.out 5).trans rfl
      have hcz42_6 : wc.cell? ⟨gb232, 6, none⟩ = some (.int .i64 a0_6) := (blk_cell BK232.out 6).trans rfl
      have hcz42_7 : wc.cell? ⟨gb232, 7, none⟩ = some (.int .i64 a0_7) := (blk_cell BK232.out 7).trans rfl
      have hcz42_8 : wc.cell? ⟨gb232, 8, none⟩ = some (.int .i64 a0_8) := (blk_cell BK232.out 8).trans rfl
      have hfz42_0 := blk_frozen BK232.out 0
      have hfz42_1 := blk_frozen BK232.out 1
      have hfz42_2 := blk_frozen BK232.out 2
      have hfz42_3 := blk_frozen BK232.out 3
      have hfz42_4 := blk_frozen BK232.out 4
      have hfz42_5 := blk_frozen BK232.out 5
      have hfz42_6 := blk_frozen BK232.out 6
      have hfz42_7 := blk_frozen BK232.out 7
      have hfz42_8 := blk_frozen BK232.out 8
      go_wp2_with (first | ((with_reducible refine gate_callee (f := 42) rfl ?_); refine goesL_ (some 63) rfl rfl Try.func42 (by kernel_rfl) rfl #[.agg #[.slice A0_0 l0_0.length c0_0, .int .i64 a0_1, .int .i64 a0_2, .int .i64 a0_3, .bool a0_4, .int .i64 a0_5, .int .i64 a0_6, .int .i64 a0_7, .int .i64 a0_8]] rfl (by (try simp only [List.map_toArray, List.map_cons, List.map_nil]); first | done | rfl | (simp only [List.length_drop, List.length_take]; rfl)) ?_; (with_reducible refine (step_walk_fails.calls _ _ l0_0 a0_1 a0_2 a0_3 a0_4 a0_5 a0_6 a0_7 a0_8 t234 t235 t236 t237 t238 t239 _ ?side1 ?side2 A40.out).mono ?_); (case side1 => repeat (first | exact (Kd.C_below HR0_0.out HB.out) | (with_reducible refine Kd.C_alloc ?_ _) | (with_reducible refine Kd.C_drewN ?_ _) | (with_reducible refine Kd.C_drew ?_))); (case side2 => exact HC0_0.out); rintro e w43 ⟨rfl, hb⟩; refine ⟨_, rfl, ?_⟩; have n0_ := Aside0.mk (blk_below (g := gb232) (o := .cells #[.slice A0_0 l0_0.length c0_0, .int .i64 a0_1, .int .i64 a0_2, .int .i64 a0_3, .bool a0_4, .int .i64 a0_5, .int .i64 a0_6, .int .i64 a0_7, .int .i64 a0_8] 51 (0, 0)) (by (with_reducible repeat (first | refine blk_drewN ?_ _ | refine blk_drew ?_ | refine blk_alloc ?_ _)); exact BK232.out) hb); have n1_ := Aside0.mk (blk_below (g := gb233) (o := .cells #[.int .i64 x234000_2, .int .i64 x234001_2, .int .i64 x234002_2] 29 (0, 0)) (by (with_reducible repeat (first | refine blk_drewN ?_ _ | refine blk_drew ?_ | refine blk_alloc ?_ _)); exact BK233.out) hb); have n2_ := Aside0.mk (below_step (by repeat (first | (with_reducible first | exact HB.out | apply below_alloc | apply pw_below_drewN | apply below_drew1 | refine below_set ?_ GE232.out | refine below_set ?_ GE233.out) | exact HB.out)) hb); clear BK232; clear BK233; clear HB; have BK232 := n0_; have BK233 := n1_; have HB := n2_; clear n0_ n1_ n2_; (try clear hb); (try clear hb2); (try clear hk); (try clear hi); have hcz44_0 : w43.cell? ⟨gb233, 0, none⟩ = some (.int .i64 x234000_2) := (blk_cell BK233.out 0).trans rfl; have hcz44_1 : w43.cell? ⟨gb233, 1, none⟩ = some (.int .i64 x234001_2) := (blk_cell BK233.out 1).trans rfl; have hcz44_2 : w43.cell? ⟨gb233, 2, none⟩ = some (.int .i64 x234002_2) := (blk_cell BK233.out 2).trans rfl; have hfz44_0 := blk_frozen BK233.out 0; have hfz44_1 := blk_frozen BK233.out 1; have hfz44_2 := blk_frozen BK233.out 2))
      refine bodyPost_ret (results_list (rs := [.cell 4 29, .tmp 5, .tmp 6, .tmp 7]) rfl (by simp) (.cell gb233 29 #[.int .i64 t234, .int .i64 t235, .int .i64 t236] (0, 0) _ rfl (by (with_reducible repeat (first | refine blk_drewN ?_ _ | refine blk_drew ?_ | refine blk_alloc ?_ _)); refine blk_put (cs := #[.int .i64 t234, .int .i64 t235, .int .i64 x234002_2]) ?_ 2 _ rfl; (with_reducible repeat (first | refine blk_drewN ?_ _ | refine blk_drew ?_ | refine blk_alloc ?_ _)); refine blk_put (cs := #[.int .i64 t234, .int .i64 x234001_2, .int .i64 x234002_2]) ?_ 1 _ rfl; (with_reducible repeat (first | refine blk_drewN ?_ _ | refine blk_drew ?_ | refine blk_alloc ?_ _)); refine blk_put (cs := #[.int .i64 x234000_2, .int .i64 x234001_2, .int .i64 x234002_2]) ?_ 0 _ rfl; (with_reducible repeat (first | refine blk_drewN ?_ _ | refine blk_drew ?_ | refine blk_alloc ?_ _)); exact BK233.out) Try.underlying29 rfl (by kernel_rfl) (.tmp (.tmp (.tmp .nil))))) rfl ?_
      exact ⟨by first | rfl | (simp [errW_none, errW_some] <;> rfl) | (simp [*, errW_none, errW_some] <;> rfl), by repeat (first | (with_reducible first | exact HB.out | apply below_alloc | apply pw_below_drewN | apply below_drew1 | refine below_set ?_ GE232.out | refine below_set ?_ GE233.out) | exact HB.out)⟩
     ·replace c39 := Bool.eq_false_iff.mpr c39
      subst c39
      have H1 : (if a1.toList = ([106] : List UInt8) then (step_walk_lines.j5 kj34 x8_2 true l0_0 a0_1 a0_2 a0_3 a0_4 a0_5 a0_6 a0_7 a0_8) else (step_walk_lines.j5 kj34 x8_2 (a1.toList == ([107] : List UInt8)) l0_0 a0_1 a0_2 a0_3 a0_4 a0_5 a0_6 a0_7 a0_8)) = some (r1, r2, r3, r4, r5, r6) := by rw [if_neg (show ¬ (false = true) by decide)] at H; exact H
      clear H
      have H := H1
      clear H1
      have HC45 := Aside0.mk H
      clear H
      go_upto_region 20 with (fail)
      go_cut [73] (fun v73 wc => ∃ (kq : Nat) (x73_44 : Bool), v73 = .bool x73_44 ∧ Aside0 (step_walk_lines.j5 kq x8_2 x73_44 l0_0 a0_1 a0_2 a0_3 a0_4 a0_5 a0_6 a0_7 a0_8 = some (r1, r2, r3, r4, r5, r6)) ∧ Aside0 (kq ≤ kj34) ∧ Aside0 (wc.heap[gb232]? = some (.cells #[(.slice A0_0 l0_0.length c0_0), .int .i64 a0_1, .int .i64 a0_2, .int .i64 a0_3, .bool a0_4, .int .i64 a0_5, .int .i64 a0_6, .int .i64 a0_7, .int .i64 a0_8] 51 (0, 0))) ∧ Aside0 (wc.heap[gb233]? = some (.cells #[.int .i64 x234000_2, .int .i64 x234001_2, .int .i64 x234002_2] 29 (0, 0))) ∧ Aside0 (Below w.heap.size w wc))
      case first =>
       have H := HC45.out
       clear HC45
       by_cases c46 : a1.toList = ([106] : List UInt8)
       ·rw [if_pos c46] at H
        have c46b0 : (a1.toList == ([106] : List UInt8)) = true := beq_iff_eq.mpr c46
        have c46b1 : (a1.toList != ([106] : List UInt8)) = false := bne_eq_false_iff_eq.mpr c46
        clear c46
        (first | rw [c46b0] | (simp only [i64_w, i32_w]; rw [c46b0]) | skip)
        have H' := Aside0.mk H
        clear H
        go_wp2
        go_meet
        case rel => exact ⟨_, (true), (by first | rfl | (simp; done) | (simp [*]; done)), H', ⟨by have := HJ2.out; have := HJ34.out; first | omega | exact Nat.le_refl _⟩, ⟨by (with_reducible repeat (first | refine blk_drewN ?_ _ | refine blk_drew ?_ | refine blk_alloc ?_ _)); exact BK232.out⟩, ⟨by (with_reducible repeat (first | refine blk_drewN ?_ _ | refine blk_drew ?_ | refine blk_alloc ?_ _)); exact BK233.out⟩, ⟨by repeat (first | (with_reducible first | exact HB.out | apply below_alloc | apply pw_below_drewN | apply below_drew1 | refine below_set ?_ GE232.out | refine below_set ?_ GE233.out) | exact HB.out)⟩⟩
       ·rw [if_neg c46] at H
        have c46b0 : (a1.toList == ([106] : List UInt8)) = false := beq_eq_false_iff_ne.mpr c46
        have c46b1 : (a1.toList != ([106] : List UInt8)) = true := bne_iff_ne.mpr c46
        (first | rw [c46b0] | (simp only [i64_w, i32_w]; rw [c46b0]) | skip)
        have H' := Aside0.mk H
        clear H
        go_wp2
        go_meet
        case rel => exact ⟨_, ((a1.toList == ([107] : List UInt8))), (by first | rfl | (simp; done) | (simp [*]; done)), H', ⟨by have := HJ2.out; have := HJ34.out; first | omega | exact Nat.le_refl _⟩, ⟨by (with_reducible repeat (first | refine blk_drewN ?_ _ | refine blk_drew ?_ | refine blk_alloc ?_ _)); exact BK232.out⟩, ⟨by (with_reducible repeat (first | refine blk_drewN ?_ _ | refine blk_drew ?_ | refine blk_alloc ?_ _)); exact BK233.out⟩, ⟨by repeat (first | (with_reducible first | exact HB.out | apply below_alloc | apply pw_below_drewN | apply below_drew1 | refine below_set ?_ GE232.out | refine below_set ?_ GE233.out) | exact HB.out)⟩⟩
      case rest =>
       clear HC45
       try clear c1
       try clear c2
       try clear p2
       try clear c3
       try clear c4
       try clear c6
       try clear p6
       try clear c9
       try clear c9b0
       try clear c9b1
       try clear c10
       try clear c10b0
       try clear c10b1
       try clear c11
       try clear c12
       try clear c15
       try clear c15b0
       try clear c15b1
       try clear c16
       try clear c17
       try clear c19
       try clear c19b0
       try clear c19b1
       try clear c20
       try clear c23
       try clear c23b0
       try clear c23b1
       try clear c24
       try clear c25
       try clear c25b0
       try clear c25b1
       try clear c26
       try clear c27
       try clear c29
       try clear c30
       try clear c31
       try clear c33
       try clear c36
       try clear c36b0
       try clear c37
       try clear c39
       try clear c41
       try clear c42
       try clear c46
       try clear c46b0
       try clear c46b1
       try clear hcz13_0
       try clear hcz13_1
       try clear hcz13_2
       try clear hcz13_3
       try clear hcz13_4
       try clear hcz13_5
       try clear hcz13_6
       try clear hcz13_7
       try clear hcz13_8
       try clear hcz18_0
       try clear hcz18_1
       try clear hcz18_2
       try clear hcz18_3
       try clear hcz18_4
       try clear hcz18_5
       try clear hcz18_6
       try clear hcz18_7
       try clear hcz18_8
       try clear hcz21_0
       try clear hcz21_1
       try clear hcz21_2
       try clear hcz21_3
       try clear hcz21_4
       try clear hcz21_5
       try clear hcz21_6
       try clear hcz21_7
       try clear hcz21_8
       try clear hcz28_0
       try clear hcz28_1
       try clear hcz28_2
       try clear hcz28_3
       try clear hcz28_4
       try clear hcz28_5
       try clear hcz28_6
       try clear hcz28_7
       try clear hcz28_8
       try clear hcz30_0
       try clear hcz30_1
       try clear hcz30_2
       try clear hcz30_3
       try clear hcz30_4
       try clear hcz30_5
       try clear hcz30_6
       try clear hcz30_7
       try clear hcz30_8
       try clear hcz32_0
       try clear hcz32_1
       try clear hcz32_2
       try clear hcz32_3
       try clear hcz32_4
       try clear hcz32_5
       try clear hcz32_6
       try clear hcz32_7
       try clear hcz32_8
       try clear hcz34_0
       try clear hcz34_1
       try clear hcz34_2
       try clear hcz38_0
       try clear hcz38_1
       try clear hcz38_2
       try clear hcz38_3
       try clear hcz38_4
       try clear hcz38_5
       try clear hcz38_6
       try clear hcz38_7
       try clear hcz38_8
       try clear hcz42_0
       try clear hcz42_1
       try clear hcz42_2
       try clear hcz42_3
       try clear hcz42_4
       try clear hcz42_5
       try clear hcz42_6
       try clear hcz42_7
       try clear hcz42_8
       try clear hcz44_0
       try clear hcz44_1
       try clear hcz44_2
       try clear hcz7_0
       try clear hcz7_1
       try clear hcz7_2
       try clear hcz7_3
       try clear hcz7_4
       try clear hcz7_5
       try clear hcz7_6
       try clear hcz7_7
       try clear hcz7_8
       try clear hfz13_0
       try clear hfz13_1
       try clear hfz13_2
       try clear hfz13_3
       try clear hfz13_4
       try clear hfz13_5
       try clear hfz13_6
       try clear hfz13_7
       try clear hfz13_8
       try clear hfz18_0
       try clear hfz18_1
       try clear hfz18_2
       try clear hfz18_3
       try clear hfz18_4
       try clear hfz18_5
       try clear hfz18_6
       try clear hfz18_7
       try clear hfz18_8
       try clear hfz21_0
       try clear hfz21_1
       try clear hfz21_2
       try clear hfz21_3
       try clear hfz21_4
       try clear hfz21_5
       try clear hfz21_6
       try clear hfz21_7
       try clear hfz21_8
       try clear hfz28_0
       try clear hfz28_1
       try clear hfz28_2
       try clear hfz28_3
       try clear hfz28_4
       try clear hfz28_5
       try clear hfz28_6
       try clear hfz28_7
       try clear hfz28_8
       try clear hfz30_0
       try clear hfz30_1
       try clear hfz30_2
       try clear hfz30_3
       try clear hfz30_4
       try clear hfz30_5
       try clear hfz30_6
       try clear hfz30_7
       try clear hfz30_8
       try clear hfz32_0
       try clear hfz32_1
       try clear hfz32_2
       try clear hfz32_3
       try clear hfz32_4
       try clear hfz32_5
       try clear hfz32_6
       try clear hfz32_7
       try clear hfz32_8
       try clear hfz34_0
       try clear hfz34_1
       try clear hfz34_2
       try clear hfz38_0
       try clear hfz38_1
       try clear hfz38_2
       try clear hfz38_3
       try clear hfz38_4
       try clear hfz38_5
       try clear hfz38_6
       try clear hfz38_7
       try clear hfz38_8
       try clear hfz42_0
       try clear hfz42_1
       try clear hfz42_2
       try clear hfz42_3
       try clear hfz42_4
       try clear hfz42_5
       try clear hfz42_6
       try clear hfz42_7
       try clear hfz42_8
       try clear hfz44_0
       try clear hfz44_1
       try clear hfz44_2
       try clear hfz7_0
       try clear hfz7_1
       try clear hfz7_2
       try clear hfz7_3
       try clear hfz7_4
       try clear hfz7_5
       try clear hfz7_6
       try clear hfz7_7
       try clear hfz7_8
       try clear p2
       try clear p6
       obtain ⟨kq, x73_44, rfl, HA, HJ44, BK232, BK233, HB⟩ := hcut
       cases kq with
       | zero => exact absurd HA.out (by simp [step_walk_lines.j5])
       | succ kj44 =>
        have H := HA.out
        clear HA
        simp only [step_walk_lines.j5] at H
        by_cases c47 : x73_44 = true
        ·subst c47
         have H1 : ((lines_At.f kj44 l0_0 x8_2 a0_2).bind fun bt240 => (some (a0_1, bt240.1, 3, a0_2, 0, true))) = some (r1, r2, r3, r4, r5, r6) := by rw [if_pos rfl] at H; exact H
         clear H
         have H := H1
         clear H1
         replace H := Option.bind_eq_some_iff.mp H
         obtain ⟨⟨t240, t241⟩, A480, H⟩ := H
         replace H : (some (a0_1, t240, 3, a0_2, 0, true)) = some (r1, r2, r3, r4, r5, r6) := H
         have A48 := Aside0.mk A480
         clear A480
         simp only [Option.some.injEq, Prod.mk.injEq] at H
         obtain ⟨rfl, rfl, rfl, rfl, rfl, rfl⟩ := H
         have hnb49 := NB232_233.out
         have hnc49 := NB233_232.out
         have hcz50_0 : wc.cell? ⟨gb232, 0, none⟩ = some (.slice A0_0 l0_0.length c0_0) := (blk_cell BK232.out 0).trans rfl
         have hcz50_1 : wc.cell? ⟨gb232, 1, none⟩ = some (.int .i64 a0_1) := (blk_cell BK232.out 1).trans rfl
         have hcz50_2 : wc.cell? ⟨gb232, 2, none⟩ = some (.int .i64 a0_2) := (blk_cell BK232.out 2).trans rfl
         have hcz50_3 : wc.cell? ⟨gb232, 3, none⟩ = some (.int .i64 a0_3) := (blk_cell BK232.out 3).trans rfl
         have hcz50_4 : wc.cell? ⟨gb232, 4, none⟩ = some (.bool a0_4) := (blk_cell BK232.out 4).trans rfl
         have hcz50_5 : wc.cell? ⟨gb232, 5, none⟩ = some (.int .i64 a0_5) := (blk_cell BK232.out 5).trans rfl
         have hcz50_6 : wc.cell? ⟨gb232, 6, none⟩ = some (.int .i64 a0_6) := (blk_cell BK232.out 6).trans rfl
         have hcz50_7 : wc.cell? ⟨gb232, 7, none⟩ = some (.int .i64 a0_7) := (blk_cell BK232.out 7).trans rfl
         have hcz50_8 : wc.cell? ⟨gb232, 8, none⟩ = some (.int .i64 a0_8) := (blk_cell BK232.out 8).trans rfl
         have hfz50_0 := blk_frozen BK232.out 0
         have hfz50_1 := blk_frozen BK232.out 1
         have hfz50_2 := blk_frozen BK232.out 2
         have hfz50_3 := blk_frozen BK232.out 3
         have hfz50_4 := blk_frozen BK232.out 4
         have hfz50_5 := blk_frozen BK232.out 5
         have hfz50_6 := blk_frozen BK232.out 6
         have hfz50_7 := blk_frozen BK232.out 7
         have hfz50_8 := blk_frozen BK232.out 8
         try go_wp2_with (first | ((with_reducible refine gate_callee (f := 15) rfl ?_); refine goesL_ (some 80) rfl rfl Try.func15 (by kernel_rfl) rfl #[.slice A0_0 l0_0.length c0_0, .int .i64 x8_2, .int .i64 a0_2] rfl (by (try simp only [List.map_toArray, List.map_cons, List.map_nil]); first | done | rfl | (simp only [List.length_drop, List.length_take]; rfl)) ?_; (with_reducible refine (lines_At.calls kj44 _ _ l0_0 x8_2 a0_2 t240 t241 _ ?side1 ?side2 A48.out).mono ?_); (case side1 => repeat (first | exact (Kd.C_below HR0_0.out HB.out) | (with_reducible refine Kd.C_alloc ?_ _) | (with_reducible refine Kd.C_drewN ?_ _) | (with_reducible refine Kd.C_drew ?_))); (case side2 => exact HC0_0.out); rintro e w51 ⟨rfl, hb⟩; refine ⟨_, rfl, ?_⟩; have n0_ := Aside0.mk (blk_below (g := gb232) (o := .cells #[.slice A0_0 l0_0.length c0_0, .int .i64 a0_1, .int .i64 a0_2, .int .i64 a0_3, .bool a0_4, .int .i64 a0_5, .int .i64 a0_6, .int .i64 a0_7, .int .i64 a0_8] 51 (0, 0)) (by (with_reducible repeat (first | refine blk_drewN ?_ _ | refine blk_drew ?_ | refine blk_alloc ?_ _)); exact BK232.out) hb); have n1_ := Aside0.mk (blk_below (g := gb233) (o := .cells #[.int .i64 x234000_2, .int .i64 x234001_2, .int .i64 x234002_2] 29 (0, 0)) (by (with_reducible repeat (first | refine blk_drewN ?_ _ | refine blk_drew ?_ | refine blk_alloc ?_ _)); exact BK233.out) hb); have n2_ := Aside0.mk (below_step (by repeat (first | (with_reducible first | exact HB.out | apply below_alloc | apply pw_below_drewN | apply below_drew1 | refine below_set ?_ GE232.out | refine below_set ?_ GE233.out) | exact HB.out)) hb); clear BK232; clear BK233; clear HB; have BK232 := n0_; have BK233 := n1_; have HB := n2_; clear n0_ n1_ n2_; (try clear hb); (try clear hb2); (try clear hk); (try clear hi)))
         have n0_ := Aside0.mk (blk_drew BK232.out)
         have n1_ := Aside0.mk (blk_drew BK233.out)
         have n2_ := Aside0.mk (below_drew1 HB.out)
         clear BK232
         clear BK233
         clear HB
         have BK232 := n0_
         have BK233 := n1_
         have HB := n2_
         clear n0_ n1_ n2_
         refine start_ (n := 10) (S := fun w' => w'.cell? ⟨gb232, 0, none⟩ = some (.slice A0_0 l0_0.length c0_0) ∧ w'.cell? ⟨gb232, 1, none⟩ = some (.int .i64 a0_1) ∧ w'.cell? ⟨gb232, 2, none⟩ = some (.int .i64 a0_2) ∧ w'.cell? ⟨gb232, 3, none⟩ = some (.int .i64 a0_3) ∧ w'.cell? ⟨gb232, 4, none⟩ = some (.bool a0_4) ∧ w'.cell? ⟨gb232, 5, none⟩ = some (.int .i64 a0_5) ∧ w'.cell? ⟨gb232, 6, none⟩ = some (.int .i64 a0_6) ∧ w'.cell? ⟨gb232, 7, none⟩ = some (.int .i64 a0_7) ∧ w'.cell? ⟨gb232, 8, none⟩ = some (.int .i64 a0_8)) (ds := []) #[false, false, false, false, false, false, false, false, false, false] (by kernel_rfl) rfl rfl ⟨(blk_cell BK232.out 0).trans rfl, (blk_cell BK232.out 1).trans rfl, (blk_cell BK232.out 2).trans rfl, (blk_cell BK232.out 3).trans rfl, (blk_cell BK232.out 4).trans rfl, (blk_cell BK232.out 5).trans rfl, (blk_cell BK232.out 6).trans rfl, (blk_cell BK232.out 7).trans rfl, (blk_cell BK232.out 8).trans rfl⟩ (fun hHeld => ?_); refine with_tabW step_walk_lines.tab22 step_walk_lines.bits22 (fun HT_ HW_ => ?_)
         generalize w51.drew = w52 at BK232 BK233 HB hHeld ⊢
         refine pure_ (i := 0) (N := some 83) (v := ?_) (a' := ?_) #[true, false, false, false, false, false, false, false, false, false] rfl rfl (any_of HT_.out (by kernel_rfl)) (fun _ _ _ h => h) (Or.inl ⟨by rfl, ?_⟩) ?_ ?_
         rotate_left
         ·intro w'
          go_simp
          with_reducible rfl
         rotate_left
         ·simp only [Act.put, List.setIfInBounds_toArray, List.set_cons_zero, List.set_cons_succ, i64_w, i32_w]
          rfl
         refine pure_ (i := 2) (N := some 85) (v := ?_) (a' := ?_) #[true, false, true, false, false, false, false, false, false, false] rfl rfl (any_of HT_.out (by kernel_rfl)) (fun _ _ _ h => h) (Or.inl ⟨by rfl, ?_⟩) ?_ ?_
         rotate_left
         ·intro w'
          go_simp
          with_reducible rfl
         rotate_left
         ·simp only [Act.put, List.setIfInBounds_toArray, List.set_cons_zero, List.set_cons_succ, i64_w, i32_w]
          rfl
         refine pure_ (i := 4) (N := some 87) (v := ?_) (a' := ?_) #[true, false, true, false, true, false, false, false, false, false] rfl rfl (any_of HT_.out (by kernel_rfl)) (fun _ _ _ h => h) (Or.inl ⟨by rfl, ?_⟩) ?_ ?_
         rotate_left
         ·intro w'
          go_simp
          with_reducible rfl
         rotate_left
         ·simp only [Act.put, List.setIfInBounds_toArray, List.set_cons_zero, List.set_cons_succ, i64_w, i32_w]
          rfl
         refine take_ (i := 1) (N := some 84) (v := ?_) (a' := ?_) #[true, true, true, false, true, false, false, false, false, false] rfl rfl (take_ofW HT_.out HW_.out (by kernel_rfl)) (fun _ _ _ h => h) (Or.inl ⟨by rfl, ?_⟩) hHeld ?_ ?_
         rotate_left
         ·rintro w' ⟨s0, s1, s2, s3, s4, s5, s6, s7, s8⟩
          go_simp
          with_reducible rfl
         rotate_left
         ·simp only [Act.put, List.setIfInBounds_toArray, List.set_cons_zero, List.set_cons_succ, i64_w, i32_w]
          rfl
         refine pure_ (i := 3) (N := some 86) (v := ?_) (a' := ?_) #[true, true, true, true, true, false, false, false, false, false] rfl rfl (any_of HT_.out (by kernel_rfl)) (fun _ _ _ h => h) (Or.inl ⟨by rfl, ?_⟩) ?_ ?_
         rotate_left
         ·intro w'
          go_simp
          with_reducible rfl
         rotate_left
         ·simp only [Act.put, List.setIfInBounds_toArray, List.set_cons_zero, List.set_cons_succ, i64_w, i32_w]
          rfl
         refine take_ (i := 5) (N := some 88) (v := ?_) (a' := ?_) #[true, true, true, true, true, true, false, false, false, false] rfl rfl (take_ofW HT_.out HW_.out (by kernel_rfl)) (fun _ _ _ h => h) (Or.inl ⟨by rfl, ?_⟩) hHeld ?_ ?_
         rotate_left
         ·rintro w' ⟨s0, s1, s2, s3, s4, s5, s6, s7, s8⟩
          go_simp
          with_reducible rfl
         rotate_left
         ·simp only [Act.put, List.setIfInBounds_toArray, List.set_cons_zero, List.set_cons_succ, i64_w, i32_w]
          rfl
         refine one_ (i := 6) (N := none) #[true, true, true, true, true, true, true, false, false, false] rfl rfl (one_of HT_.out (by kernel_rfl)) (by decide) (fun K hK => ?_)
         have hs53 : w52.cell? ⟨gb233, 0, none⟩ = some (.int .i64 x234000_2) := (blk_cell BK233.out 0).trans rfl
         have hfs53 := blk_frozen BK233.out 0
         have hns53_0 := NB232_233.out
         have hms53_0 := NB233_232.out
         have hs54 : w52.cell? ⟨gb233, 1, none⟩ = some (.int .i64 x234001_2) := (blk_cell BK233.out 1).trans rfl
         have hfs54 := blk_frozen BK233.out 1
         have hns54_0 := NB232_233.out
         have hms54_0 := NB233_232.out
         have hs55 : w52.cell? ⟨gb233, 2, none⟩ = some (.int .i64 x234002_2) := (blk_cell BK233.out 2).trans rfl
         have hfs55 := blk_frozen BK233.out 2
         have hns55_0 := NB232_233.out
         have hms55_0 := NB233_232.out
         refine skip_ (w1 := ?_) (by rfl) rfl ?_ ?_
         rotate_left
         ·go_simp
          rfl
         refine hK.out _ _ ⟨((cell_far (p := ⟨gb233, _, none⟩) NB232_233.out _).trans (((cell_far (p := ⟨gb233, _, none⟩) NB232_233.out _).trans (((cell_far (p := ⟨gb233, _, none⟩) NB232_233.out _).trans (hHeld.1)))))), ((cell_far (p := ⟨gb233, _, none⟩) NB232_233.out _).trans (((cell_far (p := ⟨gb233, _, none⟩) NB232_233.out _).trans (((cell_far (p := ⟨gb233, _, none⟩) NB232_233.out _).trans (hHeld.2.1)))))), ((cell_far (p := ⟨gb233, _, none⟩) NB232_233.out _).trans (((cell_far (p := ⟨gb233, _, none⟩) NB232_233.out _).trans (((cell_far (p := ⟨gb233, _, none⟩) NB232_233.out _).trans (hHeld.2.2.1)))))), ((cell_far (p := ⟨gb233, _, none⟩) NB232_233.out _).trans (((cell_far (p := ⟨gb233, _, none⟩) NB232_233.out _).trans (((cell_far (p := ⟨gb233, _, none⟩) NB232_233.out _).trans (hHeld.2.2.2.1)))))), ((cell_far (p := ⟨gb233, _, none⟩) NB232_233.out _).trans (((cell_far (p := ⟨gb233, _, none⟩) NB232_233.out _).trans (((cell_far (p := ⟨gb233, _, none⟩) NB232_233.out _).trans (hHeld.2.2.2.2.1)))))), ((cell_far (p := ⟨gb233, _, none⟩) NB232_233.out _).trans (((cell_far (p := ⟨gb233, _, none⟩) NB232_233.out _).trans (((cell_far (p := ⟨gb233, _, none⟩) NB232_233.out _).trans (hHeld.2.2.2.2.2.1)))))), ((cell_far (p := ⟨gb233, _, none⟩) NB232_233.out _).trans (((cell_far (p := ⟨gb233, _, none⟩) NB232_233.out _).trans (((cell_far (p := ⟨gb233, _, none⟩) NB232_233.out _).trans (hHeld.2.2.2.2.2.2.1)))))), ((cell_far (p := ⟨gb233, _, none⟩) NB232_233.out _).trans (((cell_far (p := ⟨gb233, _, none⟩) NB232_233.out _).trans (((cell_far (p := ⟨gb233, _, none⟩) NB232_233.out _).trans (hHeld.2.2.2.2.2.2.2.1)))))), ((cell_far (p := ⟨gb233, _, none⟩) NB232_233.out _).trans (((cell_far (p := ⟨gb233, _, none⟩) NB232_233.out _).trans (((cell_far (p := ⟨gb233, _, none⟩) NB232_233.out _).trans (hHeld.2.2.2.2.2.2.2.2))))))⟩ (fun hHeld => ?_)
         clear hK K
         refine pure_ (i := 7) (N := some 5) (v := ?_) (a' := ?_) #[true, true, true, true, true, true, true, true, false, false] rfl rfl (any_of HT_.out (by kernel_rfl)) (fun _ _ _ h => h) (Or.inl ⟨by rfl, ?_⟩) ?_ ?_
         rotate_left
         ·intro w'
          go_simp
          with_reducible rfl
         rotate_left
         ·simp only [Act.put, List.setIfInBounds_toArray, List.set_cons_zero, List.set_cons_succ, i64_w, i32_w]
          rfl
         refine pure_ (i := 8) (N := some 6) (v := ?_) (a' := ?_) #[true, true, true, true, true, true, true, true, true, false] rfl rfl (any_of HT_.out (by kernel_rfl)) (fun _ _ _ h => h) (Or.inl ⟨by rfl, ?_⟩) ?_ ?_
         rotate_left
         ·intro w'
          go_simp
          with_reducible rfl
         rotate_left
         ·simp only [Act.put, List.setIfInBounds_toArray, List.set_cons_zero, List.set_cons_succ, i64_w, i32_w]
          rfl
         refine pure_ (i := 9) (N := some 7) (v := ?_) (a' := ?_) #[true, true, true, true, true, true, true, true, true, true] rfl rfl (any_of HT_.out (by kernel_rfl)) (fun _ _ _ h => h) (Or.inl ⟨by rfl, ?_⟩) ?_ ?_
         rotate_left
         ·intro w'
          go_simp
          with_reducible rfl
         rotate_left
         ·simp only [Act.put, List.setIfInBounds_toArray, List.set_cons_zero, List.set_cons_succ, i64_w, i32_w]
          rfl
         refine done_ (done_of HT_.out (by kernel_rfl)) ?_
         try go_wp2
         refine bodyPost_ret (results_list (rs := [.cell 4 29, .tmp 5, .tmp 6, .tmp 7]) rfl (by simp) (.cell gb233 29 #[.int .i64 a0_1, .int .i64 t240, .int .i64 3] (0, 0) _ rfl (by (with_reducible repeat (first | refine blk_drewN ?_ _ | refine blk_drew ?_ | refine blk_alloc ?_ _)); refine blk_put (cs := #[.int .i64 a0_1, .int .i64 t240, .int .i64 x234002_2]) ?_ 2 _ rfl; (with_reducible repeat (first | refine blk_drewN ?_ _ | refine blk_drew ?_ | refine blk_alloc ?_ _)); refine blk_put (cs := #[.int .i64 a0_1, .int .i64 x234001_2, .int .i64 x234002_2]) ?_ 1 _ rfl; (with_reducible repeat (first | refine blk_drewN ?_ _ | refine blk_drew ?_ | refine blk_alloc ?_ _)); refine blk_put (cs := #[.int .i64 x234000_2, .int .i64 x234001_2, .int .i64 x234002_2]) ?_ 0 _ rfl; (with_reducible repeat (first | refine blk_drewN ?_ _ | refine blk_drew ?_ | refine blk_alloc ?_ _)); exact BK233.out) Try.underlying29 rfl (by kernel_rfl) (.tmp (.tmp (.tmp .nil))))) rfl ?_
         exact ⟨by first | rfl | (simp [errW_none, errW_some] <;> rfl) | (simp [*, errW_none, errW_some] <;> rfl), by repeat (first | (with_reducible first | exact HB.out | apply below_alloc | apply pw_below_drewN | apply below_drew1 | refine below_set ?_ GE232.out | refine below_set ?_ GE233.out) | exact HB.out)⟩
        ·replace c47 := Bool.eq_false_iff.mpr c47
         subst c47
         have H1 : ((lines_First.f kj44 l0_0 x8_2).bind fun bt242 => ((step_walk_to.f kj44 l0_0 a0_1 a0_2 a0_3 a0_4 a0_5 a0_6 a0_7 a0_8 bt242.1 3).bind fun bt244 => (some (bt244.1, bt244.2.1, bt244.2.2.1, bt244.2.2.2.1, bt244.2.2.2.2.1, bt244.2.2.2.2.2)))) = some (r1, r2, r3, r4, r5, r6) := by rw [if_neg (show ¬ (false = true) by decide)] at H; exact H
         clear H
         have H := H1
         clear H1
         replace H := Option.bind_eq_some_iff.mp H
         obtain ⟨⟨t242, t243⟩, A560, H⟩ := H
         replace H : ((step_walk_to.f kj44 l0_0 a0_1 a0_2 a0_3 a0_4 a0_5 a0_6 a0_7 a0_8 t242 3).bind fun bt244 => (some (bt244.1, bt244.2.1, bt244.2.2.1, bt244.2.2.2.1, bt244.2.2.2.2.1, bt244.2.2.2.2.2))) = some (r1, r2, r3, r4, r5, r6) := H
         have A56 := Aside0.mk A560
         clear A560
         replace H := Option.bind_eq_some_iff.mp H
         obtain ⟨⟨t244, t245, t246, t247, t248, t249⟩, A570, H⟩ := H
         replace H : (some (t244, t245, t246, t247, t248, t249)) = some (r1, r2, r3, r4, r5, r6) := H
         have A57 := Aside0.mk A570
         clear A570
         simp only [Option.some.injEq, Prod.mk.injEq] at H
         obtain ⟨rfl, rfl, rfl, rfl, rfl, rfl⟩ := H
         have hnb58 := NB232_233.out
         have hnc58 := NB233_232.out
         have hcz59_0 : wc.cell? ⟨gb232, 0, none⟩ = some (.slice A0_0 l0_0.length c0_0) := (blk_cell BK232.out 0).trans rfl
         have hcz59_1 : wc.cell? ⟨gb232, 1, none⟩ = some (.int .i64 a0_1) := (blk_cell BK232.out 1).trans rfl
         have hcz59_2 : wc.cell? ⟨gb232, 2, none⟩ = some (.int .i64 a0_2) := (blk_cell BK232.out 2).trans rfl
         have hcz59_3 : wc.cell? ⟨gb232, 3, none⟩ = some (.int .i64 a0_3) := (blk_cell BK232.out 3).trans rfl
         have hcz59_4 : wc.cell? ⟨gb232, 4, none⟩ = some (.bool a0_4) := (blk_cell BK232.out 4).trans rfl
         have hcz59_5 : wc.cell? ⟨gb232, 5, none⟩ = some (.int .i64 a0_5) := (blk_cell BK232.out 5).trans rfl
         have hcz59_6 : wc.cell? ⟨gb232, 6, none⟩ = some (.int .i64 a0_6) := (blk_cell BK232.out 6).trans rfl
         have hcz59_7 : wc.cell? ⟨gb232, 7, none⟩ = some (.int .i64 a0_7) := (blk_cell BK232.out 7).trans rfl
         have hcz59_8 : wc.cell? ⟨gb232, 8, none⟩ = some (.int .i64 a0_8) := (blk_cell BK232.out 8).trans rfl
         have hfz59_0 := blk_frozen BK232.out 0
         have hfz59_1 := blk_frozen BK232.out 1
         have hfz59_2 := blk_frozen BK232.out 2
         have hfz59_3 := blk_frozen BK232.out 3
         have hfz59_4 := blk_frozen BK232.out 4
         have hfz59_5 := blk_frozen BK232.out 5
         have hfz59_6 := blk_frozen BK232.out 6
         have hfz59_7 := blk_frozen BK232.out 7
         have hfz59_8 := blk_frozen BK232.out 8
         go_wp2_with (first | ((with_reducible refine gate_callee (f := 16) rfl ?_); refine goesL_ (some 93) rfl rfl Try.func16 (by kernel_rfl) rfl #[.slice A0_0 l0_0.length c0_0, .int .i64 x8_2] rfl (by (try simp only [List.map_toArray, List.map_cons, List.map_nil]); first | done | rfl | (simp only [List.length_drop, List.length_take]; rfl)) ?_; (with_reducible refine (lines_First.calls kj44 _ _ l0_0 x8_2 t242 t243 _ ?side1 ?side2 A56.out).mono ?_); (case side1 => repeat (first | exact (Kd.C_below HR0_0.out HB.out) | (with_reducible refine Kd.C_alloc ?_ _) | (with_reducible refine Kd.C_drewN ?_ _) | (with_reducible refine Kd.C_drew ?_))); (case side2 => exact HC0_0.out); rintro e w60 ⟨rfl, hb⟩; refine ⟨_, rfl, ?_⟩; have n0_ := Aside0.mk (blk_below (g := gb232) (o := .cells #[.slice A0_0 l0_0.length c0_0, .int .i64 a0_1, .int .i64 a0_2, .int .i64 a0_3, .bool a0_4, .int .i64 a0_5, .int .i64 a0_6, .int .i64 a0_7, .int .i64 a0_8] 51 (0, 0)) (by (with_reducible repeat (first | refine blk_drewN ?_ _ | refine blk_drew ?_ | refine blk_alloc ?_ _)); exact BK232.out) hb); have n1_ := Aside0.mk (blk_below (g := gb233) (o := .cells #[.int .i64 x234000_2, .int .i64 x234001_2, .int .i64 x234002_2] 29 (0, 0)) (by (with_reducible repeat (first | refine blk_drewN ?_ _ | refine blk_drew ?_ | refine blk_alloc ?_ _)); exact BK233.out) hb); have n2_ := Aside0.mk (below_step (by repeat (first | (with_reducible first | exact HB.out | apply below_alloc | apply pw_below_drewN | apply below_drew1 | refine below_set ?_ GE232.out | refine below_set ?_ GE233.out) | exact HB.out)) hb); clear BK232; clear BK233; clear HB; have BK232 := n0_; have BK233 := n1_; have HB := n2_; clear n0_ n1_ n2_; (try clear hb); (try clear hb2); (try clear hk); (try clear hi); have hcz61_0 : w60.cell? ⟨gb232, 0, none⟩ = some (.slice A0_0 l0_0.length c0_0) := (blk_cell BK232.out 0).trans rfl; have hcz61_1 : w60.cell? ⟨gb232, 1, none⟩ = some (.int .i64 a0_1) := (blk_cell BK232.out 1).trans rfl; have hcz61_2 : w60.cell? ⟨gb232, 2, none⟩ = some (.int .i64 a0_2) := (blk_cell BK232.out 2).trans rfl; have hcz61_3 : w60.cell? ⟨gb232, 3, none⟩ = some (.int .i64 a0_3) := (blk_cell BK232.out 3).trans rfl; have hcz61_4 : w60.cell? ⟨gb232, 4, none⟩ = some (.bool a0_4) := (blk_cell BK232.out 4).trans rfl; have hcz61_5 : w60.cell? ⟨gb232, 5, none⟩ = some (.int .i64 a0_5) := (blk_cell BK232.out 5).trans rfl; have hcz61_6 : w60.cell? ⟨gb232, 6, none⟩ = some (.int .i64 a0_6) := (blk_cell BK232.out 6).trans rfl; have hcz61_7 : w60.cell? ⟨gb232, 7, none⟩ = some (.int .i64 a0_7) := (blk_cell BK232.out 7).trans rfl; have hcz61_8 : w60.cell? ⟨gb232, 8, none⟩ = some (.int .i64 a0_8) := (blk_cell BK232.out 8).trans rfl; have hfz61_0 := blk_frozen BK232.out 0; have hfz61_1 := blk_frozen BK232.out 1; have hfz61_2 := blk_frozen BK232.out 2; have hfz61_3 := blk_frozen BK232.out 3; have hfz61_4 := blk_frozen BK232.out 4; have hfz61_5 := blk_frozen BK232.out 5; have hfz61_6 := blk_frozen BK232.out 6; have hfz61_7 := blk_frozen BK232.out 7; have hfz61_8 := blk_frozen BK232.out 8) | ((with_reducible refine gate_callee (f := 43) rfl ?_); refine goesL_ (some 98) rfl rfl Try.func43 (by kernel_rfl) rfl #[.agg #[.slice A0_0 l0_0.length c0_0, .int .i64 a0_1, .int .i64 a0_2, .int .i64 a0_3, .bool a0_4, .int .i64 a0_5, .int .i64 a0_6, .int .i64 a0_7, .int .i64 a0_8], .int .i64 t242, .int .i64 3] rfl (by (try simp only [List.map_toArray, List.map_cons, List.map_nil]); first | done | rfl | (simp only [List.length_drop, List.length_take]; rfl)) ?_; (with_reducible refine (step_walk_to.calls kj44 _ _ l0_0 a0_1 a0_2 a0_3 a0_4 a0_5 a0_6 a0_7 a0_8 t242 3 t244 t245 t246 t247 t248 t249 _ ?side1 ?side2 A57.out).mono ?_); (case side1 => repeat (first | exact (Kd.C_below HR0_0.out HB.out) | (with_reducible refine Kd.C_alloc ?_ _) | (with_reducible refine Kd.C_drewN ?_ _) | (with_reducible refine Kd.C_drew ?_))); (case side2 => exact HC0_0.out); rintro e w62 ⟨rfl, hb⟩; refine ⟨_, rfl, ?_⟩; have n0_ := Aside0.mk (blk_below (g := gb232) (o := .cells #[.slice A0_0 l0_0.length c0_0, .int .i64 a0_1, .int .i64 a0_2, .int .i64 a0_3, .bool a0_4, .int .i64 a0_5, .int .i64 a0_6, .int .i64 a0_7, .int .i64 a0_8] 51 (0, 0)) (by (with_reducible repeat (first | refine blk_drewN ?_ _ | refine blk_drew ?_ | refine blk_alloc ?_ _)); exact BK232.out) hb); have n1_ := Aside0.mk (blk_below (g := gb233) (o := .cells #[.int .i64 x234000_2, .int .i64 x234001_2, .int .i64 x234002_2] 29 (0, 0)) (by (with_reducible repeat (first | refine blk_drewN ?_ _ | refine blk_drew ?_ | refine blk_alloc ?_ _)); exact BK233.out) hb); have n2_ := Aside0.mk (below_step (by repeat (first | (with_reducible first | exact HB.out | apply below_alloc | apply pw_below_drewN | apply below_drew1 | refine below_set ?_ GE232.out | refine below_set ?_ GE233.out) | exact HB.out)) hb); clear BK232; clear BK233; clear HB; have BK232 := n0_; have BK233 := n1_; have HB := n2_; clear n0_ n1_ n2_; (try clear hb); (try clear hb2); (try clear hk); (try clear hi); have hcz63_0 : w62.cell? ⟨gb233, 0, none⟩ = some (.int .i64 x234000_2) := (blk_cell BK233.out 0).trans rfl; have hcz63_1 : w62.cell? ⟨gb233, 1, none⟩ = some (.int .i64 x234001_2) := (blk_cell BK233.out 1).trans rfl; have hcz63_2 : w62.cell? ⟨gb233, 2, none⟩ = some (.int .i64 x234002_2) := (blk_cell BK233.out 2).trans rfl; have hfz63_0 := blk_frozen BK233.out 0; have hfz63_1 := blk_frozen BK233.out 1; have hfz63_2 := blk_frozen BK233.out 2))
         refine bodyPost_ret (results_list (rs := [.cell 4 29, .tmp 5, .tmp 6, .tmp 7]) rfl (by simp) (.cell gb233 29 #[.int .i64 t244, .int .i64 t245, .int .i64 t246] (0, 0) _ rfl (by (with_reducible repeat (first | refine blk_drewN ?_ _ | refine blk_drew ?_ | refine blk_alloc ?_ _)); refine blk_put (cs := #[.int .i64 t244, .int .i64 t245, .int .i64 x234002_2]) ?_ 2 _ rfl; (with_reducible repeat (first | refine blk_drewN ?_ _ | refine blk_drew ?_ | refine blk_alloc ?_ _)); refine blk_put (cs := #[.int .i64 t244, .int .i64 x234001_2, .int .i64 x234002_2]) ?_ 1 _ rfl; (with_reducible repeat (first | refine blk_drewN ?_ _ | refine blk_drew ?_ | refine blk_alloc ?_ _)); refine blk_put (cs := #[.int .i64 x234000_2, .int .i64 x234001_2, .int .i64 x234002_2]) ?_ 0 _ rfl; (with_reducible repeat (first | refine blk_drewN ?_ _ | refine blk_drew ?_ | refine blk_alloc ?_ _)); exact BK233.out) Try.underlying29 rfl (by kernel_rfl) (.tmp (.tmp (.tmp .nil))))) rfl ?_
         exact ⟨by first | rfl | (simp [errW_none, errW_some] <;> rfl) | (simp [*, errW_none, errW_some] <;> rfl), by repeat (first | (with_reducible first | exact HB.out | apply below_alloc | apply pw_below_drewN | apply below_drew1 | refine below_set ?_ GE232.out | refine below_set ?_ GE233.out) | exact HB.out)⟩

end Go.Proofs.Ytofkcdnkbjpmmaa.X
