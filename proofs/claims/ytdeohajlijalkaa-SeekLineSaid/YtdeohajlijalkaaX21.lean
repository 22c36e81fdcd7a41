-- Written by wip/xprint.py over the kit's print.py: the Lean function of each Go function, and the proof that the Go text comes to it.
import Derived.Test.YtdeohajlijalkaaX0
import Derived.Test.YtdeohajlijalkaaX1
import Derived.Test.YtdeohajlijalkaaX6
import Derived.Test.YtdeohajlijalkaaX13
import Derived.Test.YtdeohajlijalkaaX14
namespace Go.Proofs.Ytdeohajlijalkaa.X
open Go.RowKit Go.Proofs.YtdeohajlijalkaaW.PrintWords Go.Proofs.YtdeohajlijalkaaW.PrintLast Go.Proofs.YtdeohajlijalkaaW.PrintMore
attribute [local go_sem] max2_int min2_int max_two min_two max_three min_three max_four min_four   -- for this text's walks alone
set_option linter.unusedVariables false
set_option linter.unusedSimpArgs false

attribute [local go_sem high] eqA29
/-! ### quoinlaw09_SeekLine: function 4 -/
mutual
def quoinlaw09_SeekLine.j0 : Nat → Bool → List Int → Int → Int → Int → Int → Bool → Int → Int → Int → Option (Bool)
  | 0, _, _, _, _, _, _, _, _, _, _ => none
  | k + 1, x65, x183000, x183001, x183002, x183003, x183004, x183005, x189000, x189001, x189002 => if x65 = true then (some false) else (if x183003 = 116 then (quoinlaw09_SeekLine.j1 k (wrap64 (x189001 + 1)) 1 x183000 x183001 x183002 x183003 x183004 x183005 x189000 x189001 x189002) else (if x183003 = 84 then (quoinlaw09_SeekLine.j1 k (wrap64 (x189001 - 1)) (-1) x183000 x183001 x183002 x183003 x183004 x183005 x189000 x189001 x189002) else (if x183003 = 70 then (quoinlaw09_SeekLine.j1 k x189001 (-1) x183000 x183001 x183002 x183003 x183004 x183005 x189000 x189001 x189002) else (quoinlaw09_SeekLine.j1 k x189001 1 x183000 x183001 x183002 x183003 x183004 x183005 x189000 x189001 x189002))))
def quoinlaw09_SeekLine.j1 : Nat → Int → Int → List Int → Int → Int → Int → Int → Bool → Int → Int → Int → Option (Bool)
  | 0, _, _, _, _, _, _, _, _, _, _, _ => none
  | k + 1, x9, x10, x183000, x183001, x183002, x183003, x183004, x183005, x189000, x189001, x189002 => quoinlaw09_SeekLine.l0 k x9 x10 0 (wrap64 (x183001 + x10)) x183000 x183001 x183002 x183003 x183004 x183005 x189000 x189001 x189002
def quoinlaw09_SeekLine.l0 : Nat → Int → Int → Int → Int → List Int → Int → Int → Int → Int → Bool → Int → Int → Int → Option (Bool)
  | 0, _, _, _, _, _, _, _, _, _, _, _, _, _ => none
  | k + 1, x9, x10, x11, x12, x183000, x183001, x183002, x183003, x183004, x183005, x189000, x189001, x189002 => if x12 ≥ 0 then (quoinlaw09_SeekLine.j3 k x9 x10 x11 x12 (decide (x12 < (x183000.length : Int))) x183000 x183001 x183002 x183003 x183004 x183005 x189000 x189001 x189002) else (quoinlaw09_SeekLine.j3 k x9 x10 x11 x12 false x183000 x183001 x183002 x183003 x183004 x183005 x189000 x189001 x189002)
def quoinlaw09_SeekLine.j3 : Nat → Int → Int → Int → Int → Bool → List Int → Int → Int → Int → Int → Bool → Int → Int → Int → Option (Bool)
  | 0, _, _, _, _, _, _, _, _, _, _, _, _, _, _ => none
  | k + 1, x9, x10, x11, x12, x93, x183000, x183001, x183002, x183003, x183004, x183005, x189000, x189001, x189002 => if x93 = true then (if 0 ≤ x12 then (if x12 < (x183000.length : Int) then (if (rd x183000 x12) = x183004 then (if x12 = x9 then (if 0 ≤ x9 then (if x9 < (x183000.length : Int) then (if (rd x183000 x9) = x183004 then (if (wrap64 (x11 + 1)) = (mx x183002 1) then (some ((x189002 == 2) == (x10 == 1))) else (some false)) else (some false)) else (none)) else (none)) else (quoinlaw09_SeekLine.l0 k x9 x10 (wrap64 (x11 + 1)) (wrap64 (x12 + x10)) x183000 x183001 x183002 x183003 x183004 x183005 x189000 x189001 x189002)) else (if x12 = x9 then (if 0 ≤ x9 then (if x9 < (x183000.length : Int) then (if (rd x183000 x9) = x183004 then (if x11 = (mx x183002 1) then (some ((x189002 == 2) == (x10 == 1))) else (some false)) else (some false)) else (none)) else (none)) else (quoinlaw09_SeekLine.l0 k x9 x10 x11 (wrap64 (x12 + x10)) x183000 x183001 x183002 x183003 x183004 x183005 x189000 x189001 x189002))) else (none)) else (none)) else (some false)
end
def quoinlaw09_SeekLine.f (k : Nat) (l0_0 : List Int) (a0_1 : Int) (a0_2 : Int) (a0_3 : Int) (a0_4 : Int) (a0_5 : Bool) : Option (Bool) := (quoinlaw09_awake.f k).bind fun t183 => (if t183 = true then ((seek_Move.f k l0_0 a0_1 a0_2 a0_3 a0_4).bind fun bt184 => (if bt184.2.2.2 = 0 then ((lines_Of.f l0_0 a0_1).bind fun bt189 => ((lines_Of.f l0_0 bt184.2.1).bind fun bt191 => (if bt189.2 = 0 then (if bt191.2 = 0 then (if bt189.1 = bt191.1 then (quoinlaw09_SeekLine.j0 k (bt184.1 != a0_1) l0_0 a0_1 a0_2 a0_3 a0_4 a0_5 bt184.1 bt184.2.1 bt184.2.2.1) else (quoinlaw09_SeekLine.j0 k true l0_0 a0_1 a0_2 a0_3 a0_4 a0_5 bt184.1 bt184.2.1 bt184.2.2.1)) else (quoinlaw09_SeekLine.j0 k true l0_0 a0_1 a0_2 a0_3 a0_4 a0_5 bt184.1 bt184.2.1 bt184.2.2.1)) else (quoinlaw09_SeekLine.j0 k true l0_0 a0_1 a0_2 a0_3 a0_4 a0_5 bt184.1 bt184.2.1 bt184.2.2.1)))) else (some (bt184.1 == 0 && (bt184.2.1 == 0 && (bt184.2.2.1 == 0)))))) else (some false))
theorem quoinlaw09_SeekLine.mono_l : ∀ k, (∀ y0 y1 y2 y3 y4 y5 y6 y7 y8 y9, LeO (quoinlaw09_SeekLine.j0 k y0 y1 y2 y3 y4 y5 y6 y7 y8 y9) (quoinlaw09_SeekLine.j0 (k + 1) y0 y1 y2 y3 y4 y5 y6 y7 y8 y9)) ∧ (∀ y0 y1 y2 y3 y4 y5 y6 y7 y8 y9 y10, LeO (quoinlaw09_SeekLine.j1 k y0 y1 y2 y3 y4 y5 y6 y7 y8 y9 y10) (quoinlaw09_SeekLine.j1 (k + 1) y0 y1 y2 y3 y4 y5 y6 y7 y8 y9 y10)) ∧ (∀ y0 y1 y2 y3 y4 y5 y6 y7 y8 y9 y10 y11 y12, LeO (quoinlaw09_SeekLine.l0 k y0 y1 y2 y3 y4 y5 y6 y7 y8 y9 y10 y11 y12) (quoinlaw09_SeekLine.l0 (k + 1) y0 y1 y2 y3 y4 y5 y6 y7 y8 y9 y10 y11 y12)) ∧ (∀ y0 y1 y2 y3 y4 y5 y6 y7 y8 y9 y10 y11 y12 y13, LeO (quoinlaw09_SeekLine.j3 k y0 y1 y2 y3 y4 y5 y6 y7 y8 y9 y10 y11 y12 y13) (quoinlaw09_SeekLine.j3 (k + 1) y0 y1 y2 y3 y4 y5 y6 y7 y8 y9 y10 y11 y12 y13))
  | 0 => ⟨fun _ _ _ _ _ _ _ _ _ _ r h => by simp [quoinlaw09_SeekLine.j0] at h, fun _ _ _ _ _ _ _ _ _ _ _ r h => by simp [quoinlaw09_SeekLine.j1] at h, fun _ _ _ _ _ _ _ _ _ _ _ _ _ r h => by simp [quoinlaw09_SeekLine.l0] at h, fun _ _ _ _ _ _ _ _ _ _ _ _ _ _ r h => by simp [quoinlaw09_SeekLine.j3] at h⟩
  | k + 1 => by
    obtain ⟨ih0, ih1, ih2, ih3⟩ := quoinlaw09_SeekLine.mono_l k
    refine ⟨?_, ?_, ?_, ?_⟩
    · intro y0 y1 y2 y3 y4 y5 y6 y7 y8 y9
      unfold quoinlaw09_SeekLine.j0
      repeat' first
      | (with_reducible exact ih0 _ _ _ _ _ _ _ _ _ _)
      | (with_reducible exact ih1 _ _ _ _ _ _ _ _ _ _ _)
      | (with_reducible exact ih2 _ _ _ _ _ _ _ _ _ _ _ _ _)
      | (with_reducible exact ih3 _ _ _ _ _ _ _ _ _ _ _ _ _ _)
      | (with_reducible exact quoinlaw09_awake.mono _)
      | (with_reducible exact seek_Move.mono _ _ _ _ _ _)
      | (with_reducible exact LeO.refl _)
      | (with_reducible exact LeO.none _)
      | (with_reducible refine LeO.ite ?_ ?_)
      | (with_reducible refine LeO.bind ?_ (fun _ => ?_))
      | exact ih0 _ _ _ _ _ _ _ _ _ _
      | exact ih1 _ _ _ _ _ _ _ _ _ _ _
      | exact ih2 _ _ _ _ _ _ _ _ _ _ _ _ _
      | exact ih3 _ _ _ _ _ _ _ _ _ _ _ _ _ _
      | exact quoinlaw09_awake.mono _
      | exact seek_Move.mono _ _ _ _ _ _
      | exact LeO.none _
      | refine LeO.ite ?_ ?_
      | refine LeO.bind ?_ (fun _ => ?_)
    · intro y0 y1 y2 y3 y4 y5 y6 y7 y8 y9 y10
      unfold quoinlaw09_SeekLine.j1
      repeat' first
      | (with_reducible exact ih0 _ _ _ _ _ _ _ _ _ _)
      | (with_reducible exact ih1 _ _ _ _ _ _ _ _ _ _ _)
      | (with_reducible exact ih2 _ _ _ _ _ _ _ _ _ _ _ _ _)
      | (with_reducible exact ih3 _ _ _ _ _ _ _ _ _ _ _ _ _ _)
      | (with_reducible exact quoinlaw09_awake.mono _)
      | (with_reducible exact seek_Move.mono _ _ _ _ _ _)
      | (with_reducible exact LeO.refl _)
      | (with_reducible exact LeO.none _)
      | (with_reducible refine LeO.ite ?_ ?_)
      | (with_reducible refine LeO.bind ?_ (fun _ => ?_))
      | exact ih0 _ _ _ _ _ _ _ _ _ _
      | exact ih1 _ _ _ _ _ _ _ _ _ _ _
      | exact ih2 _ _ _ _ _ _ _ _ _ _ _ _ _
      | exact ih3 _ _ _ _ _ _ _ _ _ _ _ _ _ _
      | exact quoinlaw09_awake.mono _
      | exact seek_Move.mono _ _ _ _ _ _
      | exact LeO.none _
      | refine LeO.ite ?_ ?_
      | refine LeO.bind ?_ (fun _ => ?_)
    · intro y0 y1 y2 y3 y4 y5 y6 y7 y8 y9 y10 y11 y12
      unfold quoinlaw09_SeekLine.l0
      repeat' first
      | (with_reducible exact ih0 _ _ _ _ _ _ _ _ _ _)
      | (with_reducible exact ih1 _ _ _ _ _ _ _ _ _ _ _)
      | (with_reducible exact ih2 _ _ _ _ _ _ _ _ _ _ _ _ _)
      | (with_reducible exact ih3 _ _ _ _ _ _ _ _ _ _ _ _ _ _)
      | (with_reducible exact quoinlaw09_awake.mono _)
      | (with_reducible exact seek_Move.mono _ _ _ _ _ _)
      | (with_reducible exact LeO.refl _)
      | (with_reducible exact LeO.none _)
      | (with_reducible refine LeO.ite ?_ ?_)
      | (with_reducible refine LeO.bind ?_ (fun _ => ?_))
      | exact ih0 _ _ _ _ _ _ _ _ _ _
      | exact ih1 _ _ _ _ _ _ _ _ _ _ _
      | exact ih2 _ _ _ _ _ _ _ _ _ _ _ _ _
      | exact ih3 _ _ _ _ _ _ _ _ _ _ _ _ _ _
      | exact quoinlaw09_awake.mono _
      | exact seek_Move.mono _ _ _ _ _ _
      | exact LeO.none _
      | refine LeO.ite ?_ ?_
      | refine LeO.bind ?_ (fun _ => ?_)
    · intro y0 y1 y2 y3 y4 y5 y6 y7 y8 y9 y10 y11 y12 y13
      unfold quoinlaw09_SeekLine.j3
      repeat' first
      | (with_reducible exact ih0 _ _ _ _ _ _ _ _ _ _)
      | (with_reducible exact ih1 _ _ _ _ _ _ _ _ _ _ _)
      | (with_reducible exact ih2 _ _ _ _ _ _ _ _ _ _ _ _ _)
      | (with_reducible exact ih3 _ _ _ _ _ _ _ _ _ _ _ _ _ _)
      | (with_reducible exact quoinlaw09_awake.mono _)
      | (with_reducible exact seek_Move.mono _ _ _ _ _ _)
      | (with_reducible exact LeO.refl _)
      | (with_reducible exact LeO.none _)
      | (with_reducible refine LeO.ite ?_ ?_)
      | (with_reducible refine LeO.bind ?_ (fun _ => ?_))
      | exact ih0 _ _ _ _ _ _ _ _ _ _
      | exact ih1 _ _ _ _ _ _ _ _ _ _ _
      | exact ih2 _ _ _ _ _ _ _ _ _ _ _ _ _
      | exact ih3 _ _ _ _ _ _ _ _ _ _ _ _ _ _
      | exact quoinlaw09_awake.mono _
      | exact seek_Move.mono _ _ _ _ _ _
      | exact LeO.none _
      | refine LeO.ite ?_ ?_
      | refine LeO.bind ?_ (fun _ => ?_)
theorem quoinlaw09_SeekLine.mono : ∀ a0 a1 a2 a3 a4 a5 k, LeO (quoinlaw09_SeekLine.f k a0 a1 a2 a3 a4 a5) (quoinlaw09_SeekLine.f (k + 1) a0 a1 a2 a3 a4 a5) := by
  intro a0 a1 a2 a3 a4 a5 k
  obtain ⟨ih0, ih1, ih2, ih3⟩ := quoinlaw09_SeekLine.mono_l k
  unfold quoinlaw09_SeekLine.f
  repeat' first
      | (with_reducible exact ih0 _ _ _ _ _ _ _ _ _ _)
      | (with_reducible exact ih1 _ _ _ _ _ _ _ _ _ _ _)
      | (with_reducible exact ih2 _ _ _ _ _ _ _ _ _ _ _ _ _)
      | (with_reducible exact ih3 _ _ _ _ _ _ _ _ _ _ _ _ _ _)
      | (with_reducible exact quoinlaw09_awake.mono _)
      | (with_reducible exact seek_Move.mono _ _ _ _ _ _)
      | (with_reducible exact LeO.refl _)
      | (with_reducible exact LeO.none _)
      | (with_reducible refine LeO.ite ?_ ?_)
      | (with_reducible refine LeO.bind ?_ (fun _ => ?_))
      | exact ih0 _ _ _ _ _ _ _ _ _ _
      | exact ih1 _ _ _ _ _ _ _ _ _ _ _
      | exact ih2 _ _ _ _ _ _ _ _ _ _ _ _ _
      | exact ih3 _ _ _ _ _ _ _ _ _ _ _ _ _ _
      | exact quoinlaw09_awake.mono _
      | exact seek_Move.mono _ _ _ _ _ _
      | exact LeO.none _
      | refine LeO.ite ?_ ?_
      | refine LeO.bind ?_ (fun _ => ?_)
set_option maxHeartbeats 8000000 in
set_option maxRecDepth 100000 in
theorem quoinlaw09_SeekLine.calls (k : Nat) (A0_0 : Option Addr) (c0_0 : Nat) (l0_0 : List Int) (a0_1 : Int) (a0_2 : Int) (a0_3 : Int) (a0_4 : Int) (a0_5 : Bool) (r : Bool) (w : World) (hr0_0 : Kd.C (Kd.int .u8) w A0_0 l0_0.length l0_0) (hc0_0 : l0_0.length ≤ c0_0) (h : quoinlaw09_SeekLine.f k l0_0 a0_1 a0_2 a0_3 a0_4 a0_5 = some r) :
    Calls Try.prog 4 #[.agg #[.slice A0_0 l0_0.length c0_0, .int .i64 a0_1, .int .i64 a0_2, .int .u8 a0_3, .int .u8 a0_4, .bool a0_5]] w fun e w' => e = .returned (.bool r) ∧ Below w.heap.size w w' := by
  have hu26 := Try.underlying26
  have hu24 := Try.underlying24
  have hu29 := Try.underlying29
  have HR0_0 := Aside0.mk hr0_0
  have HC0_0 := Aside0.mk hc0_0
  clear hr0_0 hc0_0
  have HB := Aside0.mk (Below.refl w.heap.size w)
  have H : ((quoinlaw09_awake.f k).bind fun t183 => (if t183 = true then ((seek_Move.f k l0_0 a0_1 a0_2 a0_3 a0_4).bind fun bt184 => (if bt184.2.2.2 = 0 then ((lines_Of.f l0_0 a0_1).bind fun bt189 => ((lines_Of.f l0_0 bt184.2.1).bind fun bt191 => (if bt189.2 = 0 then (if bt191.2 = 0 then (if bt189.1 = bt191.1 then (quoinlaw09_SeekLine.j0 k (bt184.1 != a0_1) l0_0 a0_1 a0_2 a0_3 a0_4 a0_5 bt184.1 bt184.2.1 bt184.2.2.1) else (quoinlaw09_SeekLine.j0 k true l0_0 a0_1 a0_2 a0_3 a0_4 a0_5 bt184.1 bt184.2.1 bt184.2.2.1)) else (quoinlaw09_SeekLine.j0 k true l0_0 a0_1 a0_2 a0_3 a0_4 a0_5 bt184.1 bt184.2.1 bt184.2.2.1)) else (quoinlaw09_SeekLine.j0 k true l0_0 a0_1 a0_2 a0_3 a0_4 a0_5 bt184.1 bt184.2.1 bt184.2.2.1)))) else (some (bt184.1 == 0 && (bt184.2.1 == 0 && (bt184.2.2.1 == 0)))))) else (some false))) = some r := h
  clear h
  replace H := Option.bind_eq_some_iff.mp H
  obtain ⟨t183, A20, H⟩ := H
  replace H : (if t183 = true then ((seek_Move.f k l0_0 a0_1 a0_2 a0_3 a0_4).bind fun bt184 => (if bt184.2.2.2 = 0 then ((lines_Of.f l0_0 a0_1).bind fun bt189 => ((lines_Of.f l0_0 bt184.2.1).bind fun bt191 => (if bt189.2 = 0 then (if bt191.2 = 0 then (if bt189.1 = bt191.1 then (quoinlaw09_SeekLine.j0 k (bt184.1 != a0_1) l0_0 a0_1 a0_2 a0_3 a0_4 a0_5 bt184.1 bt184.2.1 bt184.2.2.1) else (quoinlaw09_SeekLine.j0 k true l0_0 a0_1 a0_2 a0_3 a0_4 a0_5 bt184.1 bt184.2.1 bt184.2.2.1)) else (quoinlaw09_SeekLine.j0 k true l0_0 a0_1 a0_2 a0_3 a0_4 a0_5 bt184.1 bt184.2.1 bt184.2.2.1)) else (quoinlaw09_SeekLine.j0 k true l0_0 a0_1 a0_2 a0_3 a0_4 a0_5 bt184.1 bt184.2.1 bt184.2.2.1)))) else (some (bt184.1 == 0 && (bt184.2.1 == 0 && (bt184.2.2.1 == 0)))))) else (some false)) = some r := H
  have A2 := Aside0.mk A20
  clear A20
  by_cases c3 : t183 = true
  · subst c3
    have H1 : ((seek_Move.f k l0_0 a0_1 a0_2 a0_3 a0_4).bind fun bt184 => (if bt184.2.2.2 = 0 then ((lines_Of.f l0_0 a0_1).bind fun bt189 => ((lines_Of.f l0_0 bt184.2.1).bind fun bt191 => (if bt189.2 = 0 then (if bt191.2 = 0 then (if bt189.1 = bt191.1 then (quoinlaw09_SeekLine.j0 k (bt184.1 != a0_1) l0_0 a0_1 a0_2 a0_3 a0_4 a0_5 bt184.1 bt184.2.1 bt184.2.2.1) else (quoinlaw09_SeekLine.j0 k true l0_0 a0_1 a0_2 a0_3 a0_4 a0_5 bt184.1 bt184.2.1 bt184.2.2.1)) else (quoinlaw09_SeekLine.j0 k true l0_0 a0_1 a0_2 a0_3 a0_4 a0_5 bt184.1 bt184.2.1 bt184.2.2.1)) else (quoinlaw09_SeekLine.j0 k true l0_0 a0_1 a0_2 a0_3 a0_4 a0_5 bt184.1 bt184.2.1 bt184.2.2.1)))) else (some (bt184.1 == 0 && (bt184.2.1 == 0 && (bt184.2.2.1 == 0)))))) = some r := by rw [if_pos rfl] at H; exact H
    clear H
    have H := H1
    clear H1
    replace H := Option.bind_eq_some_iff.mp H
    obtain ⟨⟨t184, t185, t186, t187⟩, A40, H⟩ := H
    replace H : (if t187 = 0 then ((lines_Of.f l0_0 a0_1).bind fun bt189 => ((lines_Of.f l0_0 t185).bind fun bt191 => (if bt189.2 = 0 then (if bt191.2 = 0 then (if bt189.1 = bt191.1 then (quoinlaw09_SeekLine.j0 k (t184 != a0_1) l0_0 a0_1 a0_2 a0_3 a0_4 a0_5 t184 t185 t186) else (quoinlaw09_SeekLine.j0 k true l0_0 a0_1 a0_2 a0_3 a0_4 a0_5 t184 t185 t186)) else (quoinlaw09_SeekLine.j0 k true l0_0 a0_1 a0_2 a0_3 a0_4 a0_5 t184 t185 t186)) else (quoinlaw09_SeekLine.j0 k true l0_0 a0_1 a0_2 a0_3 a0_4 a0_5 t184 t185 t186)))) else (some (t184 == 0 && (t185 == 0 && (t186 == 0))))) = some r := H
    have A4 := Aside0.mk A40
    clear A40
    by_cases c5 : t187 = 0
    · rw [if_pos c5] at H
      have c5b0 : (t187 == 0) = true := beq_iff_eq.mpr c5
      have c5b1 : (t187 != 0) = false := bne_eq_false_iff_eq.mpr c5
      clear c5
      replace H := Option.bind_eq_some_iff.mp H
      obtain ⟨⟨t189, t190⟩, A60, H⟩ := H
      replace H : ((lines_Of.f l0_0 t185).bind fun bt191 => (if t190 = 0 then (if bt191.2 = 0 then (if t189 = bt191.1 then (quoinlaw09_SeekLine.j0 k (t184 != a0_1) l0_0 a0_1 a0_2 a0_3 a0_4 a0_5 t184 t185 t186) else (quoinlaw09_SeekLine.j0 k true l0_0 a0_1 a0_2 a0_3 a0_4 a0_5 t184 t185 t186)) else (quoinlaw09_SeekLine.j0 k true l0_0 a0_1 a0_2 a0_3 a0_4 a0_5 t184 t185 t186)) else (quoinlaw09_SeekLine.j0 k true l0_0 a0_1 a0_2 a0_3 a0_4 a0_5 t184 t185 t186))) = some r := H
      have A6 := Aside0.mk A60
      clear A60
      replace H := Option.bind_eq_some_iff.mp H
      obtain ⟨⟨t191, t192⟩, A70, H⟩ := H
      replace H : (if t190 = 0 then (if t192 = 0 then (if t189 = t191 then (quoinlaw09_SeekLine.j0 k (t184 != a0_1) l0_0 a0_1 a0_2 a0_3 a0_4 a0_5 t184 t185 t186) else (quoinlaw09_SeekLine.j0 k true l0_0 a0_1 a0_2 a0_3 a0_4 a0_5 t184 t185 t186)) else (quoinlaw09_SeekLine.j0 k true l0_0 a0_1 a0_2 a0_3 a0_4 a0_5 t184 t185 t186)) else (quoinlaw09_SeekLine.j0 k true l0_0 a0_1 a0_2 a0_3 a0_4 a0_5 t184 t185 t186)) = some r := H
      have A7 := Aside0.mk A70
      clear A70
      have HC8 := Aside0.mk H
      clear H
      go_enter Try.func4, Try.ntmps4
      go_upto_region 8 with (first | ((with_reducible refine gate_dst (N := 1) rfl ?_); (try (refine gate_guard (by rfl) ?_; dsimp only)); refine box_event ?hg (N := 1) ?hd (cs := #[.slice A0_0 l0_0.length c0_0, .int .i64 a0_1, .int .i64 a0_2, .int .u8 a0_3, .int .u8 a0_4, .bool a0_5]) (t := 26) ?hr ?_; (case hd => rfl); (case hg => rfl); (case hr => first | (go_simp; done) | (go_simp; rfl)); intro gb182 hg w9 hbox hb; have n0_ := Aside0.mk (below_step (by repeat (first | (with_reducible first | exact HB.out | apply below_alloc | apply pw_below_drewN | apply below_drew1) | exact HB.out)) hb); have n1_ := Aside0.mk (hbox); have n2_ := Aside0.mk ((by rw [hg]; exact (below_size (by repeat (first | (with_reducible first | exact HB.out | apply below_alloc | apply pw_below_drewN | apply below_drew1) | exact HB.out))) : w.heap.size ≤ gb182)); have n3_ := Aside0.mk ((by rw [hg]; exact (below_size (by repeat (first | (with_reducible first | exact HB.out | apply below_alloc | apply pw_below_drewN | apply below_drew1) | exact HB.out))) : w.heap.size ≤ gb182)); clear HB; have HB := n0_; have BK182 := n1_; have GW182 := n2_; have GE182 := n3_; clear n0_ n1_ n2_ n3_; clear hb hbox hg) | (go_at_call 9; (with_reducible refine (quoinlaw09_awake.calls k  true _ A2.out).mono ?_); rintro e w10 ⟨rfl, hb⟩; have n0_ := Aside0.mk (blk_below (g := gb182) (o := .cells #[.slice A0_0 l0_0.length c0_0, .int .i64 a0_1, .int .i64 a0_2, .int .u8 a0_3, .int .u8 a0_4, .bool a0_5] 26 (0, 0)) (by (with_reducible repeat (first | refine blk_drewN ?_ _ | refine blk_drew ?_ | refine blk_alloc ?_ _)); exact BK182.out) hb); have n1_ := Aside0.mk (below_step (by repeat (first | (with_reducible first | exact HB.out | apply below_alloc | apply pw_below_drewN | apply below_drew1 | refine below_set ?_ GE182.out) | exact HB.out)) hb); clear BK182; clear HB; have BK182 := n0_; have HB := n1_; clear n0_ n1_; (try clear hb); (try clear hb2); (try clear hk); (try clear hi); have hcz11_0 : w10.cell? ⟨gb182, 0, none⟩ = some (.slice A0_0 l0_0.length c0_0) := (blk_cell BK182.out 0).trans rfl; have hcz11_1 : w10.cell? ⟨gb182, 1, none⟩ = some (.int .i64 a0_1) := (blk_cell BK182.out 1).trans rfl; have hcz11_2 : w10.cell? ⟨gb182, 2, none⟩ = some (.int .i64 a0_2) := (blk_cell BK182.out 2).trans rfl; have hcz11_3 : w10.cell? ⟨gb182, 3, none⟩ = some (.int .u8 a0_3) := (blk_cell BK182.out 3).trans rfl; have hcz11_4 : w10.cell? ⟨gb182, 4, none⟩ = some (.int .u8 a0_4) := (blk_cell BK182.out 4).trans rfl; have hcz11_5 : w10.cell? ⟨gb182, 5, none⟩ = some (.bool a0_5) := (blk_cell BK182.out 5).trans rfl; have hfz11_0 := blk_frozen BK182.out 0; have hfz11_1 := blk_frozen BK182.out 1; have hfz11_2 := blk_frozen BK182.out 2; have hfz11_3 := blk_frozen BK182.out 3; have hfz11_4 := blk_frozen BK182.out 4; have hfz11_5 := blk_frozen BK182.out 5) | (go_at_call 11; (with_reducible refine (seek_Move.calls k _ _ l0_0 a0_1 a0_2 a0_3 a0_4 t184 t185 t186 t187 _ ?side1 ?side2 A4.out).mono ?_); (case side1 => repeat (first | exact (Kd.C_below HR0_0.out HB.out) | (with_reducible refine Kd.C_alloc ?_ _) | (with_reducible refine Kd.C_drewN ?_ _) | (with_reducible refine Kd.C_drew ?_))); (case side2 => exact HC0_0.out); rintro e w12 ⟨rfl, hb⟩; have n0_ := Aside0.mk (blk_below (g := gb182) (o := .cells #[.slice A0_0 l0_0.length c0_0, .int .i64 a0_1, .int .i64 a0_2, .int .u8 a0_3, .int .u8 a0_4, .bool a0_5] 26 (0, 0)) (by (with_reducible repeat (first | refine blk_drewN ?_ _ | refine blk_drew ?_ | refine blk_alloc ?_ _)); exact BK182.out) hb); have n1_ := Aside0.mk (below_step (by repeat (first | (with_reducible first | exact HB.out | apply below_alloc | apply pw_below_drewN | apply below_drew1 | refine below_set ?_ GE182.out) | exact HB.out)) hb); clear BK182; clear HB; have BK182 := n0_; have HB := n1_; clear n0_ n1_; (try clear hb); (try clear hb2); (try clear hk); (try clear hi)) | ((with_reducible refine gate_dst (N := 3) rfl ?_); (try (refine gate_guard (by rfl) ?_; dsimp only)); refine box_event ?hg (N := 3) ?hd (cs := #[.int .i64 0, .int .i64 0, .int .i64 0]) (t := 29) ?hr ?_; (case hd => rfl); (case hg => rfl); (case hr => first | (go_simp; done) | (go_simp; rfl)); intro gb188 hg w13 hbox hb; have n0_ := Aside0.mk (blk_below (g := gb182) (o := .cells #[.slice A0_0 l0_0.length c0_0, .int .i64 a0_1, .int .i64 a0_2, .int .u8 a0_3, .int .u8 a0_4, .bool a0_5] 26 (0, 0)) (by (with_reducible repeat (first | refine blk_drewN ?_ _ | refine blk_drew ?_ | refine blk_alloc ?_ _)); exact BK182.out) hb); have n1_ := Aside0.mk (below_step (by repeat (first | (with_reducible first | exact HB.out | apply below_alloc | apply pw_below_drewN | apply below_drew1 | refine below_set ?_ GE182.out) | exact HB.out)) hb); have n2_ := Aside0.mk (hbox); have n3_ := Aside0.mk ((by rw [hg]; exact (below_size (by repeat (first | (with_reducible first | exact HB.out | apply below_alloc | apply pw_below_drewN | apply below_drew1 | refine below_set ?_ GE182.out) | exact HB.out))) : w.heap.size ≤ gb188)); have n4_ := Aside0.mk ((by rw [hg]; exact (below_size (by repeat (first | (with_reducible first | exact HB.out | apply below_alloc | apply pw_below_drewN | apply below_drew1 | refine below_set ?_ GE182.out) | exact HB.out))) : w.heap.size ≤ gb188)); have n5_ := Aside0.mk ((by rw [hg]; exact Nat.ne_of_lt (blk_lt (g := gb182) (o := .cells #[.slice A0_0 l0_0.length c0_0, .int .i64 a0_1, .int .i64 a0_2, .int .u8 a0_3, .int .u8 a0_4, .bool a0_5] 26 (0, 0)) (by (with_reducible repeat (first | refine blk_drewN ?_ _ | refine blk_drew ?_ | refine blk_alloc ?_ _)); exact BK182.out)) : gb182 ≠ gb188)); have n6_ := Aside0.mk ((by rw [hg]; exact Nat.ne_of_gt (blk_lt (g := gb182) (o := .cells #[.slice A0_0 l0_0.length c0_0, .int .i64 a0_1, .int .i64 a0_2, .int .u8 a0_3, .int .u8 a0_4, .bool a0_5] 26 (0, 0)) (by (with_reducible repeat (first | refine blk_drewN ?_ _ | refine blk_drew ?_ | refine blk_alloc ?_ _)); exact BK182.out)) : gb188 ≠ gb182)); clear BK182; clear HB; have BK182 := n0_; have HB := n1_; have BK188 := n2_; have GW188 := n3_; have GE188 := n4_; have NB182_188 := n5_; have NB188_182 := n6_; clear n0_ n1_ n2_ n3_ n4_ n5_ n6_; clear hb hbox hg; have hnb14 := NB188_182.out; have hnc14 := NB182_188.out; have hcz15_0 : w13.cell? ⟨gb188, 0, none⟩ = some (.int .i64 0) := (blk_cell BK188.out 0).trans rfl; have hcz15_1 : w13.cell? ⟨gb188, 1, none⟩ = some (.int .i64 0) := (blk_cell BK188.out 1).trans rfl; have hcz15_2 : w13.cell? ⟨gb188, 2, none⟩ = some (.int .i64 0) := (blk_cell BK188.out 2).trans rfl; have hfz15_0 := blk_frozen BK188.out 0; have hfz15_1 := blk_frozen BK188.out 1; have hfz15_2 := blk_frozen BK188.out 2; have hcz16_0 : w13.cell? ⟨gb182, 0, none⟩ = some (.slice A0_0 l0_0.length c0_0) := (blk_cell BK182.out 0).trans rfl; have hcz16_1 : w13.cell? ⟨gb182, 1, none⟩ = some (.int .i64 a0_1) := (blk_cell BK182.out 1).trans rfl; have hcz16_2 : w13.cell? ⟨gb182, 2, none⟩ = some (.int .i64 a0_2) := (blk_cell BK182.out 2).trans rfl; have hcz16_3 : w13.cell? ⟨gb182, 3, none⟩ = some (.int .u8 a0_3) := (blk_cell BK182.out 3).trans rfl; have hcz16_4 : w13.cell? ⟨gb182, 4, none⟩ = some (.int .u8 a0_4) := (blk_cell BK182.out 4).trans rfl; have hcz16_5 : w13.cell? ⟨gb182, 5, none⟩ = some (.bool a0_5) := (blk_cell BK182.out 5).trans rfl; have hfz16_0 := blk_frozen BK182.out 0; have hfz16_1 := blk_frozen BK182.out 1; have hfz16_2 := blk_frozen BK182.out 2; have hfz16_3 := blk_frozen BK182.out 3; have hfz16_4 := blk_frozen BK182.out 4; have hfz16_5 := blk_frozen BK182.out 5) | (go_at_call 12; (with_reducible refine (lines_Of.calls _ _ l0_0 a0_1 t189 t190 _ ?side1 ?side2 A6.out).mono ?_); (case side1 => exact Kd.C_below HR0_0.out (by repeat (first | (with_reducible first | exact HB.out | apply below_alloc | apply pw_below_drewN | apply below_drew1 | refine below_set ?_ GE182.out | refine below_set ?_ GE188.out) | exact HB.out))); (case side2 => exact HC0_0.out); rintro e w17 ⟨rfl, hb⟩; have n0_ := Aside0.mk (blk_below (g := gb182) (o := .cells #[.slice A0_0 l0_0.length c0_0, .int .i64 a0_1, .int .i64 a0_2, .int .u8 a0_3, .int .u8 a0_4, .bool a0_5] 26 (0, 0)) (by (with_reducible repeat (first | refine blk_drewN ?_ _ | refine blk_drew ?_ | refine blk_alloc ?_ _)); refine blk_far ?_ NB182_188.out _; (with_reducible repeat (first | refine blk_drewN ?_ _ | refine blk_drew ?_ | refine blk_alloc ?_ _)); refine blk_far ?_ NB182_188.out _; (with_reducible repeat (first | refine blk_drewN ?_ _ | refine blk_drew ?_ | refine blk_alloc ?_ _)); refine blk_far ?_ NB182_188.out _; (with_reducible repeat (first | refine blk_drewN ?_ _ | refine blk_drew ?_ | refine blk_alloc ?_ _)); exact BK182.out) hb); have n1_ := Aside0.mk (blk_below (g := gb188) (o := .cells #[.int .i64 t184, .int .i64 t185, .int .i64 t186] 29 (0, 0)) (by (with_reducible repeat (first | refine blk_drewN ?_ _ | refine blk_drew ?_ | refine blk_alloc ?_ _)); refine blk_put (cs := #[.int .i64 t184, .int .i64 t185, .int .i64 0]) ?_ 2 _ rfl; (with_reducible repeat (first | refine blk_drewN ?_ _ | refine blk_drew ?_ | refine blk_alloc ?_ _)); refine blk_put (cs := #[.int .i64 t184, .int .i64 0, .int .i64 0]) ?_ 1 _ rfl; (with_reducible repeat (first | refine blk_drewN ?_ _ | refine blk_drew ?_ | refine blk_alloc ?_ _)); refine blk_put (cs := #[.int .i64 0, .int .i64 0, .int .i64 0]) ?_ 0 _ rfl; (with_reducible repeat (first | refine blk_drewN ?_ _ | refine blk_drew ?_ | refine blk_alloc ?_ _)); exact BK188.out) hb); have n2_ := Aside0.mk (below_step (by repeat (first | (with_reducible first | exact HB.out | apply below_alloc | apply pw_below_drewN | apply below_drew1 | refine below_set ?_ GE182.out | refine below_set ?_ GE188.out) | exact HB.out)) hb); clear BK182; clear BK188; clear HB; have BK182 := n0_; have BK188 := n1_; have HB := n2_; clear n0_ n1_ n2_; (try clear hb); (try clear hb2); (try clear hk); (try clear hi); have hcz18_0 : w17.cell? ⟨gb182, 0, none⟩ = some (.slice A0_0 l0_0.length c0_0) := (blk_cell BK182.out 0).trans rfl; have hcz18_1 : w17.cell? ⟨gb182, 1, none⟩ = some (.int .i64 a0_1) := (blk_cell BK182.out 1).trans rfl; have hcz18_2 : w17.cell? ⟨gb182, 2, none⟩ = some (.int .i64 a0_2) := (blk_cell BK182.out 2).trans rfl; have hcz18_3 : w17.cell? ⟨gb182, 3, none⟩ = some (.int .u8 a0_3) := (blk_cell BK182.out 3).trans rfl; have hcz18_4 : w17.cell? ⟨gb182, 4, none⟩ = some (.int .u8 a0_4) := (blk_cell BK182.out 4).trans rfl; have hcz18_5 : w17.cell? ⟨gb182, 5, none⟩ = some (.bool a0_5) := (blk_cell BK182.out 5).trans rfl; have hfz18_0 := blk_frozen BK182.out 0; have hfz18_1 := blk_frozen BK182.out 1; have hfz18_2 := blk_frozen BK182.out 2; have hfz18_3 := blk_frozen BK182.out 3; have hfz18_4 := blk_frozen BK182.out 4; have hfz18_5 := blk_frozen BK182.out 5; have hcz19_0 : w17.cell? ⟨gb188, 0, none⟩ = some (.int .i64 t184) := (blk_cell BK188.out 0).trans rfl; have hcz19_1 : w17.cell? ⟨gb188, 1, none⟩ = some (.int .i64 t185) := (blk_cell BK188.out 1).trans rfl; have hcz19_2 : w17.cell? ⟨gb188, 2, none⟩ = some (.int .i64 t186) := (blk_cell BK188.out 2).trans rfl; have hfz19_0 := blk_frozen BK188.out 0; have hfz19_1 := blk_frozen BK188.out 1; have hfz19_2 := blk_frozen BK188.out 2) | (go_at_call 12; (with_reducible refine (lines_Of.calls _ _ l0_0 t185 t191 t192 _ ?side1 ?side2 A7.out).mono ?_); (case side1 => repeat (first | exact (Kd.C_below HR0_0.out HB.out) | (with_reducible refine Kd.C_alloc ?_ _) | (with_reducible refine Kd.C_drewN ?_ _) | (with_reducible refine Kd.C_drew ?_))); (case side2 => exact HC0_0.out); rintro e w20 ⟨rfl, hb⟩; have n0_ := Aside0.mk (blk_below (g := gb182) (o := .cells #[.slice A0_0 l0_0.length c0_0, .int .i64 a0_1, .int .i64 a0_2, .int .u8 a0_3, .int .u8 a0_4, .bool a0_5] 26 (0, 0)) (by (with_reducible repeat (first | refine blk_drewN ?_ _ | refine blk_drew ?_ | refine blk_alloc ?_ _)); exact BK182.out) hb); have n1_ := Aside0.mk (blk_below (g := gb188) (o := .cells #[.int .i64 t184, .int .i64 t185, .int .i64 t186] 29 (0, 0)) (by (with_reducible repeat (first | refine blk_drewN ?_ _ | refine blk_drew ?_ | refine blk_alloc ?_ _)); exact BK188.out) hb); have n2_ := Aside0.mk (below_step (by repeat (first | (with_reducible first | exact HB.out | apply below_alloc | apply pw_below_drewN | apply below_drew1 | refine below_set ?_ GE182.out | refine below_set ?_ GE188.out) | exact HB.out)) hb); clear BK182; clear BK188; clear HB; have BK182 := n0_; have BK188 := n1_; have HB := n2_; clear n0_ n1_ n2_; (try clear hb); (try clear hb2); (try clear hk); (try clear hi)))
      repeat (go_quiet (first | ((with_reducible refine gate_dst (N := 1) rfl ?_); (try (refine gate_guard (by rfl) ?_; dsimp only)); refine box_event ?hg (N := 1) ?hd (cs := #[.slice A0_0 l0_0.length c0_0, .int .i64 a0_1, .int .i64 a0_2, .int .u8 a0_3, .int .u8 a0_4, .bool a0_5]) (t := 26) ?hr ?_; (case hd => rfl); (case hg => rfl); (case hr => first | (go_simp; done) | (go_simp; rfl)); intro gb182 hg w9 hbox hb; have n0_ := Aside0.mk (below_step (by repeat (first | (with_reducible first | exact HB.out | apply below_alloc | apply pw_below_drewN | apply below_drew1) | exact HB.out)) hb); have n1_ := Aside0.mk (hbox); have n2_ := Aside0.mk ((by rw [hg]; exact (below_size (by repeat (first | (with_reducible first | exact HB.out | apply below_alloc | apply pw_below_drewN | apply below_drew1) | exact HB.out))) : w.heap.size ≤ gb182)); have n3_ := Aside0.mk ((by rw [hg]; exact (below_size (by repeat (first | (with_reducible first | exact HB.out | apply below_alloc | apply pw_below_drewN | apply below_drew1) | exact HB.out))) : w.heap.size ≤ gb182)); clear HB; have HB := n0_; have BK182 := n1_; have GW182 := n2_; have GE182 := n3_; clear n0_ n1_ n2_ n3_; clear hb hbox hg) | (go_at_call 9; (with_reducible refine (quoinlaw09_awake.calls k  true _ A2.out).mono ?_); rintro e w10 ⟨rfl, hb⟩; have n0_ := Aside0.mk (blk_below (g := gb182) (o := .cells #[.slice A0_0 l0_0.length c0_0, .int .i64 a0_1, .int .i64 a0_2, .int .u8 a0_3, .int .u8 a0_4, .bool a0_5] 26 (0, 0)) (by (with_reducible repeat (first | refine blk_drewN ?_ _ | refine blk_drew ?_ | refine blk_alloc ?_ _)); exact BK182.out) hb); have n1_ := Aside0.mk (below_step (by repeat (first | (with_reducible first | exact HB.out | apply below_alloc | apply pw_below_drewN | apply below_drew1 | refine below_set ?_ GE182.out) | exact HB.out)) hb); clear BK182; clear HB; have BK182 := n0_; have HB := n1_; clear n0_ n1_; (try clear hb); (try clear hb2); (try clear hk); (try clear hi); have hcz11_0 : w10.cell? ⟨gb182, 0, none⟩ = some (.slice A0_0 l0_0.length c0_0) := (blk_cell BK182.out 0).trans rfl; have hcz11_1 : w10.cell? ⟨gb182, 1, none⟩ = some (.int .i64 a0_1) := (blk_cell BK182.out 1).trans rfl; have hcz11_2 : w10.cell? ⟨gb182, 2, none⟩ = some (.int .i64 a0_2) := (blk_cell BK182.out 2).trans rfl; have hcz11_3 : w10.cell? ⟨gb182, 3, none⟩ = some (.int .u8 a0_3) := (blk_cell BK182.out 3).trans rfl; have hcz11_4 : w10.cell? ⟨gb182, 4, none⟩ = some (.int .u8 a0_4) := (blk_cell BK182.out 4).trans rfl; have hcz11_5 : w10.cell? ⟨gb182, 5, none⟩ = some (.bool a0_5) := (blk_cell BK182.out 5).trans rfl; have hfz11_0 := blk_frozen BK182.out 0; have hfz11_1 := blk_frozen BK182.out 1; have hfz11_2 := blk_frozen BK182.out 2; have hfz11_3 := blk_frozen BK182.out 3; have hfz11_4 := blk_frozen BK182.out 4; have hfz11_5 := blk_frozen BK182.out 5) | (go_at_call 11; (with_reducible refine (seek_Move.calls k _ _ l0_0 a0_1 a0_2 a0_3 a0_4 t184 t185 t186 t187 _ ?side1 ?side2 A4.out).mono ?_); (case side1 => repeat (first | exact (Kd.C_below HR0_0.out HB.out) | (with_reducible refine Kd.C_alloc ?_ _) | (with_reducible refine Kd.C_drewN ?_ _) | (with_reducible refine Kd.C_drew ?_))); (case side2 => exact HC0_0.out); rintro e w12 ⟨rfl, hb⟩; have n0_ := Aside0.mk (blk_below (g := gb182) (o := .cells #[.slice A0_0 l0_0.length c0_0, .int .i64 a0_1, .int .i64 a0_2, .int .u8 a0_3, .int .u8 a0_4, .bool a0_5] 26 (0, 0)) (by (with_reducible repeat (first | refine blk_drewN ?_ _ | refine blk_drew ?_ | refine blk_alloc ?_ _)); exact BK182.out) hb); have n1_ := Aside0.mk (below_step (by repeat (first | (with_reducible first | exact HB.out | apply below_alloc | apply pw_below_drewN | apply below_drew1 | refine below_set ?_ GE182.out) | exact HB.out)) hb); clear BK182; clear HB; have BK182 := n0_; have HB := n1_; clear n0_ n1_; (try clear hb); (try clear hb2); (try clear hk); (try clear hi)) | ((with_reducible refine gate_dst (N := 3) rfl ?_); (try (refine gate_guard (by rfl) ?_; dsimp only)); refine box_event ?hg (N := 3) ?hd (cs := #[.int .i64 0, .int .i64 0, .int .i64 0]) (t := 29) ?hr ?_; (case hd => rfl); (case hg => rfl); (case hr => first | (go_simp; done) | (go_simp; rfl)); intro gb188 hg w13 hbox hb; have n0_ := Aside0.mk (blk_below (g := gb182) (o := .cells #[.slice A0_0 l0_0.length c0_0, .int .i64 a0_1, .int .i64 a0_2, .int .u8 a0_3, .int .u8 a0_4, .bool a0_5] 26 (0, 0)) (by (with_reducible repeat (first | refine blk_drewN ?_ _ | refine blk_drew ?_ | refine blk_alloc ?_ _)); exact BK182.out) hb); have n1_ := Aside0.mk (below_step (by repeat (first | (with_reducible first | exact HB.out | apply below_alloc | apply pw_below_drewN | apply below_drew1 | refine below_set ?_ GE182.out) | exact HB.out)) hb); have n2_ := Aside0.mk (hbox); have n3_ := Aside0.mk ((by rw [hg]; exact (below_size (by repeat (first | (with_reducible first | exact HB.out | apply below_alloc | apply pw_below_drewN | apply below_drew1 | refine below_set ?_ GE182.out) | exact HB.out))) : w.heap.size ≤ gb188)); have n4_ := Aside0.mk ((by rw [hg]; exact (below_size (by repeat (first | (with_reducible first | exact HB.out | apply below_alloc | apply pw_below_drewN | apply below_drew1 | refine below_set ?_ GE182.out) | exact HB.out))) : w.heap.size ≤ gb188)); have n5_ := Aside0.mk ((by rw [hg]; exact Nat.ne_of_lt (blk_lt (g := gb182) (o := .cells #[.slice A0_0 l0_0.length c0_0, .int .i64 a0_1, .int .i64 a0_2, .int .u8 a0_3, .int .u8 a0_4, .bool a0_5] 26 (0, 0)) (by (with_reducible repeat (first | refine blk_drewN ?_ _ | refine blk_drew ?_ | refine blk_alloc ?_ _)); exact BK182.out)) : gb182 ≠ gb188)); have n6_ := Aside0.mk ((by rw [hg]; exact Nat.ne_of_gt (blk_lt (g := gb182) (o := .cells #[.slice A0_0 l0_0.length c0_0, .int .i64 a0_1, .int .i64 a0_2, .int .u8 a0_3, .int .u8 a0_4, .bool a0_5] 26 (0, 0)) (by (with_reducible repeat (first | refine blk_drewN ?_ _ | refine blk_drew ?_ | refine blk_alloc ?_ _)); exact BK182.out)) : gb188 ≠ gb182)); clear BK182; clear HB; have BK182 := n0_; have HB := n1_; have BK188 := n2_; have GW188 := n3_; have GE188 := n4_; have NB182_188 := n5_; have NB188_182 := n6_; clear n0_ n1_ n2_ n3_ n4_ n5_ n6_; clear hb hbox hg; have hnb14 := NB188_182.out; have hnc14 := NB182_188.out; have hcz15_0 : w13.cell? ⟨gb188, 0, none⟩ = some (.int .i64 0) := (blk_cell BK188.out 0).trans rfl; have hcz15_1 : w13.cell? ⟨gb188, 1, none⟩ = some (.int .i64 0) := (blk_cell BK188.out 1).trans rfl; have hcz15_2 : w13.cell? ⟨gb188, 2, none⟩ = some (.int .i64 0) := (blk_cell BK188.out 2).trans rfl; have hfz15_0 := blk_frozen BK188.out 0; have hfz15_1 := blk_frozen BK188.out 1; have hfz15_2 := blk_frozen BK188.out 2; have hcz16_0 : w13.cell? ⟨gb182, 0, none⟩ = some (.slice A0_0 l0_0.length c0_0) := (blk_cell BK182.out 0).trans rfl; have hcz16_1 : w13.cell? ⟨gb182, 1, none⟩ = some (.int .i64 a0_1) := (blk_cell BK182.out 1).trans rfl; have hcz16_2 : w13.cell? ⟨gb182, 2, none⟩ = some (.int .i64 a0_2) := (blk_cell BK182.out 2).trans rfl; have hcz16_3 : w13.cell? ⟨gb182, 3, none⟩ = some (.int .u8 a0_3) := (blk_cell BK182.out 3).trans rfl; have hcz16_4 : w13.cell? ⟨gb182, 4, none⟩ = some (.int .u8 a0_4) := (blk_cell BK182.out 4).trans rfl; have hcz16_5 : w13.cell? ⟨gb182, 5, none⟩ = some (.bool a0_5) := (blk_cell BK182.out 5).trans rfl; have hfz16_0 := blk_frozen BK182.out 0; have hfz16_1 := blk_frozen BK182.out 1; have hfz16_2 := blk_frozen BK182.out 2; have hfz16_3 := blk_frozen BK182.out 3; have hfz16_4 := blk_frozen BK182.out 4; have hfz16_5 := blk_frozen BK182.out 5) | (go_at_call 12; (with_reducible refine (lines_Of.calls _ _ l0_0 a0_1 t189 t190 _ ?side1 ?side2 A6.out).mono ?_); (case side1 => exact Kd.C_below HR0_0.out (by repeat (first | (with_reducible first | exact HB.out | apply below_alloc | apply pw_below_drewN | apply below_drew1 | refine below_set ?_ GE182.out | refine below_set ?_ GE188.out) | exact HB.out))); (case side2 => exact HC0_0.out); rintro e w17 ⟨rfl, hb⟩; have n0_ := Aside0.mk (blk_below (g := gb182) (o := .cells #[.slice A0_0 l0_0.length c0_0, .int .i64 a0_1, .int .i64 a0_2, .int .u8 a0_3, .int .u8 a0_4, .bool a0_5] 26 (0, 0)) (by (with_reducible repeat (first | refine blk_drewN ?_ _ | refine blk_drew ?_ | refine blk_alloc ?_ _)); refine blk_far ?_ NB182_188.out _; (with_reducible repeat (first | refine blk_drewN ?_ _ | refine blk_drew ?_ | refine blk_alloc ?_ _)); refine blk_far ?_ NB182_188.out _; (with_reducible repeat (first | refine blk_drewN ?_ _ | refine blk_drew ?_ | refine blk_alloc ?_ _)); refine blk_far ?_ NB182_188.out _; (with_reducible repeat (first | refine blk_drewN ?_ _ | refine blk_drew ?_ | refine blk_alloc ?_ _)); exact BK182.out) hb); have n1_ := Aside0.mk (blk_below (g := gb188) (o := .cells #[.int .i64 t184, .int .i64 t185, .int .i64 t186] 29 (0, 0)) (by (with_reducible repeat (first | refine blk_drewN ?_ _ | refine blk_drew ?_ | refine blk_alloc ?_ _)); refine blk_put (cs := #[.int .i64 t184, .int .i64 t185, .int .i64 0]) ?_ 2 _ rfl; (with_reducible repeat (first | refine blk_drewN ?_ _ | refine blk_drew ?_ | refine blk_alloc ?_ _)); refine blk_put (cs := #[.int .i64 t184, .int .i64 0, .int .i64 0]) ?_ 1 _ rfl; (with_reducible repeat (first | refine blk_drewN ?_ _ | refine blk_drew ?_ | refine blk_alloc ?_ _)); refine blk_put (cs := #[.int .i64 0, .int .i64 0, .int .i64 0]) ?_ 0 _ rfl; (with_reducible repeat (first | refine blk_drewN ?_ _ | refine blk_drew ?_ | refine blk_alloc ?_ _)); exact BK188.out) hb); have n2_ := Aside0.mk (below_step (by repeat (first | (with_reducible first | exact HB.out | apply below_alloc | apply pw_below_drewN | apply below_drew1 | refine below_set ?_ GE182.out | refine below_set ?_ GE188.out) | exact HB.out)) hb); clear BK182; clear BK188; clear HB; have BK182 := n0_; have BK188 := n1_; have HB := n2_; clear n0_ n1_ n2_; (try clear hb); (try clear hb2); (try clear hk); (try clear hi); have hcz18_0 : w17.cell? ⟨gb182, 0, none⟩ = some (.slice A0_0 l0_0.length c0_0) := (blk_cell BK182.out 0).trans rfl; have hcz18_1 : w17.cell? ⟨gb182, 1, none⟩ = some (.int .i64 a0_1) := (blk_cell BK182.out 1).trans rfl; have hcz18_2 : w17.cell? ⟨gb182, 2, none⟩ = some (.int .i64 a0_2) := (blk_cell BK182.out 2).trans rfl; have hcz18_3 : w17.cell? ⟨gb182, 3, none⟩ = some (.int .u8 a0_3) := (blk_cell BK182.out 3).trans rfl; have hcz18_4 : w17.cell? ⟨gb182, 4, none⟩ = some (.int .u8 a0_4) := (blk_cell BK182.out 4).trans rfl; have hcz18_5 : w17.cell? ⟨gb182, 5, none⟩ = some (.bool a0_5) := (blk_cell BK182.out 5).trans rfl; have hfz18_0 := blk_frozen BK182.out 0; have hfz18_1 := blk_frozen BK182.out 1; have hfz18_2 := blk_frozen BK182.out 2; have hfz18_3 := blk_frozen BK182.out 3; have hfz18_4 := blk_frozen BK182.out 4; have hfz18_5 := blk_frozen BK182.out 5; have hcz19_0 : w17.cell? ⟨gb188, 0, none⟩ = some (.int .i64 t184) := (blk_cell BK188.out 0).trans rfl; have hcz19_1 : w17.cell? ⟨gb188, 1, none⟩ = some (.int .i64 t185) := (blk_cell BK188.out 1).trans rfl; have hcz19_2 : w17.cell? ⟨gb188, 2, none⟩ = some (.int .i64 t186) := (blk_cell BK188.out 2).trans rfl; have hfz19_0 := blk_frozen BK188.out 0; have hfz19_1 := blk_frozen BK188.out 1; have hfz19_2 := blk_frozen BK188.out 2) | (go_at_call 12; (with_reducible refine (lines_Of.calls _ _ l0_0 t185 t191 t192 _ ?side1 ?side2 A7.out).mono ?_); (case side1 => repeat (first | exact (Kd.C_below HR0_0.out HB.out) | (with_reducible refine Kd.C_alloc ?_ _) | (with_reducible refine Kd.C_drewN ?_ _) | (with_reducible refine Kd.C_drew ?_))); (case side2 => exact HC0_0.out); rintro e w20 ⟨rfl, hb⟩; have n0_ := Aside0.mk (blk_below (g := gb182) (o := .cells #[.slice A0_0 l0_0.length c0_0, .int .i64 a0_1, .int .i64 a0_2, .int .u8 a0_3, .int .u8 a0_4, .bool a0_5] 26 (0, 0)) (by (with_reducible repeat (first | refine blk_drewN ?_ _ | refine blk_drew ?_ | refine blk_alloc ?_ _)); exact BK182.out) hb); have n1_ := Aside0.mk (blk_below (g := gb188) (o := .cells #[.int .i64 t184, .int .i64 t185, .int .i64 t186] 29 (0, 0)) (by (with_reducible repeat (first | refine blk_drewN ?_ _ | refine blk_drew ?_ | refine blk_alloc ?_ _)); exact BK188.out) hb); have n2_ := Aside0.mk (below_step (by repeat (first | (with_reducible first | exact HB.out | apply below_alloc | apply pw_below_drewN | apply below_drew1 | refine below_set ?_ GE182.out | refine below_set ?_ GE188.out) | exact HB.out)) hb); clear BK182; clear BK188; clear HB; have BK182 := n0_; have BK188 := n1_; have HB := n2_; clear n0_ n1_ n2_; (try clear hb); (try clear hb2); (try clear hk); (try clear hi))); go_upto_region 8 with (first | ((with_reducible refine gate_dst (N := 1) rfl ?_); (try (refine gate_guard (by rfl) ?_; dsimp only)); refine box_event ?hg (N := 1) ?hd (cs := #[.slice A0_0 l0_0.length c0_0, .int .i64 a0_1, .int .i64 a0_2, .int .u8 a0_3, .int .u8 a0_4, .bool a0_5]) (t := 26) ?hr ?_; (case hd => rfl); (case hg => rfl); (case hr => first | (go_simp; done) | (go_simp; rfl)); intro gb182 hg w9 hbox hb; have n0_ := Aside0.mk (below_step (by repeat (first | (with_reducible first | exact HB.out | apply below_alloc | apply pw_below_drewN | apply below_drew1) | exact HB.out)) hb); have n1_ := Aside0.mk (hbox); have n2_ := Aside0.mk ((by rw [hg]; exact (below_size (by repeat (first | (with_reducible first | exact HB.out | apply below_alloc | apply pw_below_drewN | apply below_drew1) | exact HB.out))) : w.heap.size ≤ gb182)); have n3_ := Aside0.mk ((by rw [hg]; exact (below_size (by repeat (first | (with_reducible first | exact HB.out | apply below_alloc | apply pw_below_drewN | apply below_drew1) | exact HB.out))) : w.heap.size ≤ gb182)); clear HB; have HB := n0_; have BK182 := n1_; have GW182 := n2_; have GE182 := n3_; clear n0_ n1_ n2_ n3_; clear hb hbox hg) | (go_at_call 9; (with_reducible refine (quoinlaw09_awake.calls k  true _ A2.out).mono ?_); rintro e w10 ⟨rfl, hb⟩; have n0_ := Aside0.mk (blk_below (g := gb182) (o := .cells #[.slice A0_0 l0_0.length c0_0, .int .i64 a0_1, .int .i64 a0_2, .int .u8 a0_3, .int .u8 a0_4, .bool a0_5] 26 (0, 0)) (by (with_reducible repeat (first | refine blk_drewN ?_ _ | refine blk_drew ?_ | refine blk_alloc ?_ _)); exact BK182.out) hb); have n1_ := Aside0.mk (below_step (by repeat (first | (with_reducible first | exact HB.out | apply below_alloc | apply pw_below_drewN | apply below_drew1 | refine below_set ?_ GE182.out) | exact HB.out)) hb); clear BK182; clear HB; have BK182 := n0_; have HB := n1_; clear n0_ n1_; (try clear hb); (try clear hb2); (try clear hk); (try clear hi); have hcz11_0 : w10.cell? ⟨gb182, 0, none⟩ = some (.slice A0_0 l0_0.length c0_0) := (blk_cell BK182.out 0).trans rfl; have hcz11_1 : w10.cell? ⟨gb182, 1, none⟩ = some (.int .i64 a0_1) := (blk_cell BK182.out 1).trans rfl; have hcz11_2 : w10.cell? ⟨gb182, 2, none⟩ = some (.int .i64 a0_2) := (blk_cell BK182.out 2).trans rfl; have hcz11_3 : w10.cell? ⟨gb182, 3, none⟩ = some (.int .u8 a0_3) := (blk_cell BK182.out 3).trans rfl; have hcz11_4 : w10.cell? ⟨gb182, 4, none⟩ = some (.int .u8 a0_4) := (blk_cell BK182.out 4).trans rfl; have hcz11_5 : w10.cell? ⟨gb182, 5, none⟩ = some (.bool a0_5) := (blk_cell BK182.out 5).trans rfl; have hfz11_0 := blk_frozen BK182.out 0; have hfz11_1 := blk_frozen BK182.out 1; have hfz11_2 := blk_frozen BK182.out 2; have hfz11_3 := blk_frozen BK182.out 3; have hfz11_4 := blk_frozen BK182.out 4; have hfz11_5 := blk_frozen BK182.out 5) | (go_at_call 11; (with_reducible refine (seek_Move.calls k _ _ l0_0 a0_1 a0_2 a0_3 a0_4 t184 t185 t186 t187 _ ?side1 ?side2 A4.out).mono ?_); (case side1 => repeat (first | exact (Kd.C_below HR0_0.out HB.out) | (with_reducible refine Kd.C_alloc ?_ _) | (with_reducible refine Kd.C_drewN ?_ _) | (with_reducible refine Kd.C_drew ?_))); (case side2 => exact HC0_0.out); rintro e w12 ⟨rfl, hb⟩; have n0_ := Aside0.mk (blk_below (g := gb182) (o := .cells #[.slice A0_0 l0_0.length c0_0, .int .i64 a0_1, .int .i64 a0_2, .int .u8 a0_3, .int .u8 a0_4, .bool a0_5] 26 (0, 0)) (by (with_reducible repeat (first | refine blk_drewN ?_ _ | refine blk_drew ?_ | refine blk_alloc ?_ _)); exact BK182.out) hb); have n1_ := Aside0.mk (below_step (by repeat (first | (with_reducible first | exact HB.out | apply below_alloc | apply pw_below_drewN | apply below_drew1 | refine below_set ?_ GE182.out) | exact HB.out)) hb); clear BK182; clear HB; have BK182 := n0_; have HB := n1_; clear n0_ n1_; (try clear hb); (try clear hb2); (try clear hk); (try clear hi)) | ((with_reducible refine gate_dst (N := 3) rfl ?_); (try (refine gate_guard (by rfl) ?_; dsimp only)); refine box_event ?hg (N := 3) ?hd (cs := #[.int .i64 0, .int .i64 0, .int .i64 0]) (t := 29) ?hr ?_; (case hd => rfl); (case hg => rfl); (case hr => first | (go_simp; done) | (go_simp; rfl)); intro gb188 hg w13 hbox hb; have n0_ := Aside0.mk (blk_below (g := gb182) (o := .cells #[.slice A0_0 l0_0.length c0_0, .int .i64 a0_1, .int .i64 a0_2, .int .u8 a0_3, .int .u8 a0_4, .bool a0_5] 26 (0, 0)) (by (with_reducible repeat (first | refine blk_drewN ?_ _ | refine blk_drew ?_ | refine blk_alloc ?_ _)); exact BK182.out) hb); have n1_ := Aside0.mk (below_step (by repeat (first | (with_reducible first | exact HB.out | apply below_alloc | apply pw_below_drewN | apply below_drew1 | refine below_set ?_ GE182.out) | exact HB.out)) hb); have n2_ := Aside0.mk (hbox); have n3_ := Aside0.mk ((by rw [hg]; exact (below_size (by repeat (first | (with_reducible first | exact HB.out | apply below_alloc | apply pw_below_drewN | apply below_drew1 | refine below_set ?_ GE182.out) | exact HB.out))) : w.heap.size ≤ gb188)); have n4_ := Aside0.mk ((by rw [hg]; exact (below_size (by repeat (first | (with_reducible first | exact HB.out | apply below_alloc | apply pw_below_drewN | apply below_drew1 | refine below_set ?_ GE182.out) | exact HB.out))) : w.heap.size ≤ gb188)); have n5_ := Aside0.mk ((by rw [hg]; exact Nat.ne_of_lt (blk_lt (g := gb182) (o := .cells #[.slice A0_0 l0_0.length c0_0, .int .i64 a0_1, .int .i64 a0_2, .int .u8 a0_3, .int .u8 a0_4, .bool a0_5] 26 (0, 0)) (by (with_reducible repeat (first | refine blk_drewN ?_ _ | refine blk_drew ?_ | refine blk_alloc ?_ _)); exact BK182.out)) : gb182 ≠ gb188)); have n6_ := Aside0.mk ((by rw [hg]; exact Nat.ne_of_gt (blk_lt (g := gb182) (o := .cells #[.slice A0_0 l0_0.length c0_0, .int .i64 a0_1, .int .i64 a0_2, .int .u8 a0_3, .int .u8 a0_4, .bool a0_5] 26 (0, 0)) (by (with_reducible repeat (first | refine blk_drewN ?_ _ | refine blk_drew ?_ | refine blk_alloc ?_ _)); exact BK182.out)) : gb188 ≠ gb182)); clear BK182; clear HB; have BK182 := n0_; have HB := n1_; have BK188 := n2_; have GW188 := n3_; have GE188 := n4_; have NB182_188 := n5_; have NB188_182 := n6_; clear n0_ n1_ n2_ n3_ n4_ n5_ n6_; clear hb hbox hg; have hnb14 := NB188_182.out; have hnc14 := NB182_188.out; have hcz15_0 : w13.cell? ⟨gb188, 0, none⟩ = some (.int .i64 0) := (blk_cell BK188.out 0).trans rfl; have hcz15_1 : w13.cell? ⟨gb188, 1, none⟩ = some (.int .i64 0) := (blk_cell BK188.out 1).trans rfl; have hcz15_2 : w13.cell? ⟨gb188, 2, none⟩ = some (.int .i64 0) := (blk_cell BK188.out 2).trans rfl; have hfz15_0 := blk_frozen BK188.out 0; have hfz15_1 := blk_frozen BK188.out 1; have hfz15_2 := blk_frozen BK188.out 2; have hcz16_0 : w13.cell? ⟨gb182, 0, none⟩ = some (.slice A0_0 l0_0.length c0_0) := (blk_cell BK182.out 0).trans rfl; have hcz16_1 : w13.cell? ⟨gb182, 1, none⟩ = some (.int .i64 a0_1) := (blk_cell BK182.out 1).trans rfl; have hcz16_2 : w13.cell? ⟨gb182, 2, none⟩ = some (.int .i64 a0_2) := (blk_cell BK182.out 2).trans rfl; have hcz16_3 : w13.cell? ⟨gb182, 3, none⟩ = some (.int .u8 a0_3) := (blk_cell BK182.out 3).trans rfl; have hcz16_4 : w13.cell? ⟨gb182, 4, none⟩ = some (.int .u8 a0_4) := (blk_cell BK182.out 4).trans rfl; have hcz16_5 : w13.cell? ⟨gb182, 5, none⟩ = some (.bool a0_5) := (blk_cell BK182.out 5).trans rfl; have hfz16_0 := blk_frozen BK182.out 0; have hfz16_1 := blk_frozen BK182.out 1; have hfz16_2 := blk_frozen BK182.out 2; have hfz16_3 := blk_frozen BK182.out 3; have hfz16_4 := blk_frozen BK182.out 4; have hfz16_5 := blk_frozen BK182.out 5) | (go_at_call 12; (with_reducible refine (lines_Of.calls _ _ l0_0 a0_1 t189 t190 _ ?side1 ?side2 A6.out).mono ?_); (case side1 => exact Kd.C_below HR0_0.out (by repeat (first | (with_reducible first | exact HB.out | apply below_alloc | apply pw_below_drewN | apply below_drew1 | refine below_set ?_ GE182.out | refine below_set ?_ GE188.out) | exact HB.out))); (case side2 => exact HC0_0.out); rintro e w17 ⟨rfl, hb⟩; have n0_ := Aside0.mk (blk_below (g := gb182) (o := .cells #[.slice A0_0 l0_0.length c0_0, .int .i64 a0_1, .int .i64 a0_2, .int .u8 a0_3, .int .u8 a0_4, .bool a0_5] 26 (0, 0)) (by (with_reducible repeat (first | refine blk_drewN ?_ _ | refine blk_drew ?_ | refine blk_alloc ?_ _)); refine blk_far ?_ NB182_188.out _; (with_reducible repeat (first | refine blk_drewN ?_ _ | refine blk_drew ?_ | refine blk_alloc ?_ _)); refine blk_far ?_ NB182_188.out _; (with_reducible repeat (first | refine blk_drewN ?_ _ | refine blk_drew ?_ | refine blk_alloc ?_ _)); refine blk_far ?_ NB182_188.out _; (with_reducible repeat (first | refine blk_drewN ?_ _ | refine blk_drew ?_ | refine blk_alloc ?_ _)); exact BK182.out) hb); have n1_ := Aside0.mk (blk_below (g := gb188) (o := .cells #[.int .i64 t184, .int .i64 t185, .int .i64 t186] 29 (0, 0)) (by (with_reducible repeat (first | refine blk_drewN ?_ _ | refine blk_drew ?_ | refine blk_alloc ?_ _)); refine blk_put (cs := #[.int .i64 t184, .int .i64 t185, .int .i64 0]) ?_ 2 _ rfl; (with_reducible repeat (first | refine blk_drewN ?_ _ | refine blk_drew ?_ | refine blk_alloc ?_ _)); refine blk_put (cs := #[.int .i64 t184, .int .i64 0, .int .i64 0]) ?_ 1 _ rfl; (with_reducible repeat (first | refine blk_drewN ?_ _ | refine blk_drew ?_ | refine blk_alloc ?_ _)); refine blk_put (cs := #[.int .i64 0, .int .i64 0, .int .i64 0]) ?_ 0 _ rfl; (with_reducible repeat (first | refine blk_drewN ?_ _ | refine blk_drew ?_ | refine blk_alloc ?_ _)); exact BK188.out) hb); have n2_ := Aside0.mk (below_step (by repeat (first | (with_reducible first | exact HB.out | apply below_alloc | apply pw_below_drewN | apply below_drew1 | refine below_set ?_ GE182.out | refine below_set ?_ GE188.out) | exact HB.out)) hb); clear BK182; clear BK188; clear HB; have BK182 := n0_; have BK188 := n1_; have HB := n2_; clear n0_ n1_ n2_; (try clear hb); (try clear hb2); (try clear hk); (try clear hi); have hcz18_0 : w17.cell? ⟨gb182, 0, none⟩ = some (.slice A0_0 l0_0.length c0_0) := (blk_cell BK182.out 0).trans rfl; have hcz18_1 : w17.cell? ⟨gb182, 1, none⟩ = some (.int .i64 a0_1) := (blk_cell BK182.out 1).trans rfl; have hcz18_2 : w17.cell? ⟨gb182, 2, none⟩ = some (.int .i64 a0_2) := (blk_cell BK182.out 2).trans rfl; have hcz18_3 : w17.cell? ⟨gb182, 3, none⟩ = some (.int .u8 a0_3) := (blk_cell BK182.out 3).trans rfl; have hcz18_4 : w17.cell? ⟨gb182, 4, none⟩ = some (.int .u8 a0_4) := (blk_cell BK182.out 4).trans rfl; have hcz18_5 : w17.cell? ⟨gb182, 5, none⟩ = some (.bool a0_5) := (blk_cell BK182.out 5).trans rfl; have hfz18_0 := blk_frozen BK182.out 0; have hfz18_1 := blk_frozen BK182.out 1; have hfz18_2 := blk_frozen BK182.out 2; have hfz18_3 := blk_frozen BK182.out 3; have hfz18_4 := blk_frozen BK182.out 4; have hfz18_5 := blk_frozen BK182.out 5; have hcz19_0 : w17.cell? ⟨gb188, 0, none⟩ = some (.int .i64 t184) := (blk_cell BK188.out 0).trans rfl; have hcz19_1 : w17.cell? ⟨gb188, 1, none⟩ = some (.int .i64 t185) := (blk_cell BK188.out 1).trans rfl; have hcz19_2 : w17.cell? ⟨gb188, 2, none⟩ = some (.int .i64 t186) := (blk_cell BK188.out 2).trans rfl; have hfz19_0 := blk_frozen BK188.out 0; have hfz19_1 := blk_frozen BK188.out 1; have hfz19_2 := blk_frozen BK188.out 2) | (go_at_call 12; (with_reducible refine (lines_Of.calls _ _ l0_0 t185 t191 t192 _ ?side1 ?side2 A7.out).mono ?_); (case side1 => repeat (first | exact (Kd.C_below HR0_0.out HB.out) | (with_reducible refine Kd.C_alloc ?_ _) | (with_reducible refine Kd.C_drewN ?_ _) | (with_reducible refine Kd.C_drew ?_))); (case side2 => exact HC0_0.out); rintro e w20 ⟨rfl, hb⟩; have n0_ := Aside0.mk (blk_below (g := gb182) (o := .cells #[.slice A0_0 l0_0.length c0_0, .int .i64 a0_1, .int .i64 a0_2, .int .u8 a0_3, .int .u8 a0_4, .bool a0_5] 26 (0, 0)) (by (with_reducible repeat (first | refine blk_drewN ?_ _ | refine blk_drew ?_ | refine blk_alloc ?_ _)); exact BK182.out) hb); have n1_ := Aside0.mk (blk_below (g := gb188) (o := .cells #[.int .i64 t184, .int .i64 t185, .int .i64 t186] 29 (0, 0)) (by (with_reducible repeat (first | refine blk_drewN ?_ _ | refine blk_drew ?_ | refine blk_alloc ?_ _)); exact BK188.out) hb); have n2_ := Aside0.mk (below_step (by repeat (first | (with_reducible first | exact HB.out | apply below_alloc | apply pw_below_drewN | apply below_drew1 | refine below_set ?_ GE182.out | refine below_set ?_ GE188.out) | exact HB.out)) hb); clear BK182; clear BK188; clear HB; have BK182 := n0_; have BK188 := n1_; have HB := n2_; clear n0_ n1_ n2_; (try clear hb); (try clear hb2); (try clear hk); (try clear hi))))
      (try simp only [Act.put, List.setIfInBounds_toArray, List.set_cons_zero, List.set_cons_succ])
      go_cut [65] (fun v65 wc => ∃ (kq : Nat) (x65_7 : Bool), v65 = .bool x65_7 ∧ Aside0 (quoinlaw09_SeekLine.j0 kq x65_7 l0_0 a0_1 a0_2 a0_3 a0_4 a0_5 t184 t185 t186 = some r) ∧ Aside0 (kq ≤ k) ∧ Aside0 (wc.heap[gb182]? = some (.cells #[(.slice A0_0 l0_0.length c0_0), .int .i64 a0_1, .int .i64 a0_2, .int .u8 a0_3, .int .u8 a0_4, .bool a0_5] 26 (0, 0))) ∧ Aside0 (wc.heap[gb188]? = some (.cells #[.int .i64 t184, .int .i64 t185, .int .i64 t186] 29 (0, 0))) ∧ Aside0 (Below w.heap.size w wc))
      case first =>
        have H := HC8.out
        clear HC8
        by_cases c21 : t190 = 0
        · rw [if_pos c21] at H
          have c21b0 : (t190 == 0) = true := beq_iff_eq.mpr c21
          have c21b1 : (t190 != 0) = false := bne_eq_false_iff_eq.mpr c21
          clear c21
          (first | rw [c21b0] | (simp only [i64_w, i32_w]; rw [c21b0]) | skip)
          by_cases c22 : t192 = 0
          · rw [if_pos c22] at H
            have c22b0 : (t192 == 0) = true := beq_iff_eq.mpr c22
            have c22b1 : (t192 != 0) = false := bne_eq_false_iff_eq.mpr c22
            clear c22
            by_cases c23 : t189 = t191
            · rw [if_pos c23] at H
              have c23b0 : (t189 == t191) = true := beq_iff_eq.mpr c23
              have c23b1 : (t189 != t191) = false := bne_eq_false_iff_eq.mpr c23
              clear c23
              have H' := Aside0.mk H
              clear H
              have hnb24 := NB188_182.out
              have hnc24 := NB182_188.out
              have hcz25_0 : w20.cell? ⟨gb188, 0, none⟩ = some (.int .i64 t184) := (blk_cell BK188.out 0).trans rfl
              have hcz25_1 : w20.cell? ⟨gb188, 1, none⟩ = some (.int .i64 t185) := (blk_cell BK188.out 1).trans rfl
              have hcz25_2 : w20.cell? ⟨gb188, 2, none⟩ = some (.int .i64 t186) := (blk_cell BK188.out 2).trans rfl
              have hfz25_0 := blk_frozen BK188.out 0
              have hfz25_1 := blk_frozen BK188.out 1
              have hfz25_2 := blk_frozen BK188.out 2
              have hcz26_0 : w20.cell? ⟨gb182, 0, none⟩ = some (.slice A0_0 l0_0.length c0_0) := (blk_cell BK182.out 0).trans rfl
              have hcz26_1 : w20.cell? ⟨gb182, 1, none⟩ = some (.int .i64 a0_1) := (blk_cell BK182.out 1).trans rfl
              have hcz26_2 : w20.cell? ⟨gb182, 2, none⟩ = some (.int .i64 a0_2) := (blk_cell BK182.out 2).trans rfl
              have hcz26_3 : w20.cell? ⟨gb182, 3, none⟩ = some (.int .u8 a0_3) := (blk_cell BK182.out 3).trans rfl
              have hcz26_4 : w20.cell? ⟨gb182, 4, none⟩ = some (.int .u8 a0_4) := (blk_cell BK182.out 4).trans rfl
              have hcz26_5 : w20.cell? ⟨gb182, 5, none⟩ = some (.bool a0_5) := (blk_cell BK182.out 5).trans rfl
              have hfz26_0 := blk_frozen BK182.out 0
              have hfz26_1 := blk_frozen BK182.out 1
              have hfz26_2 := blk_frozen BK182.out 2
              have hfz26_3 := blk_frozen BK182.out 3
              have hfz26_4 := blk_frozen BK182.out 4
              have hfz26_5 := blk_frozen BK182.out 5
              go_wp2
              repeat (go_quiet (fail); try go_wp2)
              go_meet
              case rel => exact ⟨_, ((t184 != a0_1)), (by first | rfl | (simp; done) | (simp [*]; done)), H', ⟨by first | omega | exact Nat.le_refl _⟩, ⟨by (with_reducible repeat (first | refine blk_drewN ?_ _ | refine blk_drew ?_ | refine blk_alloc ?_ _)); exact BK182.out⟩, ⟨by (with_reducible repeat (first | refine blk_drewN ?_ _ | refine blk_drew ?_ | refine blk_alloc ?_ _)); exact BK188.out⟩, ⟨by repeat (first | (with_reducible first | exact HB.out | apply below_alloc | apply pw_below_drewN | apply below_drew1 | refine below_set ?_ GE182.out | refine below_set ?_ GE188.out) | exact HB.out)⟩⟩
            · rw [if_neg c23] at H
              have c23b0 : (t189 == t191) = false := beq_eq_false_iff_ne.mpr c23
              have c23b1 : (t189 != t191) = true := bne_iff_ne.mpr c23
              have H' := Aside0.mk H
              clear H
              go_wp2
              repeat (go_quiet (fail); try go_wp2)
              go_meet
              case rel => exact ⟨_, (true), (by first | rfl | (simp; done) | (simp [*]; done)), H', ⟨by first | omega | exact Nat.le_refl _⟩, ⟨by (with_reducible repeat (first | refine blk_drewN ?_ _ | refine blk_drew ?_ | refine blk_alloc ?_ _)); exact BK182.out⟩, ⟨by (with_reducible repeat (first | refine blk_drewN ?_ _ | refine blk_drew ?_ | refine blk_alloc ?_ _)); exact BK188.out⟩, ⟨by repeat (first | (with_reducible first | exact HB.out | apply below_alloc | apply pw_below_drewN | apply below_drew1 | refine below_set ?_ GE182.out | refine below_set ?_ GE188.out) | exact HB.out)⟩⟩
          · rw [if_neg c22] at H
            have c22b0 : (t192 == 0) = false := beq_eq_false_iff_ne.mpr c22
            have c22b1 : (t192 != 0) = true := bne_iff_ne.mpr c22
            have H' := Aside0.mk H
            clear H
            go_wp2
            repeat (go_quiet (fail); try go_wp2)
            go_meet
            case rel => exact ⟨_, (true), (by first | rfl | (simp; done) | (simp [*]; done)), H', ⟨by first | omega | exact Nat.le_refl _⟩, ⟨by (with_reducible repeat (first | refine blk_drewN ?_ _ | refine blk_drew ?_ | refine blk_alloc ?_ _)); exact BK182.out⟩, ⟨by (with_reducible repeat (first | refine blk_drewN ?_ _ | refine blk_drew ?_ | refine blk_alloc ?_ _)); exact BK188.out⟩, ⟨by repeat (first | (with_reducible first | exact HB.out | apply below_alloc | apply pw_below_drewN | apply below_drew1 | refine below_set ?_ GE182.out | refine below_set ?_ GE188.out) | exact HB.out)⟩⟩
        · rw [if_neg c21] at H
          have c21b0 : (t190 == 0) = false := beq_eq_false_iff_ne.mpr c21
          have c21b1 : (t190 != 0) = true := bne_iff_ne.mpr c21
          (first | rw [c21b0] | (simp only [i64_w, i32_w]; rw [c21b0]) | skip)
          have H' := Aside0.mk H
          clear H
          go_wp2
          repeat (go_quiet (fail); try go_wp2)
          go_meet
          case rel => exact ⟨_, (true), (by first | rfl | (simp; done) | (simp [*]; done)), H', ⟨by first | omega | exact Nat.le_refl _⟩, ⟨by (with_reducible repeat (first | refine blk_drewN ?_ _ | refine blk_drew ?_ | refine blk_alloc ?_ _)); exact BK182.out⟩, ⟨by (with_reducible repeat (first | refine blk_drewN ?_ _ | refine blk_drew ?_ | refine blk_alloc ?_ _)); exact BK188.out⟩, ⟨by repeat (first | (with_reducible first | exact HB.out | apply below_alloc | apply pw_below_drewN | apply below_drew1 | refine below_set ?_ GE182.out | refine below_set ?_ GE188.out) | exact HB.out)⟩⟩
      case rest =>
        clear HC8
        try clear c1
        try clear c2
        try clear p2
        try clear c3
        try clear c4
        try clear c5
        try clear c5b0
        try clear c5b1
        try clear c14
        try clear c21
        try clear c21b0
        try clear c21b1
        try clear c22
        try clear c22b0
        try clear c22b1
        try clear c23
        try clear c23b0
        try clear c23b1
        try clear c24
        try clear hcz11_0
        try clear hcz11_1
        try clear hcz11_2
        try clear hcz11_3
        try clear hcz11_4
        try clear hcz11_5
        try clear hcz15_0
        try clear hcz15_1
        try clear hcz15_2
        try clear hcz16_0
        try clear hcz16_1
        try clear hcz16_2
        try clear hcz16_3
        try clear hcz16_4
        try clear hcz16_5
        try clear hcz18_0
        try clear hcz18_1
        try clear hcz18_2
        try clear hcz18_3
        try clear hcz18_4
        try clear hcz18_5
        try clear hcz19_0
        try clear hcz19_1
        try clear hcz19_2
        try clear hcz25_0
        try clear hcz25_1
        try clear hcz25_2
        try clear hcz26_0
        try clear hcz26_1
        try clear hcz26_2
        try clear hcz26_3
        try clear hcz26_4
        try clear hcz26_5
        try clear hfz11_0
        try clear hfz11_1
        try clear hfz11_2
        try clear hfz11_3
        try clear hfz11_4
        try clear hfz11_5
        try clear hfz15_0
        try clear hfz15_1
        try clear hfz15_2
        try clear hfz16_0
        try clear hfz16_1
        try clear hfz16_2
        try clear hfz16_3
        try clear hfz16_4
        try clear hfz16_5
        try clear hfz18_0
        try clear hfz18_1
        try clear hfz18_2
        try clear hfz18_3
        try clear hfz18_4
        try clear hfz18_5
        try clear hfz19_0
        try clear hfz19_1
        try clear hfz19_2
        try clear hfz25_0
        try clear hfz25_1
        try clear hfz25_2
        try clear hfz26_0
        try clear hfz26_1
        try clear hfz26_2
        try clear hfz26_3
        try clear hfz26_4
        try clear hfz26_5
        obtain ⟨kq, x65_7, rfl, HA, HJ7, BK182, BK188, HB⟩ := hcut
        cases kq with
        | zero => exact absurd HA.out (by simp [quoinlaw09_SeekLine.j0])
        | succ kj7 =>
          have H := HA.out
          clear HA
          simp only [quoinlaw09_SeekLine.j0] at H
          by_cases c27 : x65_7 = true
          · subst c27
            have H1 : (some false) = some r := by rw [if_pos rfl] at H; exact H
            clear H
            have H := H1
            clear H1
            obtain rfl := Option.some.inj H
            go_wp2
            repeat (go_quiet (fail); try go_wp2)
            go_ret
            exact ⟨by first | rfl | (simp [errW_none, errW_some] <;> rfl) | (simp [*, errW_none, errW_some] <;> rfl), by repeat (first | (with_reducible first | exact HB.out | apply below_alloc | apply pw_below_drewN | apply below_drew1 | refine below_set ?_ GE182.out | refine below_set ?_ GE188.out) | exact HB.out)⟩
          · replace c27 := Bool.eq_false_iff.mpr c27
            subst c27
            have H1 : (if a0_3 = 116 then (quoinlaw09_SeekLine.j1 kj7 (wrap64 (t185 + 1)) 1 l0_0 a0_1 a0_2 a0_3 a0_4 a0_5 t184 t185 t186) else (if a0_3 = 84 then (quoinlaw09_SeekLine.j1 kj7 (wrap64 (t185 - 1)) (-1) l0_0 a0_1 a0_2 a0_3 a0_4 a0_5 t184 t185 t186) else (if a0_3 = 70 then (quoinlaw09_SeekLine.j1 kj7 t185 (-1) l0_0 a0_1 a0_2 a0_3 a0_4 a0_5 t184 t185 t186) else (quoinlaw09_SeekLine.j1 kj7 t185 1 l0_0 a0_1 a0_2 a0_3 a0_4 a0_5 t184 t185 t186)))) = some r := by rw [if_neg (show ¬ (false = true) by decide)] at H; exact H
            clear H
            have H := H1
            clear H1
            have HC28 := Aside0.mk H
            clear H
            have hnb29 := NB188_182.out
            have hnc29 := NB182_188.out
            have hcz30_0 : wc.cell? ⟨gb188, 0, none⟩ = some (.int .i64 t184) := (blk_cell BK188.out 0).trans rfl
            have hcz30_1 : wc.cell? ⟨gb188, 1, none⟩ = some (.int .i64 t185) := (blk_cell BK188.out 1).trans rfl
            have hcz30_2 : wc.cell? ⟨gb188, 2, none⟩ = some (.int .i64 t186) := (blk_cell BK188.out 2).trans rfl
            have hfz30_0 := blk_frozen BK188.out 0
            have hfz30_1 := blk_frozen BK188.out 1
            have hfz30_2 := blk_frozen BK188.out 2
            have hcz31_0 : wc.cell? ⟨gb182, 0, none⟩ = some (.slice A0_0 l0_0.length c0_0) := (blk_cell BK182.out 0).trans rfl
            have hcz31_1 : wc.cell? ⟨gb182, 1, none⟩ = some (.int .i64 a0_1) := (blk_cell BK182.out 1).trans rfl
            have hcz31_2 : wc.cell? ⟨gb182, 2, none⟩ = some (.int .i64 a0_2) := (blk_cell BK182.out 2).trans rfl
            have hcz31_3 : wc.cell? ⟨gb182, 3, none⟩ = some (.int .u8 a0_3) := (blk_cell BK182.out 3).trans rfl
            have hcz31_4 : wc.cell? ⟨gb182, 4, none⟩ = some (.int .u8 a0_4) := (blk_cell BK182.out 4).trans rfl
            have hcz31_5 : wc.cell? ⟨gb182, 5, none⟩ = some (.bool a0_5) := (blk_cell BK182.out 5).trans rfl
            have hfz31_0 := blk_frozen BK182.out 0
            have hfz31_1 := blk_frozen BK182.out 1
            have hfz31_2 := blk_frozen BK182.out 2
            have hfz31_3 := blk_frozen BK182.out 3
            have hfz31_4 := blk_frozen BK182.out 4
            have hfz31_5 := blk_frozen BK182.out 5
            go_upto_block 0 with (fail)
            repeat (go_quiet (fail); go_upto_block 0 with (fail))
            go_cut [9, 10] (fun v9 v10 wc => ∃ (kq : Nat) (x9_27 : Int) (x10_27 : Int), v9 = .int .i64 x9_27 ∧ v10 = .int .i64 x10_27 ∧ Aside0 (quoinlaw09_SeekLine.j1 kq x9_27 x10_27 l0_0 a0_1 a0_2 a0_3 a0_4 a0_5 t184 t185 t186 = some r) ∧ Aside0 (kq ≤ kj7) ∧ Aside0 (wc.heap[gb182]? = some (.cells #[(.slice A0_0 l0_0.length c0_0), .int .i64 a0_1, .int .i64 a0_2, .int .u8 a0_3, .int .u8 a0_4, .bool a0_5] 26 (0, 0))) ∧ Aside0 (wc.heap[gb188]? = some (.cells #[.int .i64 t184, .int .i64 t185, .int .i64 t186] 29 (0, 0))) ∧ Aside0 (Below w.heap.size w wc))
            case first =>
              have H := HC28.out
              clear HC28
              by_cases c32 : a0_3 = 116
              · rw [if_pos c32] at H
                have c32b0 : (a0_3 == 116) = true := beq_iff_eq.mpr c32
                have c32b1 : (a0_3 != 116) = false := bne_eq_false_iff_eq.mpr c32
                clear c32
                (first | rw [c32b0] | (simp only [i64_w, i32_w]; rw [c32b0]) | skip)
                have H' := Aside0.mk H
                clear H
                go_wp2
                repeat (go_quiet (fail); try go_wp2)
                go_meet
                case rel => exact ⟨_, (wrap64 (t185 + 1)), (1), (by first | rfl | (simp; done) | (simp [*]; done)), (by first | rfl | (simp; done) | (simp [*]; done)), H', ⟨by have := HJ7.out; first | omega | exact Nat.le_refl _⟩, ⟨by (with_reducible repeat (first | refine blk_drewN ?_ _ | refine blk_drew ?_ | refine blk_alloc ?_ _)); exact BK182.out⟩, ⟨by (with_reducible repeat (first | refine blk_drewN ?_ _ | refine blk_drew ?_ | refine blk_alloc ?_ _)); exact BK188.out⟩, ⟨by repeat (first | (with_reducible first | exact HB.out | apply below_alloc | apply pw_below_drewN | apply below_drew1 | refine below_set ?_ GE182.out | refine below_set ?_ GE188.out) | exact HB.out)⟩⟩
              · rw [if_neg c32] at H
                have c32b0 : (a0_3 == 116) = false := beq_eq_false_iff_ne.mpr c32
                have c32b1 : (a0_3 != 116) = true := bne_iff_ne.mpr c32
                (first | rw [c32b0] | (simp only [i64_w, i32_w]; rw [c32b0]) | skip)
                by_cases c33 : a0_3 = 84
                · rw [if_pos c33] at H
                  have c33b0 : (a0_3 == 84) = true := beq_iff_eq.mpr c33
                  have c33b1 : (a0_3 != 84) = false := bne_eq_false_iff_eq.mpr c33
                  clear c33
                  have H' := Aside0.mk H
                  clear H
                  go_wp2
                  repeat (go_quiet (fail); try go_wp2)
                  go_meet
                  case rel => exact ⟨_, (wrap64 (t185 - 1)), ((-1)), (by first | rfl | (simp; done) | (simp [*]; done)), (by first | rfl | (simp; done) | (simp [*]; done)), H', ⟨by have := HJ7.out; first | omega | exact Nat.le_refl _⟩, ⟨by (with_reducible repeat (first | refine blk_drewN ?_ _ | refine blk_drew ?_ | refine blk_alloc ?_ _)); exact BK182.out⟩, ⟨by (with_reducible repeat (first | refine blk_drewN ?_ _ | refine blk_drew ?_ | refine blk_alloc ?_ _)); exact BK188.out⟩, ⟨by repeat (first | (with_reducible first | exact HB.out | apply below_alloc | apply pw_below_drewN | apply below_drew1 | refine below_set ?_ GE182.out | refine below_set ?_ GE188.out) | exact HB.out)⟩⟩
                · rw [if_neg c33] at H
                  have c33b0 : (a0_3 == 84) = false := beq_eq_false_iff_ne.mpr c33
                  have c33b1 : (a0_3 != 84) = true := bne_iff_ne.mpr c33
                  by_cases c34 : a0_3 = 70
                  · rw [if_pos c34] at H
                    have c34b0 : (a0_3 == 70) = true := beq_iff_eq.mpr c34
                    have c34b1 : (a0_3 != 70) = false := bne_eq_false_iff_eq.mpr c34
                    clear c34
                    have H' := Aside0.mk H
                    clear H
                    go_wp2
                    repeat (go_quiet (fail); try go_wp2)
                    go_meet
                    case rel => exact ⟨_, (t185), ((-1)), (by first | rfl | (simp; done) | (simp [*]; done)), (by first | rfl | (simp; done) | (simp [*]; done)), H', ⟨by have := HJ7.out; first | omega | exact Nat.le_refl _⟩, ⟨by (with_reducible repeat (first | refine blk_drewN ?_ _ | refine blk_drew ?_ | refine blk_alloc ?_ _)); exact BK182.out⟩, ⟨by (with_reducible repeat (first | refine blk_drewN ?_ _ | refine blk_drew ?_ | refine blk_alloc ?_ _)); exact BK188.out⟩, ⟨by repeat (first | (with_reducible first | exact HB.out | apply below_alloc | apply pw_below_drewN | apply below_drew1 | refine below_set ?_ GE182.out | refine below_set ?_ GE188.out) | exact HB.out)⟩⟩
                  · rw [if_neg c34] at H
                    have c34b0 : (a0_3 == 70) = false := beq_eq_false_iff_ne.mpr c34
                    have c34b1 : (a0_3 != 70) = true := bne_iff_ne.mpr c34
                    have H' := Aside0.mk H
                    clear H
                    go_wp2
                    repeat (go_quiet (fail); try go_wp2)
                    go_meet
                    case rel => exact ⟨_, (t185), (1), (by first | rfl | (simp; done) | (simp [*]; done)), (by first | rfl | (simp; done) | (simp [*]; done)), H', ⟨by have := HJ7.out; first | omega | exact Nat.le_refl _⟩, ⟨by (with_reducible repeat (first | refine blk_drewN ?_ _ | refine blk_drew ?_ | refine blk_alloc ?_ _)); exact BK182.out⟩, ⟨by (with_reducible repeat (first | refine blk_drewN ?_ _ | refine blk_drew ?_ | refine blk_alloc ?_ _)); exact BK188.out⟩, ⟨by repeat (first | (with_reducible first | exact HB.out | apply below_alloc | apply pw_below_drewN | apply below_drew1 | refine below_set ?_ GE182.out | refine below_set ?_ GE188.out) | exact HB.out)⟩⟩
            case rest =>
              clear HC28
              try clear c1
              try clear c2
              try clear p2
              try clear c3
              try clear c4
              try clear c5
              try clear c5b0
              try clear c5b1
              try clear p6
              try clear c14
              try clear c21
              try clear c21b0
              try clear c21b1
              try clear c22
              try clear c22b0
              try clear c22b1
              try clear c23
              try clear c23b0
              try clear c23b1
              try clear c24
              try clear c27
              try clear c29
              try clear c32
              try clear c32b0
              try clear c32b1
              try clear c33
              try clear c33b0
              try clear c33b1
              try clear c34
              try clear c34b0
              try clear c34b1
              try clear hcz11_0
              try clear hcz11_1
              try clear hcz11_2
              try clear hcz11_3
              try clear hcz11_4
              try clear hcz11_5
              try clear hcz15_0
              try clear hcz15_1
              try clear hcz15_2
              try clear hcz16_0
              try clear hcz16_1
              try clear hcz16_2
              try clear hcz16_3
              try clear hcz16_4
              try clear hcz16_5
              try clear hcz18_0
              try clear hcz18_1
              try clear hcz18_2
              try clear hcz18_3
              try clear hcz18_4
              try clear hcz18_5
              try clear hcz19_0
              try clear hcz19_1
              try clear hcz19_2
              try clear hcz25_0
              try clear hcz25_1
              try clear hcz25_2
              try clear hcz26_0
              try clear hcz26_1
              try clear hcz26_2
              try clear hcz26_3
              try clear hcz26_4
              try clear hcz26_5
              try clear hcz30_0
              try clear hcz30_1
              try clear hcz30_2
              try clear hcz31_0
              try clear hcz31_1
              try clear hcz31_2
              try clear hcz31_3
              try clear hcz31_4
              try clear hcz31_5
              try clear hfz11_0
              try clear hfz11_1
              try clear hfz11_2
              try clear hfz11_3
              try clear hfz11_4
              try clear hfz11_5
              try clear hfz15_0
              try clear hfz15_1
              try clear hfz15_2
              try clear hfz16_0
              try clear hfz16_1
              try clear hfz16_2
              try clear hfz16_3
              try clear hfz16_4
              try clear hfz16_5
              try clear hfz18_0
              try clear hfz18_1
              try clear hfz18_2
              try clear hfz18_3
              try clear hfz18_4
              try clear hfz18_5
              try clear hfz19_0
              try clear hfz19_1
              try clear hfz19_2
              try clear hfz25_0
              try clear hfz25_1
              try clear hfz25_2
              try clear hfz26_0
              try clear hfz26_1
              try clear hfz26_2
              try clear hfz26_3
              try clear hfz26_4
              try clear hfz26_5
              try clear hfz30_0
              try clear hfz30_1
              try clear hfz30_2
              try clear hfz31_0
              try clear hfz31_1
              try clear hfz31_2
              try clear hfz31_3
              try clear hfz31_4
              try clear hfz31_5
              try clear p2
              obtain ⟨kq, x9_27, x10_27, rfl, rfl, HA, HJ27, BK182, BK188, HB⟩ := hcut
              cases kq with
              | zero => exact absurd HA.out (by simp [quoinlaw09_SeekLine.j1])
              | succ kj27 =>
                have H := HA.out
                clear HA
                simp only [quoinlaw09_SeekLine.j1] at H
                have H' := Aside0.mk H
                clear H
                have hnb35 := NB182_188.out
                have hnc35 := NB188_182.out
                have hcz36_0 : wc.cell? ⟨gb182, 0, none⟩ = some (.slice A0_0 l0_0.length c0_0) := (blk_cell BK182.out 0).trans rfl
                have hcz36_1 : wc.cell? ⟨gb182, 1, none⟩ = some (.int .i64 a0_1) := (blk_cell BK182.out 1).trans rfl
                have hcz36_2 : wc.cell? ⟨gb182, 2, none⟩ = some (.int .i64 a0_2) := (blk_cell BK182.out 2).trans rfl
                have hcz36_3 : wc.cell? ⟨gb182, 3, none⟩ = some (.int .u8 a0_3) := (blk_cell BK182.out 3).trans rfl
                have hcz36_4 : wc.cell? ⟨gb182, 4, none⟩ = some (.int .u8 a0_4) := (blk_cell BK182.out 4).trans rfl
                have hcz36_5 : wc.cell? ⟨gb182, 5, none⟩ = some (.bool a0_5) := (blk_cell BK182.out 5).trans rfl
                have hfz36_0 := blk_frozen BK182.out 0
                have hfz36_1 := blk_frozen BK182.out 1
                have hfz36_2 := blk_frozen BK182.out 2
                have hfz36_3 := blk_frozen BK182.out 3
                have hfz36_4 := blk_frozen BK182.out 4
                have hfz36_5 := blk_frozen BK182.out 5
                go_wp2
                repeat (go_quiet (fail); try go_wp2)
                go_loopg [11, 12] kj27 (fun kq v11 v12 w' => ∃ (x11_3 : Int) (x12_3 : Int), v11 = .int .i64 x11_3 ∧ v12 = .int .i64 x12_3 ∧ Aside0 (quoinlaw09_SeekLine.l0 kq x9_27 x10_27 x11_3 x12_3 l0_0 a0_1 a0_2 a0_3 a0_4 a0_5 t184 t185 t186 = some r) ∧ Aside0 (kq ≤ kj27) ∧ Aside0 (w'.heap[gb182]? = some (.cells #[(.slice A0_0 l0_0.length c0_0), .int .i64 a0_1, .int .i64 a0_2, .int .u8 a0_3, .int .u8 a0_4, .bool a0_5] 26 (0, 0))) ∧ Aside0 (w'.heap[gb188]? = some (.cells #[.int .i64 t184, .int .i64 t185, .int .i64 t186] 29 (0, 0))) ∧ Aside0 (Below w.heap.size w w'))
                case atStart => exact ⟨(0), (wrap64 (a0_1 + x10_27)), (by first | rfl | (simp; done) | (simp [*]; done)), (by first | rfl | (simp; done) | (simp [*]; done)), H', ⟨Nat.le_refl _⟩, ⟨by (with_reducible repeat (first | refine blk_drewN ?_ _ | refine blk_drew ?_ | refine blk_alloc ?_ _)); exact BK182.out⟩, ⟨by (with_reducible repeat (first | refine blk_drewN ?_ _ | refine blk_drew ?_ | refine blk_alloc ?_ _)); exact BK188.out⟩, ⟨by repeat (first | (with_reducible first | exact HB.out | apply below_alloc | apply pw_below_drewN | apply below_drew1 | refine below_set ?_ GE182.out | refine below_set ?_ GE188.out) | exact HB.out)⟩⟩
                case round =>
                  clear H'
                  try clear c1
                  try clear c2
                  try clear p2
                  try clear c3
                  try clear c4
                  try clear c5
                  try clear c5b0
                  try clear c5b1
                  try clear p6
                  try clear c14
                  try clear c21
                  try clear c21b0
                  try clear c21b1
                  try clear c22
                  try clear c22b0
                  try clear c22b1
                  try clear c23
                  try clear c23b0
                  try clear c23b1
                  try clear c24
                  try clear c27
                  try clear c29
                  try clear c32
                  try clear c32b0
                  try clear c32b1
                  try clear c33
                  try clear c33b0
                  try clear c33b1
                  try clear c34
                  try clear c34b0
                  try clear c34b1
                  try clear c35
                  try clear hcz11_0
                  try clear hcz11_1
                  try clear hcz11_2
                  try clear hcz11_3
                  try clear hcz11_4
                  try clear hcz11_5
                  try clear hcz15_0
                  try clear hcz15_1
                  try clear hcz15_2
                  try clear hcz16_0
                  try clear hcz16_1
                  try clear hcz16_2
                  try clear hcz16_3
                  try clear hcz16_4
                  try clear hcz16_5
                  try clear hcz18_0
                  try clear hcz18_1
                  try clear hcz18_2
                  try clear hcz18_3
                  try clear hcz18_4
                  try clear hcz18_5
                  try clear hcz19_0
                  try clear hcz19_1
                  try clear hcz19_2
                  try clear hcz25_0
                  try clear hcz25_1
                  try clear hcz25_2
                  try clear hcz26_0
                  try clear hcz26_1
                  try clear hcz26_2
                  try clear hcz26_3
                  try clear hcz26_4
                  try clear hcz26_5
                  try clear hcz30_0
                  try clear hcz30_1
                  try clear hcz30_2
                  try clear hcz31_0
                  try clear hcz31_1
                  try clear hcz31_2
                  try clear hcz31_3
                  try clear hcz31_4
                  try clear hcz31_5
                  try clear hcz36_0
                  try clear hcz36_1
                  try clear hcz36_2
                  try clear hcz36_3
                  try clear hcz36_4
                  try clear hcz36_5
                  try clear hfz11_0
                  try clear hfz11_1
                  try clear hfz11_2
                  try clear hfz11_3
                  try clear hfz11_4
                  try clear hfz11_5
                  try clear hfz15_0
                  try clear hfz15_1
                  try clear hfz15_2
                  try clear hfz16_0
                  try clear hfz16_1
                  try clear hfz16_2
                  try clear hfz16_3
                  try clear hfz16_4
                  try clear hfz16_5
                  try clear hfz18_0
                  try clear hfz18_1
                  try clear hfz18_2
                  try clear hfz18_3
                  try clear hfz18_4
                  try clear hfz18_5
                  try clear hfz19_0
                  try clear hfz19_1
                  try clear hfz19_2
                  try clear hfz25_0
                  try clear hfz25_1
                  try clear hfz25_2
                  try clear hfz26_0
                  try clear hfz26_1
                  try clear hfz26_2
                  try clear hfz26_3
                  try clear hfz26_4
                  try clear hfz26_5
                  try clear hfz30_0
                  try clear hfz30_1
                  try clear hfz30_2
                  try clear hfz31_0
                  try clear hfz31_1
                  try clear hfz31_2
                  try clear hfz31_3
                  try clear hfz31_4
                  try clear hfz31_5
                  try clear hfz36_0
                  try clear hfz36_1
                  try clear hfz36_2
                  try clear hfz36_3
                  try clear hfz36_4
                  try clear hfz36_5
                  try clear p2
                  try clear p6
                  obtain ⟨x11_3, x12_3, rfl, rfl, HA, HK3, BK182, BK188, HB⟩ := hrel
                  cases gk with
                  | zero => exact absurd HA.out (by simp [quoinlaw09_SeekLine.l0])
                  | succ k3 =>
                    have H := HA.out
                    clear HA
                    simp only [quoinlaw09_SeekLine.l0] at H
                    have HC37 := Aside0.mk H
                    clear H
                    go_upto_region 21 with (fail)
                    repeat (go_quiet (fail); go_upto_region 21 with (fail))
                    go_cut [93] (fun v93 wc => ∃ (kq : Nat) (x93_36 : Bool), v93 = .bool x93_36 ∧ Aside0 (quoinlaw09_SeekLine.j3 kq x9_27 x10_27 x11_3 x12_3 x93_36 l0_0 a0_1 a0_2 a0_3 a0_4 a0_5 t184 t185 t186 = some r) ∧ Aside0 (kq ≤ k3) ∧ Aside0 (wc.heap[gb182]? = some (.cells #[(.slice A0_0 l0_0.length c0_0), .int .i64 a0_1, .int .i64 a0_2, .int .u8 a0_3, .int .u8 a0_4, .bool a0_5] 26 (0, 0))) ∧ Aside0 (wc.heap[gb188]? = some (.cells #[.int .i64 t184, .int .i64 t185, .int .i64 t186] 29 (0, 0))) ∧ Aside0 (Below w.heap.size w wc))
                    case first =>
                      have H := HC37.out
                      clear HC37
                      by_cases c38 : x12_3 ≥ 0
                      · rw [if_pos c38] at H
                        have c38b0 : decide (0 ≤ x12_3) = true := decide_eq_true c38
                        clear c38
                        (first | rw [c38b0] | (simp only [i64_w, i32_w]; rw [c38b0]) | skip)
                        have H' := Aside0.mk H
                        clear H
                        have hnb39 := NB182_188.out
                        have hnc39 := NB188_182.out
                        have hcz40_0 : wr.cell? ⟨gb182, 0, none⟩ = some (.slice A0_0 l0_0.length c0_0) := (blk_cell BK182.out 0).trans rfl
                        have hcz40_1 : wr.cell? ⟨gb182, 1, none⟩ = some (.int .i64 a0_1) := (blk_cell BK182.out 1).trans rfl
                        have hcz40_2 : wr.cell? ⟨gb182, 2, none⟩ = some (.int .i64 a0_2) := (blk_cell BK182.out 2).trans rfl
                        have hcz40_3 : wr.cell? ⟨gb182, 3, none⟩ = some (.int .u8 a0_3) := (blk_cell BK182.out 3).trans rfl
                        have hcz40_4 : wr.cell? ⟨gb182, 4, none⟩ = some (.int .u8 a0_4) := (blk_cell BK182.out 4).trans rfl
                        have hcz40_5 : wr.cell? ⟨gb182, 5, none⟩ = some (.bool a0_5) := (blk_cell BK182.out 5).trans rfl
                        have hfz40_0 := blk_frozen BK182.out 0
                        have hfz40_1 := blk_frozen BK182.out 1
                        have hfz40_2 := blk_frozen BK182.out 2
                        have hfz40_3 := blk_frozen BK182.out 3
                        have hfz40_4 := blk_frozen BK182.out 4
                        have hfz40_5 := blk_frozen BK182.out 5
                        go_wp2
                        repeat (go_quiet (fail); try go_wp2)
                        go_meet
                        case rel => exact ⟨_, (decide (x12_3 < (l0_0.length : Int))), (by first | rfl | (simp; done) | (simp [*]; done)), H', ⟨by have := HJ7.out; have := HJ27.out; have := HK3.out; first | omega | exact Nat.le_refl _⟩, ⟨by (with_reducible repeat (first | refine blk_drewN ?_ _ | refine blk_drew ?_ | refine blk_alloc ?_ _)); exact BK182.out⟩, ⟨by (with_reducible repeat (first | refine blk_drewN ?_ _ | refine blk_drew ?_ | refine blk_alloc ?_ _)); exact BK188.out⟩, ⟨by repeat (first | (with_reducible first | exact HB.out | apply below_alloc | apply pw_below_drewN | apply below_drew1 | refine below_set ?_ GE182.out | refine below_set ?_ GE188.out) | exact HB.out)⟩⟩
                      · rw [if_neg c38] at H
                        have c38b0 : decide (0 ≤ x12_3) = false := decide_eq_false c38
                        clear c38
                        (first | rw [c38b0] | (simp only [i64_w, i32_w]; rw [c38b0]) | skip)
                        have H' := Aside0.mk H
                        clear H
                        go_wp2
                        repeat (go_quiet (fail); try go_wp2)
                        go_meet
                        case rel => exact ⟨_, (false), (by first | rfl | (simp; done) | (simp [*]; done)), H', ⟨by have := HJ7.out; have := HJ27.out; have := HK3.out; first | omega | exact Nat.le_refl _⟩, ⟨by (with_reducible repeat (first | refine blk_drewN ?_ _ | refine blk_drew ?_ | refine blk_alloc ?_ _)); exact BK182.out⟩, ⟨by (with_reducible repeat (first | refine blk_drewN ?_ _ | refine blk_drew ?_ | refine blk_alloc ?_ _)); exact BK188.out⟩, ⟨by repeat (first | (with_reducible first | exact HB.out | apply below_alloc | apply pw_below_drewN | apply below_drew1 | refine below_set ?_ GE182.out | refine below_set ?_ GE188.out) | exact HB.out)⟩⟩
                    case rest =>
                      clear HC37
                      try clear c1
                      try clear c2
                      try clear p2
                      try clear c3
                      try clear c4
                      try clear c5
                      try clear c5b0
                      try clear c5b1
                      try clear p6
                      try clear c14
                      try clear c21
                      try clear c21b0
                      try clear c21b1
                      try clear c22
                      try clear c22b0
                      try clear c22b1
                      try clear c23
                      try clear c23b0
                      try clear c23b1
                      try clear c24
                      try clear c27
                      try clear c29
                      try clear c32
                      try clear c32b0
                      try clear c32b1
                      try clear c33
                      try clear c33b0
                      try clear c33b1
                      try clear c34
                      try clear c34b0
                      try clear c34b1
                      try clear c35
                      try clear c38
                      try clear c38b0
                      try clear c39
                      try clear hcz11_0
                      try clear hcz11_1
                      try clear hcz11_2
                      try clear hcz11_3
                      try clear hcz11_4
                      try clear hcz11_5
                      try clear hcz15_0
                      try clear hcz15_1
                      try clear hcz15_2
                      try clear hcz16_0
                      try clear hcz16_1
                      try clear hcz16_2
                      try clear hcz16_3
                      try clear hcz16_4
                      try clear hcz16_5
                      try clear hcz18_0
                      try clear hcz18_1
                      try clear hcz18_2
                      try clear hcz18_3
                      try clear hcz18_4
                      try clear hcz18_5
                      try clear hcz19_0
                      try clear hcz19_1
                      try clear hcz19_2
                      try clear hcz25_0
                      try clear hcz25_1
                      try clear hcz25_2
                      try clear hcz26_0
                      try clear hcz26_1
                      try clear hcz26_2
                      try clear hcz26_3
                      try clear hcz26_4
                      try clear hcz26_5
                      try clear hcz30_0
                      try clear hcz30_1
                      try clear hcz30_2
                      try clear hcz31_0
                      try clear hcz31_1
                      try clear hcz31_2
                      try clear hcz31_3
                      try clear hcz31_4
                      try clear hcz31_5
                      try clear hcz36_0
                      try clear hcz36_1
                      try clear hcz36_2
                      try clear hcz36_3
                      try clear hcz36_4
                      try clear hcz36_5
                      try clear hcz40_0
                      try clear hcz40_1
                      try clear hcz40_2
                      try clear hcz40_3
                      try clear hcz40_4
                      try clear hcz40_5
                      try clear hfz11_0
                      try clear hfz11_1
                      try clear hfz11_2
                      try clear hfz11_3
                      try clear hfz11_4
                      try clear hfz11_5
                      try clear hfz15_0
                      try clear hfz15_1
                      try clear hfz15_2
                      try clear hfz16_0
                      try clear hfz16_1
                      try clear hfz16_2
                      try clear hfz16_3
                      try clear hfz16_4
                      try clear hfz16_5
                      try clear hfz18_0
                      try clear hfz18_1
                      try clear hfz18_2
                      try clear hfz18_3
                      try clear hfz18_4
                      try clear hfz18_5
                      try clear hfz19_0
                      try clear hfz19_1
                      try clear hfz19_2
                      try clear hfz25_0
                      try clear hfz25_1
                      try clear hfz25_2
                      try clear hfz26_0
                      try clear hfz26_1
                      try clear hfz26_2
                      try clear hfz26_3
                      try clear hfz26_4
                      try clear hfz26_5
                      try clear hfz30_0
                      try clear hfz30_1
                      try clear hfz30_2
                      try clear hfz31_0
                      try clear hfz31_1
                      try clear hfz31_2
                      try clear hfz31_3
                      try clear hfz31_4
                      try clear hfz31_5
                      try clear hfz36_0
                      try clear hfz36_1
                      try clear hfz36_2
                      try clear hfz36_3
                      try clear hfz36_4
                      try clear hfz36_5
                      try clear hfz40_0
                      try clear hfz40_1
                      try clear hfz40_2
                      try clear hfz40_3
                      try clear hfz40_4
                      try clear hfz40_5
                      try clear p2
                      try clear p6
                      obtain ⟨kq, x93_36, rfl, HA, HJ36, BK182, BK188, HB⟩ := hcut
                      cases kq with
                      | zero => exact absurd HA.out (by simp [quoinlaw09_SeekLine.j3])
                      | succ kj36 =>
                        have H := HA.out
                        clear HA
                        simp only [quoinlaw09_SeekLine.j3] at H
                        by_cases c41 : x93_36 = true
                        · subst c41
                          have H1 : (if 0 ≤ x12_3 then (if x12_3 < (l0_0.length : Int) then (if (rd l0_0 x12_3) = a0_4 then (if x12_3 = x9_27 then (if 0 ≤ x9_27 then (if x9_27 < (l0_0.length : Int) then (if (rd l0_0 x9_27) = a0_4 then (if (wrap64 (x11_3 + 1)) = (mx a0_2 1) then (some ((t186 == 2) == (x10_27 == 1))) else (some false)) else (some false)) else (none)) else (none)) else (quoinlaw09_SeekLine.l0 kj36 x9_27 x10_27 (wrap64 (x11_3 + 1)) (wrap64 (x12_3 + x10_27)) l0_0 a0_1 a0_2 a0_3 a0_4 a0_5 t184 t185 t186)) else (if x12_3 = x9_27 then (if 0 ≤ x9_27 then (if x9_27 < (l0_0.length : Int) then (if (rd l0_0 x9_27) = a0_4 then (if x11_3 = (mx a0_2 1) then (some ((t186 == 2) == (x10_27 == 1))) else (some false)) else (some false)) else (none)) else (none)) else (quoinlaw09_SeekLine.l0 kj36 x9_27 x10_27 x11_3 (wrap64 (x12_3 + x10_27)) l0_0 a0_1 a0_2 a0_3 a0_4 a0_5 t184 t185 t186))) else (none)) else (none)) = some r := by rw [if_pos rfl] at H; exact H
                          clear H
                          have H := H1
                          clear H1
                          by_cases c42 : 0 ≤ x12_3
                          · rw [if_pos c42] at H
                            have c42b0 : decide (0 ≤ x12_3) = true := decide_eq_true c42
                            clear c42
                            by_cases c43 : x12_3 < (l0_0.length : Int)
                            · rw [if_pos c43] at H
                              have c43b0 : decide (x12_3 < (l0_0.length : Int)) = true := decide_eq_true c43
                              clear c43
                              by_cases c44 : (rd l0_0 x12_3) = a0_4
                              · rw [if_pos c44] at H
                                have c44b0 : ((rd l0_0 x12_3) == a0_4) = true := beq_iff_eq.mpr c44
                                have c44b1 : ((rd l0_0 x12_3) != a0_4) = false := bne_eq_false_iff_eq.mpr c44
                                clear c44
                                by_cases c45 : x12_3 = x9_27
                                · rw [if_pos c45] at H
                                  have c45b0 : (x12_3 == x9_27) = true := beq_iff_eq.mpr c45
                                  have c45b1 : (x12_3 != x9_27) = false := bne_eq_false_iff_eq.mpr c45
                                  clear c45
                                  by_cases c46 : 0 ≤ x9_27
                                  · rw [if_pos c46] at H
                                    have c46b0 : decide (0 ≤ x9_27) = true := decide_eq_true c46
                                    clear c46
                                    by_cases c47 : x9_27 < (l0_0.length : Int)
                                    · rw [if_pos c47] at H
                                      have c47b0 : decide (x9_27 < (l0_0.length : Int)) = true := decide_eq_true c47
                                      clear c47
                                      by_cases c48 : (rd l0_0 x9_27) = a0_4
                                      · rw [if_pos c48] at H
                                        have c48b0 : ((rd l0_0 x9_27) == a0_4) = true := beq_iff_eq.mpr c48
                                        have c48b1 : ((rd l0_0 x9_27) != a0_4) = false := bne_eq_false_iff_eq.mpr c48
                                        clear c48
                                        obtain ⟨ji49, hji49⟩ : ∃ j_ : Int, (mx a0_2 1) = j_ := ⟨_, rfl⟩
                                        replace H : (if (wrap64 (x11_3 + 1)) = (ji49) then (some ((t186 == 2) == (x10_27 == 1))) else (some false)) = some r := by first | (rw [hji49] at H; exact H) | (simp only [hji49] at H ⊢; exact H)
                                        have hji49_ : (if a0_2 < 1 then 1 else a0_2) = ji49 := hji49
                                        by_cases c50 : (wrap64 (x11_3 + 1)) = (ji49)
                                        · rw [if_pos c50] at H
                                          have c50b0 : ((wrap64 (x11_3 + 1)) == (ji49)) = true := beq_iff_eq.mpr c50
                                          have c50b1 : ((wrap64 (x11_3 + 1)) != (ji49)) = false := bne_eq_false_iff_eq.mpr c50
                                          clear c50
                                          obtain rfl := Option.some.inj H
                                          have hnb51 := NB182_188.out
                                          have hnc51 := NB188_182.out
                                          have hcz52_0 : wc.cell? ⟨gb182, 0, none⟩ = some (.slice A0_0 l0_0.length c0_0) := (blk_cell BK182.out 0).trans rfl
                                          have hcz52_1 : wc.cell? ⟨gb182, 1, none⟩ = some (.int .i64 a0_1) := (blk_cell BK182.out 1).trans rfl
                                          have hcz52_2 : wc.cell? ⟨gb182, 2, none⟩ = some (.int .i64 a0_2) := (blk_cell BK182.out 2).trans rfl
                                          have hcz52_3 : wc.cell? ⟨gb182, 3, none⟩ = some (.int .u8 a0_3) := (blk_cell BK182.out 3).trans rfl
                                          have hcz52_4 : wc.cell? ⟨gb182, 4, none⟩ = some (.int .u8 a0_4) := (blk_cell BK182.out 4).trans rfl
                                          have hcz52_5 : wc.cell? ⟨gb182, 5, none⟩ = some (.bool a0_5) := (blk_cell BK182.out 5).trans rfl
                                          have hfz52_0 := blk_frozen BK182.out 0
                                          have hfz52_1 := blk_frozen BK182.out 1
                                          have hfz52_2 := blk_frozen BK182.out 2
                                          have hfz52_3 := blk_frozen BK182.out 3
                                          have hfz52_4 := blk_frozen BK182.out 4
                                          have hfz52_5 := blk_frozen BK182.out 5
                                          have p193 : 0 ≤ (x12_3 : Int) := of_decide_eq_true (by first | (with_reducible assumption) | assumption)
                                          have q193 : x12_3 < (l0_0.length : Int) := of_decide_eq_true (by first | (with_reducible assumption) | assumption)
                                          obtain ⟨ad193, e193, hx193_0⟩ := Kd.at_int HR0_0.out x12_3 p193 q193
                                          cases e193
                                          replace hx193_0 := (HB.out.cell (World.block_lt_of_cell? w _ hx193_0)).trans hx193_0
                                          replace p193 := eq_true p193
                                          replace q193 := eq_true q193
                                          have p194 : 0 ≤ (x9_27 : Int) := of_decide_eq_true (by first | (with_reducible assumption) | assumption)
                                          have q194 : x9_27 < (l0_0.length : Int) := of_decide_eq_true (by first | (with_reducible assumption) | assumption)
                                          obtain ⟨ad194, e194, hx194_0⟩ := Kd.at_int HR0_0.out x9_27 p194 q194
                                          obtain rfl : ad193 = ad194 := (by injection e194)
                                          replace hx194_0 := (HB.out.cell (World.block_lt_of_cell? w _ hx194_0)).trans hx194_0
                                          replace p194 := eq_true p194
                                          replace q194 := eq_true q194
                                          have hcz53_0 : wc.cell? ⟨gb188, 0, none⟩ = some (.int .i64 t184) := (blk_cell BK188.out 0).trans rfl
                                          have hcz53_1 : wc.cell? ⟨gb188, 1, none⟩ = some (.int .i64 t185) := (blk_cell BK188.out 1).trans rfl
                                          have hcz53_2 : wc.cell? ⟨gb188, 2, none⟩ = some (.int .i64 t186) := (blk_cell BK188.out 2).trans rfl
                                          have hfz53_0 := blk_frozen BK188.out 0
                                          have hfz53_1 := blk_frozen BK188.out 1
                                          have hfz53_2 := blk_frozen BK188.out 2
                                          go_wp2
                                          repeat (go_quiet (fail); try go_wp2)
                                          go_ret
                                          exact ⟨by first | rfl | (simp [errW_none, errW_some] <;> rfl) | (simp only [← hji49]; first | rfl | (simp [errW_none, errW_some] <;> rfl)) | (simp [*, errW_none, errW_some] <;> rfl), by repeat (first | (with_reducible first | exact HB.out | apply below_alloc | apply pw_below_drewN | apply below_drew1 | refine below_set ?_ GE182.out | refine below_set ?_ GE188.out) | exact HB.out)⟩
                                        · rw [if_neg c50] at H
                                          have c50b0 : ((wrap64 (x11_3 + 1)) == (ji49)) = false := beq_eq_false_iff_ne.mpr c50
                                          have c50b1 : ((wrap64 (x11_3 + 1)) != (ji49)) = true := bne_iff_ne.mpr c50
                                          obtain rfl := Option.some.inj H
                                          have hnb54 := NB182_188.out
                                          have hnc54 := NB188_182.out
                                          have hcz55_0 : wc.cell? ⟨gb182, 0, none⟩ = some (.slice A0_0 l0_0.length c0_0) := (blk_cell BK182.out 0).trans rfl
                                          have hcz55_1 : wc.cell? ⟨gb182, 1, none⟩ = some (.int .i64 a0_1) := (blk_cell BK182.out 1).trans rfl
                                          have hcz55_2 : wc.cell? ⟨gb182, 2, none⟩ = some (.int .i64 a0_2) := (blk_cell BK182.out 2).trans rfl
                                          have hcz55_3 : wc.cell? ⟨gb182, 3, none⟩ = some (.int .u8 a0_3) := (blk_cell BK182.out 3).trans rfl
                                          have hcz55_4 : wc.cell? ⟨gb182, 4, none⟩ = some (.int .u8 a0_4) := (blk_cell BK182.out 4).trans rfl
                                          have hcz55_5 : wc.cell? ⟨gb182, 5, none⟩ = some (.bool a0_5) := (blk_cell BK182.out 5).trans rfl
                                          have hfz55_0 := blk_frozen BK182.out 0
                                          have hfz55_1 := blk_frozen BK182.out 1
                                          have hfz55_2 := blk_frozen BK182.out 2
                                          have hfz55_3 := blk_frozen BK182.out 3
                                          have hfz55_4 := blk_frozen BK182.out 4
                                          have hfz55_5 := blk_frozen BK182.out 5
                                          have p193 : 0 ≤ (x12_3 : Int) := of_decide_eq_true (by first | (with_reducible assumption) | assumption)
                                          have q193 : x12_3 < (l0_0.length : Int) := of_decide_eq_true (by first | (with_reducible assumption) | assumption)
                                          obtain ⟨ad193, e193, hx193_0⟩ := Kd.at_int HR0_0.out x12_3 p193 q193
                                          cases e193
                                          replace hx193_0 := (HB.out.cell (World.block_lt_of_cell? w _ hx193_0)).trans hx193_0
                                          replace p193 := eq_true p193
                                          replace q193 := eq_true q193
                                          have p194 : 0 ≤ (x9_27 : Int) := of_decide_eq_true (by first | (with_reducible assumption) | assumption)
                                          have q194 : x9_27 < (l0_0.length : Int) := of_decide_eq_true (by first | (with_reducible assumption) | assumption)
                                          obtain ⟨ad194, e194, hx194_0⟩ := Kd.at_int HR0_0.out x9_27 p194 q194
                                          obtain rfl : ad193 = ad194 := (by injection e194)
                                          replace hx194_0 := (HB.out.cell (World.block_lt_of_cell? w _ hx194_0)).trans hx194_0
                                          replace p194 := eq_true p194
                                          replace q194 := eq_true q194
                                          go_wp2
                                          repeat (go_quiet (fail); try go_wp2)
                                          go_ret
                                          exact ⟨by first | rfl | (simp [errW_none, errW_some] <;> rfl) | (simp only [← hji49]; first | rfl | (simp [errW_none, errW_some] <;> rfl)) | (simp [*, errW_none, errW_some] <;> rfl), by repeat (first | (with_reducible first | exact HB.out | apply below_alloc | apply pw_below_drewN | apply below_drew1 | refine below_set ?_ GE182.out | refine below_set ?_ GE188.out) | exact HB.out)⟩
                                      · rw [if_neg c48] at H
                                        have c48b0 : ((rd l0_0 x9_27) == a0_4) = false := beq_eq_false_iff_ne.mpr c48
                                        have c48b1 : ((rd l0_0 x9_27) != a0_4) = true := bne_iff_ne.mpr c48
                                        obtain rfl := Option.some.inj H
                                        have hnb56 := NB182_188.out
                                        have hnc56 := NB188_182.out
                                        have hcz57_0 : wc.cell? ⟨gb182, 0, none⟩ = some (.slice A0_0 l0_0.length c0_0) := (blk_cell BK182.out 0).trans rfl
                                        have hcz57_1 : wc.cell? ⟨gb182, 1, none⟩ = some (.int .i64 a0_1) := (blk_cell BK182.out 1).trans rfl
                                        have hcz57_2 : wc.cell? ⟨gb182, 2, none⟩ = some (.int .i64 a0_2) := (blk_cell BK182.out 2).trans rfl
                                        have hcz57_3 : wc.cell? ⟨gb182, 3, none⟩ = some (.int .u8 a0_3) := (blk_cell BK182.out 3).trans rfl
                                        have hcz57_4 : wc.cell? ⟨gb182, 4, none⟩ = some (.int .u8 a0_4) := (blk_cell BK182.out 4).trans rfl
                                        have hcz57_5 : wc.cell? ⟨gb182, 5, none⟩ = some (.bool a0_5) := (blk_cell BK182.out 5).trans rfl
                                        have hfz57_0 := blk_frozen BK182.out 0
                                        have hfz57_1 := blk_frozen BK182.out 1
                                        have hfz57_2 := blk_frozen BK182.out 2
                                        have hfz57_3 := blk_frozen BK182.out 3
                                        have hfz57_4 := blk_frozen BK182.out 4
                                        have hfz57_5 := blk_frozen BK182.out 5
                                        have p193 : 0 ≤ (x12_3 : Int) := of_decide_eq_true (by first | (with_reducible assumption) | assumption)
                                        have q193 : x12_3 < (l0_0.length : Int) := of_decide_eq_true (by first | (with_reducible assumption) | assumption)
                                        obtain ⟨ad193, e193, hx193_0⟩ := Kd.at_int HR0_0.out x12_3 p193 q193
                                        cases e193
                                        replace hx193_0 := (HB.out.cell (World.block_lt_of_cell? w _ hx193_0)).trans hx193_0
                                        replace p193 := eq_true p193
                                        replace q193 := eq_true q193
                                        have p194 : 0 ≤ (x9_27 : Int) := of_decide_eq_true (by first | (with_reducible assumption) | assumption)
                                        have q194 : x9_27 < (l0_0.length : Int) := of_decide_eq_true (by first | (with_reducible assumption) | assumption)
                                        obtain ⟨ad194, e194, hx194_0⟩ := Kd.at_int HR0_0.out x9_27 p194 q194
                                        obtain rfl : ad193 = ad194 := (by injection e194)
                                        replace hx194_0 := (HB.out.cell (World.block_lt_of_cell? w _ hx194_0)).trans hx194_0
                                        replace p194 := eq_true p194
                                        replace q194 := eq_true q194
                                        go_wp2
                                        repeat (go_quiet (fail); try go_wp2)
                                        go_ret
                                        exact ⟨by first | rfl | (simp [errW_none, errW_some] <;> rfl) | (simp [*, errW_none, errW_some] <;> rfl), by repeat (first | (with_reducible first | exact HB.out | apply below_alloc | apply pw_below_drewN | apply below_drew1 | refine below_set ?_ GE182.out | refine below_set ?_ GE188.out) | exact HB.out)⟩
                                    · rw [if_neg c47] at H
                                      exact absurd H (by simp)
                                  · rw [if_neg c46] at H
                                    exact absurd H (by simp)
                                · rw [if_neg c45] at H
                                  have c45b0 : (x12_3 == x9_27) = false := beq_eq_false_iff_ne.mpr c45
                                  have c45b1 : (x12_3 != x9_27) = true := bne_iff_ne.mpr c45
                                  have H' := Aside0.mk H
                                  clear H
                                  have hnb58 := NB182_188.out
                                  have hnc58 := NB188_182.out
                                  have hcz59_0 : wc.cell? ⟨gb182, 0, none⟩ = some (.slice A0_0 l0_0.length c0_0) := (blk_cell BK182.out 0).trans rfl
                                  have hcz59_1 : wc.cell? ⟨gb182, 1, none⟩ = some (.int .i64 a0_1) := (blk_cell BK182.out 1).trans rfl
                                  have hcz59_2 : wc.cell? ⟨gb182, 2, none⟩ = some (.int .i64 a0_2) := (blk_cell BK182.out 2).trans rfl
                                  have hcz59_3 : wc.cell? ⟨gb182, 3, none⟩ = some (.int .u8 a0_3) := (blk_cell BK182.out 3).trans rfl
                                  have hcz59_4 : wc.cell? ⟨gb182, 4, none⟩ = some (.int .u8 a0_4) := (blk_cell BK182.out 4).trans rfl
                                  have hcz59_5 : wc.cell? ⟨gb182, 5, none⟩ = some (.bool a0_5) := (blk_cell BK182.out 5).trans rfl
                                  have hfz59_0 := blk_frozen BK182.out 0
                                  have hfz59_1 := blk_frozen BK182.out 1
                                  have hfz59_2 := blk_frozen BK182.out 2
                                  have hfz59_3 := blk_frozen BK182.out 3
                                  have hfz59_4 := blk_frozen BK182.out 4
                                  have hfz59_5 := blk_frozen BK182.out 5
                                  have p193 : 0 ≤ (x12_3 : Int) := of_decide_eq_true (by first | (with_reducible assumption) | assumption)
                                  have q193 : x12_3 < (l0_0.length : Int) := of_decide_eq_true (by first | (with_reducible assumption) | assumption)
                                  obtain ⟨ad193, e193, hx193_0⟩ := Kd.at_int HR0_0.out x12_3 p193 q193
                                  cases e193
                                  replace hx193_0 := (HB.out.cell (World.block_lt_of_cell? w _ hx193_0)).trans hx193_0
                                  replace p193 := eq_true p193
                                  replace q193 := eq_true q193
                                  go_wp2
                                  repeat (go_quiet (fail); try go_wp2)
                                  go_roundg kj36
                                  case measure => have := HJ7.out; have := HJ27.out; have := HK3.out; have := HJ36.out; omega
                                  case rel => exact ⟨(wrap64 (x11_3 + 1)), (wrap64 (x12_3 + x10_27)), (by first | rfl | (simp; done) | (simp [*]; done)), (by first | rfl | (simp; done) | (simp [*]; done)), H', ⟨by have := HJ7.out; have := HJ27.out; have := HK3.out; have := HJ36.out; omega⟩, ⟨by (with_reducible repeat (first | refine blk_drewN ?_ _ | refine blk_drew ?_ | refine blk_alloc ?_ _)); exact BK182.out⟩, ⟨by (with_reducible repeat (first | refine blk_drewN ?_ _ | refine blk_drew ?_ | refine blk_alloc ?_ _)); exact BK188.out⟩, ⟨by repeat (first | (with_reducible first | exact HB.out | apply below_alloc | apply pw_below_drewN | apply below_drew1 | refine below_set ?_ GE182.out | refine below_set ?_ GE188.out) | exact HB.out)⟩⟩
                              · rw [if_neg c44] at H
                                have c44b0 : ((rd l0_0 x12_3) == a0_4) = false := beq_eq_false_iff_ne.mpr c44
                                have c44b1 : ((rd l0_0 x12_3) != a0_4) = true := bne_iff_ne.mpr c44
                                by_cases c60 : x12_3 = x9_27
                                · rw [if_pos c60] at H
                                  have c60b0 : (x12_3 == x9_27) = true := beq_iff_eq.mpr c60
                                  have c60b1 : (x12_3 != x9_27) = false := bne_eq_false_iff_eq.mpr c60
                                  clear c60
                                  by_cases c61 : 0 ≤ x9_27
                                  · rw [if_pos c61] at H
                                    have c61b0 : decide (0 ≤ x9_27) = true := decide_eq_true c61
                                    clear c61
                                    by_cases c62 : x9_27 < (l0_0.length : Int)
                                    · rw [if_pos c62] at H
                                      have c62b0 : decide (x9_27 < (l0_0.length : Int)) = true := decide_eq_true c62
                                      clear c62
                                      by_cases c63 : (rd l0_0 x9_27) = a0_4
                                      · rw [if_pos c63] at H
                                        have c63b0 : ((rd l0_0 x9_27) == a0_4) = true := beq_iff_eq.mpr c63
                                        have c63b1 : ((rd l0_0 x9_27) != a0_4) = false := bne_eq_false_iff_eq.mpr c63
                                        clear c63
                                        obtain ⟨ji64, hji64⟩ : ∃ j_ : Int, (mx a0_2 1) = j_ := ⟨_, rfl⟩
                                        replace H : (if x11_3 = (ji64) then (some ((t186 == 2) == (x10_27 == 1))) else (some false)) = some r := by first | (rw [hji64] at H; exact H) | (simp only [hji64] at H ⊢; exact H)
                                        have hji64_ : (if a0_2 < 1 then 1 else a0_2) = ji64 := hji64
                                        by_cases c65 : x11_3 = (ji64)
                                        · rw [if_pos c65] at H
                                          have c65b0 : (x11_3 == (ji64)) = true := beq_iff_eq.mpr c65
                                          have c65b1 : (x11_3 != (ji64)) = false := bne_eq_false_iff_eq.mpr c65
                                          clear c65
                                          obtain rfl := Option.some.inj H
                                          have hnb66 := NB182_188.out
                                          have hnc66 := NB188_182.out
                                          have hcz67_0 : wc.cell? ⟨gb182, 0, none⟩ = some (.slice A0_0 l0_0.length c0_0) := (blk_cell BK182.out 0).trans rfl
                                          have hcz67_1 : wc.cell? ⟨gb182, 1, none⟩ = some (.int .i64 a0_1) := (blk_cell BK182.out 1).trans rfl
                                          have hcz67_2 : wc.cell? ⟨gb182, 2, none⟩ = some (.int .i64 a0_2) := (blk_cell BK182.out 2).trans rfl
                                          have hcz67_3 : wc.cell? ⟨gb182, 3, none⟩ = some (.int .u8 a0_3) := (blk_cell BK182.out 3).trans rfl
                                          have hcz67_4 : wc.cell? ⟨gb182, 4, none⟩ = some (.int .u8 a0_4) := (blk_cell BK182.out 4).trans rfl
                                          have hcz67_5 : wc.cell? ⟨gb182, 5, none⟩ = some (.bool a0_5) := (blk_cell BK182.out 5).trans rfl
                                          have hfz67_0 := blk_frozen BK182.out 0
                                          have hfz67_1 := blk_frozen BK182.out 1
                                          have hfz67_2 := blk_frozen BK182.out 2
                                          have hfz67_3 := blk_frozen BK182.out 3
                                          have hfz67_4 := blk_frozen BK182.out 4
                                          have hfz67_5 := blk_frozen BK182.out 5
                                          have p193 : 0 ≤ (x12_3 : Int) := of_decide_eq_true (by first | (with_reducible assumption) | assumption)
                                          have q193 : x12_3 < (l0_0.length : Int) := of_decide_eq_true (by first | (with_reducible assumption) | assumption)
                                          obtain ⟨ad193, e193, hx193_0⟩ := Kd.at_int HR0_0.out x12_3 p193 q193
                                          cases e193
                                          replace hx193_0 := (HB.out.cell (World.block_lt_of_cell? w _ hx193_0)).trans hx193_0
                                          replace p193 := eq_true p193
                                          replace q193 := eq_true q193
                                          have p195 : 0 ≤ (x9_27 : Int) := of_decide_eq_true (by first | (with_reducible assumption) | assumption)
                                          have q195 : x9_27 < (l0_0.length : Int) := of_decide_eq_true (by first | (with_reducible assumption) | assumption)
                                          obtain ⟨ad195, e195, hx195_0⟩ := Kd.at_int HR0_0.out x9_27 p195 q195
                                          obtain rfl : ad193 = ad195 := (by injection e195)
                                          replace hx195_0 := (HB.out.cell (World.block_lt_of_cell? w _ hx195_0)).trans hx195_0
                                          replace p195 := eq_true p195
                                          replace q195 := eq_true q195
                                          have hcz68_0 : wc.cell? ⟨gb188, 0, none⟩ = some (.int .i64 t184) := (blk_cell BK188.out 0).trans rfl
                                          have hcz68_1 : wc.cell? ⟨gb188, 1, none⟩ = some (.int .i64 t185) := (blk_cell BK188.out 1).trans rfl
                                          have hcz68_2 : wc.cell? ⟨gb188, 2, none⟩ = some (.int .i64 t186) := (blk_cell BK188.out 2).trans rfl
                                          have hfz68_0 := blk_frozen BK188.out 0
                                          have hfz68_1 := blk_frozen BK188.out 1
                                          have hfz68_2 := blk_frozen BK188.out 2
                                          go_wp2
                                          repeat (go_quiet (fail); try go_wp2)
                                          go_ret
                                          exact ⟨by first | rfl | (simp [errW_none, errW_some] <;> rfl) | (simp only [← hji64]; first | rfl | (simp [errW_none, errW_some] <;> rfl)) | (simp [*, errW_none, errW_some] <;> rfl), by repeat (first | (with_reducible first | exact HB.out | apply below_alloc | apply pw_below_drewN | apply below_drew1 | refine below_set ?_ GE182.out | refine below_set ?_ GE188.out) | exact HB.out)⟩
                                        · rw [if_neg c65] at H
                                          have c65b0 : (x11_3 == (ji64)) = false := beq_eq_false_iff_ne.mpr c65
                                          have c65b1 : (x11_3 != (ji64)) = true := bne_iff_ne.mpr c65
                                          obtain rfl := Option.some.inj H
                                          have hnb69 := NB182_188.out
                                          have hnc69 := NB188_182.out
                                          have hcz70_0 : wc.cell? ⟨gb182, 0, none⟩ = some (.slice A0_0 l0_0.length c0_0) := (blk_cell BK182.out 0).trans rfl
                                          have hcz70_1 : wc.cell? ⟨gb182, 1, none⟩ = some (.int .i64 a0_1) := (blk_cell BK182.out 1).trans rfl
                                          have hcz70_2 : wc.cell? ⟨gb182, 2, none⟩ = some (.int .i64 a0_2) := (blk_cell BK182.out 2).trans rfl
                                          have hcz70_3 : wc.cell? ⟨gb182, 3, none⟩ = some (.int .u8 a0_3) := (blk_cell BK182.out 3).trans rfl
                                          have hcz70_4 : wc.cell? ⟨gb182, 4, none⟩ = some (.int .u8 a0_4) := (blk_cell BK182.out 4).trans rfl
                                          have hcz70_5 : wc.cell? ⟨gb182, 5, none⟩ = some (.bool a0_5) := (blk_cell BK182.out 5).trans rfl
                                          have hfz70_0 := blk_frozen BK182.out 0
                                          have hfz70_1 := blk_frozen BK182.out 1
                                          have hfz70_2 := blk_frozen BK182.out 2
                                          have hfz70_3 := blk_frozen BK182.out 3
                                          have hfz70_4 := blk_frozen BK182.out 4
                                          have hfz70_5 := blk_frozen BK182.out 5
                                          have p193 : 0 ≤ (x12_3 : Int) := of_decide_eq_true (by first | (with_reducible assumption) | assumption)
                                          have q193 : x12_3 < (l0_0.length : Int) := of_decide_eq_true (by first | (with_reducible assumption) | assumption)
                                          obtain ⟨ad193, e193, hx193_0⟩ := Kd.at_int HR0_0.out x12_3 p193 q193
                                          cases e193
                                          replace hx193_0 := (HB.out.cell (World.block_lt_of_cell? w _ hx193_0)).trans hx193_0
                                          replace p193 := eq_true p193
                                          replace q193 := eq_true q193
                                          have p195 : 0 ≤ (x9_27 : Int) := of_decide_eq_true (by first | (with_reducible assumption) | assumption)
                                          have q195 : x9_27 < (l0_0.length : Int) := of_decide_eq_true (by first | (with_reducible assumption) | assumption)
                                          obtain ⟨ad195, e195, hx195_0⟩ := Kd.at_int HR0_0.out x9_27 p195 q195
                                          obtain rfl : ad193 = ad195 := (by injection e195)
                                          replace hx195_0 := (HB.out.cell (World.block_lt_of_cell? w _ hx195_0)).trans hx195_0
                                          replace p195 := eq_true p195
                                          replace q195 := eq_true q195
                                          go_wp2
                                          repeat (go_quiet (fail); try go_wp2)
                                          go_ret
                                          exact ⟨by first | rfl | (simp [errW_none, errW_some] <;> rfl) | (simp only [← hji64]; first | rfl | (simp [errW_none, errW_some] <;> rfl)) | (simp [*, errW_none, errW_some] <;> rfl), by repeat (first | (with_reducible first | exact HB.out | apply below_alloc | apply pw_below_drewN | apply below_drew1 | refine below_set ?_ GE182.out | refine below_set ?_ GE188.out) | exact HB.out)⟩
                                      · rw [if_neg c63] at H
                                        have c63b0 : ((rd l0_0 x9_27) == a0_4) = false := beq_eq_false_iff_ne.mpr c63
                                        have c63b1 : ((rd l0_0 x9_27) != a0_4) = true := bne_iff_ne.mpr c63
                                        obtain rfl := Option.some.inj H
                                        have hnb71 := NB182_188.out
                                        have hnc71 := NB188_182.out
                                        have hcz72_0 : wc.cell? ⟨gb182, 0, none⟩ = some (.slice A0_0 l0_0.length c0_0) := (blk_cell BK182.out 0).trans rfl
                                        have hcz72_1 : wc.cell? ⟨gb182, 1, none⟩ = some (.int .i64 a0_1) := (blk_cell BK182.out 1).trans rfl
                                        have hcz72_2 : wc.cell? ⟨gb182, 2, none⟩ = some (.int .i64 a0_2) := (blk_cell BK182.out 2).trans rfl
                                        have hcz72_3 : wc.cell? ⟨gb182, 3, none⟩ = some (.int .u8 a0_3) := (blk_cell BK182.out 3).trans rfl
                                        have hcz72_4 : wc.cell? ⟨gb182, 4, none⟩ = some (.int .u8 a0_4) := (blk_cell BK182.out 4).trans rfl
                                        have hcz72_5 : wc.cell? ⟨gb182, 5, none⟩ = some (.bool a0_5) := (blk_cell BK182.out 5).trans rfl
                                        have hfz72_0 := blk_frozen BK182.out 0
                                        have hfz72_1 := blk_frozen BK182.out 1
                                        have hfz72_2 := blk_frozen BK182.out 2
                                        have hfz72_3 := blk_frozen BK182.out 3
                                        have hfz72_4 := blk_frozen BK182.out 4
                                        have hfz72_5 := blk_frozen BK182.out 5
                                        have p193 : 0 ≤ (x12_3 : Int) := of_decide_eq_true (by first | (with_reducible assumption) | assumption)
                                        have q193 : x12_3 < (l0_0.length : Int) := of_decide_eq_true (by first | (with_reducible assumption) | assumption)
                                        obtain ⟨ad193, e193, hx193_0⟩ := Kd.at_int HR0_0.out x12_3 p193 q193
                                        cases e193
                                        replace hx193_0 := (HB.out.cell (World.block_lt_of_cell? w _ hx193_0)).trans hx193_0
                                        replace p193 := eq_true p193
                                        replace q193 := eq_true q193
                                        have p195 : 0 ≤ (x9_27 : Int) := of_decide_eq_true (by first | (with_reducible assumption) | assumption)
                                        have q195 : x9_27 < (l0_0.length : Int) := of_decide_eq_true (by first | (with_reducible assumption) | assumption)
                                        obtain ⟨ad195, e195, hx195_0⟩ := Kd.at_int HR0_0.out x9_27 p195 q195
                                        obtain rfl : ad193 = ad195 := (by injection e195)
                                        replace hx195_0 := (HB.out.cell (World.block_lt_of_cell? w _ hx195_0)).trans hx195_0
                                        replace p195 := eq_true p195
                                        replace q195 := eq_true q195
                                        go_wp2
                                        repeat (go_quiet (fail); try go_wp2)
                                        go_ret
                                        exact ⟨by first | rfl | (simp [errW_none, errW_some] <;> rfl) | (simp [*, errW_none, errW_some] <;> rfl), by repeat (first | (with_reducible first | exact HB.out | apply below_alloc | apply pw_below_drewN | apply below_drew1 | refine below_set ?_ GE182.out | refine below_set ?_ GE188.out) | exact HB.out)⟩
                                    · rw [if_neg c62] at H
                                      exact absurd H (by simp)
                                  · rw [if_neg c61] at H
                                    exact absurd H (by simp)
                                · rw [if_neg c60] at H
                                  have c60b0 : (x12_3 == x9_27) = false := beq_eq_false_iff_ne.mpr c60
                                  have c60b1 : (x12_3 != x9_27) = true := bne_iff_ne.mpr c60
                                  have H' := Aside0.mk H
                                  clear H
                                  have hnb73 := NB182_188.out
                                  have hnc73 := NB188_182.out
                                  have hcz74_0 : wc.cell? ⟨gb182, 0, none⟩ = some (.slice A0_0 l0_0.length c0_0) := (blk_cell BK182.out 0).trans rfl
                                  have hcz74_1 : wc.cell? ⟨gb182, 1, none⟩ = some (.int .i64 a0_1) := (blk_cell BK182.out 1).trans rfl
                                  have hcz74_2 : wc.cell? ⟨gb182, 2, none⟩ = some (.int .i64 a0_2) := (blk_cell BK182.out 2).trans rfl
                                  have hcz74_3 : wc.cell? ⟨gb182, 3, none⟩ = some (.int .u8 a0_3) := (blk_cell BK182.out 3).trans rfl
                                  have hcz74_4 : wc.cell? ⟨gb182, 4, none⟩ = some (.int .u8 a0_4) := (blk_cell BK182.out 4).trans rfl
                                  have hcz74_5 : wc.cell? ⟨gb182, 5, none⟩ = some (.bool a0_5) := (blk_cell BK182.out 5).trans rfl
                                  have hfz74_0 := blk_frozen BK182.out 0
                                  have hfz74_1 := blk_frozen BK182.out 1
                                  have hfz74_2 := blk_frozen BK182.out 2
                                  have hfz74_3 := blk_frozen BK182.out 3
                                  have hfz74_4 := blk_frozen BK182.out 4
                                  have hfz74_5 := blk_frozen BK182.out 5
                                  have p193 : 0 ≤ (x12_3 : Int) := of_decide_eq_true (by first | (with_reducible assumption) | assumption)
                                  have q193 : x12_3 < (l0_0.length : Int) := of_decide_eq_true (by first | (with_reducible assumption) | assumption)
                                  obtain ⟨ad193, e193, hx193_0⟩ := Kd.at_int HR0_0.out x12_3 p193 q193
                                  cases e193
                                  replace hx193_0 := (HB.out.cell (World.block_lt_of_cell? w _ hx193_0)).trans hx193_0
                                  replace p193 := eq_true p193
                                  replace q193 := eq_true q193
                                  go_wp2
                                  repeat (go_quiet (fail); try go_wp2)
                                  go_roundg kj36
                                  case measure => have := HJ7.out; have := HJ27.out; have := HK3.out; have := HJ36.out; omega
                                  case rel => exact ⟨(x11_3), (wrap64 (x12_3 + x10_27)), (by first | rfl | (simp; done) | (simp [*]; done)), (by first | rfl | (simp; done) | (simp [*]; done)), H', ⟨by have := HJ7.out; have := HJ27.out; have := HK3.out; have := HJ36.out; omega⟩, ⟨by (with_reducible repeat (first | refine blk_drewN ?_ _ | refine blk_drew ?_ | refine blk_alloc ?_ _)); exact BK182.out⟩, ⟨by (with_reducible repeat (first | refine blk_drewN ?_ _ | refine blk_drew ?_ | refine blk_alloc ?_ _)); exact BK188.out⟩, ⟨by repeat (first | (with_reducible first | exact HB.out | apply below_alloc | apply pw_below_drewN | apply below_drew1 | refine below_set ?_ GE182.out | refine below_set ?_ GE188.out) | exact HB.out)⟩⟩
                            · rw [if_neg c43] at H
                              exact absurd H (by simp)
                          · rw [if_neg c42] at H
                            exact absurd H (by simp)
                        · replace c41 := Bool.eq_false_iff.mpr c41
                          subst c41
                          have H1 : (some false) = some r := by rw [if_neg (show ¬ (false = true) by decide)] at H; exact H
                          clear H
                          have H := H1
                          clear H1
                          obtain rfl := Option.some.inj H
                          go_wp2
                          repeat (go_quiet (fail); try go_wp2)
                          go_ret
                          exact ⟨by first | rfl | (simp [errW_none, errW_some] <;> rfl) | (simp [*, errW_none, errW_some] <;> rfl), by repeat (first | (with_reducible first | exact HB.out | apply below_alloc | apply pw_below_drewN | apply below_drew1 | refine below_set ?_ GE182.out | refine below_set ?_ GE188.out) | exact HB.out)⟩
    · rw [if_neg c5] at H
      have c5b0 : (t187 == 0) = false := beq_eq_false_iff_ne.mpr c5
      have c5b1 : (t187 != 0) = true := bne_iff_ne.mpr c5
      obtain rfl := Option.some.inj H
      go_enter Try.func4, Try.ntmps4
      go_wp2_with (first | ((with_reducible refine gate_dst (N := 1) rfl ?_); (try (refine gate_guard (by rfl) ?_; dsimp only)); refine box_event ?hg (N := 1) ?hd (cs := #[.slice A0_0 l0_0.length c0_0, .int .i64 a0_1, .int .i64 a0_2, .int .u8 a0_3, .int .u8 a0_4, .bool a0_5]) (t := 26) ?hr ?_; (case hd => rfl); (case hg => rfl); (case hr => first | (go_simp; done) | (go_simp; rfl)); intro gb182 hg w75 hbox hb; have n0_ := Aside0.mk (below_step (by repeat (first | (with_reducible first | exact HB.out | apply below_alloc | apply pw_below_drewN | apply below_drew1) | exact HB.out)) hb); have n1_ := Aside0.mk (hbox); have n2_ := Aside0.mk ((by rw [hg]; exact (below_size (by repeat (first | (with_reducible first | exact HB.out | apply below_alloc | apply pw_below_drewN | apply below_drew1) | exact HB.out))) : w.heap.size ≤ gb182)); have n3_ := Aside0.mk ((by rw [hg]; exact (below_size (by repeat (first | (with_reducible first | exact HB.out | apply below_alloc | apply pw_below_drewN | apply below_drew1) | exact HB.out))) : w.heap.size ≤ gb182)); clear HB; have HB := n0_; have BK182 := n1_; have GW182 := n2_; have GE182 := n3_; clear n0_ n1_ n2_ n3_; clear hb hbox hg) | (go_at_call 9; (with_reducible refine (quoinlaw09_awake.calls k  true _ A2.out).mono ?_); rintro e w76 ⟨rfl, hb⟩; have n0_ := Aside0.mk (blk_below (g := gb182) (o := .cells #[.slice A0_0 l0_0.length c0_0, .int .i64 a0_1, .int .i64 a0_2, .int .u8 a0_3, .int .u8 a0_4, .bool a0_5] 26 (0, 0)) (by (with_reducible repeat (first | refine blk_drewN ?_ _ | refine blk_drew ?_ | refine blk_alloc ?_ _)); exact BK182.out) hb); have n1_ := Aside0.mk (below_step (by repeat (first | (with_reducible first | exact HB.out | apply below_alloc | apply pw_below_drewN | apply below_drew1 | refine below_set ?_ GE182.out) | exact HB.out)) hb); clear BK182; clear HB; have BK182 := n0_; have HB := n1_; clear n0_ n1_; (try clear hb); (try clear hb2); (try clear hk); (try clear hi); have hcz77_0 : w76.cell? ⟨gb182, 0, none⟩ = some (.slice A0_0 l0_0.length c0_0) := (blk_cell BK182.out 0).trans rfl; have hcz77_1 : w76.cell? ⟨gb182, 1, none⟩ = some (.int .i64 a0_1) := (blk_cell BK182.out 1).trans rfl; have hcz77_2 : w76.cell? ⟨gb182, 2, none⟩ = some (.int .i64 a0_2) := (blk_cell BK182.out 2).trans rfl; have hcz77_3 : w76.cell? ⟨gb182, 3, none⟩ = some (.int .u8 a0_3) := (blk_cell BK182.out 3).trans rfl; have hcz77_4 : w76.cell? ⟨gb182, 4, none⟩ = some (.int .u8 a0_4) := (blk_cell BK182.out 4).trans rfl; have hcz77_5 : w76.cell? ⟨gb182, 5, none⟩ = some (.bool a0_5) := (blk_cell BK182.out 5).trans rfl; have hfz77_0 := blk_frozen BK182.out 0; have hfz77_1 := blk_frozen BK182.out 1; have hfz77_2 := blk_frozen BK182.out 2; have hfz77_3 := blk_frozen BK182.out 3; have hfz77_4 := blk_frozen BK182.out 4; have hfz77_5 := blk_frozen BK182.out 5) | (go_at_call 11; (with_reducible refine (seek_Move.calls k _ _ l0_0 a0_1 a0_2 a0_3 a0_4 t184 t185 t186 t187 _ ?side1 ?side2 A4.out).mono ?_); (case side1 => repeat (first | exact (Kd.C_below HR0_0.out HB.out) | (with_reducible refine Kd.C_alloc ?_ _) | (with_reducible refine Kd.C_drewN ?_ _) | (with_reducible refine Kd.C_drew ?_))); (case side2 => exact HC0_0.out); rintro e w78 ⟨rfl, hb⟩; have n0_ := Aside0.mk (blk_below (g := gb182) (o := .cells #[.slice A0_0 l0_0.length c0_0, .int .i64 a0_1, .int .i64 a0_2, .int .u8 a0_3, .int .u8 a0_4, .bool a0_5] 26 (0, 0)) (by (with_reducible repeat (first | refine blk_drewN ?_ _ | refine blk_drew ?_ | refine blk_alloc ?_ _)); exact BK182.out) hb); have n1_ := Aside0.mk (below_step (by repeat (first | (with_reducible first | exact HB.out | apply below_alloc | apply pw_below_drewN | apply below_drew1 | refine below_set ?_ GE182.out) | exact HB.out)) hb); clear BK182; clear HB; have BK182 := n0_; have HB := n1_; clear n0_ n1_; (try clear hb); (try clear hb2); (try clear hk); (try clear hi)) | ((with_reducible refine gate_dst (N := 3) rfl ?_); (try (refine gate_guard (by rfl) ?_; dsimp only)); refine box_event ?hg (N := 3) ?hd (cs := #[.int .i64 0, .int .i64 0, .int .i64 0]) (t := 29) ?hr ?_; (case hd => rfl); (case hg => rfl); (case hr => first | (go_simp; done) | (go_simp; rfl)); intro gb188 hg w79 hbox hb; have n0_ := Aside0.mk (blk_below (g := gb182) (o := .cells #[.slice A0_0 l0_0.length c0_0, .int .i64 a0_1, .int .i64 a0_2, .int .u8 a0_3, .int .u8 a0_4, .bool a0_5] 26 (0, 0)) (by (with_reducible repeat (first | refine blk_drewN ?_ _ | refine blk_drew ?_ | refine blk_alloc ?_ _)); exact BK182.out) hb); have n1_ := Aside0.mk (below_step (by repeat (first | (with_reducible first | exact HB.out | apply below_alloc | apply pw_below_drewN | apply below_drew1 | refine below_set ?_ GE182.out) | exact HB.out)) hb); have n2_ := Aside0.mk (hbox); have n3_ := Aside0.mk ((by rw [hg]; exact (below_size (by repeat (first | (with_reducible first | exact HB.out | apply below_alloc | apply pw_below_drewN | apply below_drew1 | refine below_set ?_ GE182.out) | exact HB.out))) : w.heap.size ≤ gb188)); have n4_ := Aside0.mk ((by rw [hg]; exact (below_size (by repeat (first | (with_reducible first | exact HB.out | apply below_alloc | apply pw_below_drewN | apply below_drew1 | refine below_set ?_ GE182.out) | exact HB.out))) : w.heap.size ≤ gb188)); have n5_ := Aside0.mk ((by rw [hg]; exact Nat.ne_of_lt (blk_lt (g := gb182) (o := .cells #[.slice A0_0 l0_0.length c0_0, .int .i64 a0_1, .int .i64 a0_2, .int .u8 a0_3, .int .u8 a0_4, .bool a0_5] 26 (0, 0)) (by (with_reducible repeat (first | refine blk_drewN ?_ _ | refine blk_drew ?_ | refine blk_alloc ?_ _)); exact BK182.out)) : gb182 ≠ gb188)); have n6_ := Aside0.mk ((by rw [hg]; exact Nat.ne_of_gt (blk_lt (g := gb182) (o := .cells #[.slice A0_0 l0_0.length c0_0, .int .i64 a0_1, .int .i64 a0_2, .int .u8 a0_3, .int .u8 a0_4, .bool a0_5] 26 (0, 0)) (by (with_reducible repeat (first | refine blk_drewN ?_ _ | refine blk_drew ?_ | refine blk_alloc ?_ _)); exact BK182.out)) : gb188 ≠ gb182)); clear BK182; clear HB; have BK182 := n0_; have HB := n1_; have BK188 := n2_; have GW188 := n3_; have GE188 := n4_; have NB182_188 := n5_; have NB188_182 := n6_; clear n0_ n1_ n2_ n3_ n4_ n5_ n6_; clear hb hbox hg; have hnb80 := NB188_182.out; have hnc80 := NB182_188.out; have hcz81_0 : w79.cell? ⟨gb188, 0, none⟩ = some (.int .i64 0) := (blk_cell BK188.out 0).trans rfl; have hcz81_1 : w79.cell? ⟨gb188, 1, none⟩ = some (.int .i64 0) := (blk_cell BK188.out 1).trans rfl; have hcz81_2 : w79.cell? ⟨gb188, 2, none⟩ = some (.int .i64 0) := (blk_cell BK188.out 2).trans rfl; have hfz81_0 := blk_frozen BK188.out 0; have hfz81_1 := blk_frozen BK188.out 1; have hfz81_2 := blk_frozen BK188.out 2))
      repeat (go_quiet (first | ((with_reducible refine gate_dst (N := 1) rfl ?_); (try (refine gate_guard (by rfl) ?_; dsimp only)); refine box_event ?hg (N := 1) ?hd (cs := #[.slice A0_0 l0_0.length c0_0, .int .i64 a0_1, .int .i64 a0_2, .int .u8 a0_3, .int .u8 a0_4, .bool a0_5]) (t := 26) ?hr ?_; (case hd => rfl); (case hg => rfl); (case hr => first | (go_simp; done) | (go_simp; rfl)); intro gb182 hg w75 hbox hb; have n0_ := Aside0.mk (below_step (by repeat (first | (with_reducible first | exact HB.out | apply below_alloc | apply pw_below_drewN | apply below_drew1) | exact HB.out)) hb); have n1_ := Aside0.mk (hbox); have n2_ := Aside0.mk ((by rw [hg]; exact (below_size (by repeat (first | (with_reducible first | exact HB.out | apply below_alloc | apply pw_below_drewN | apply below_drew1) | exact HB.out))) : w.heap.size ≤ gb182)); have n3_ := Aside0.mk ((by rw [hg]; exact (below_size (by repeat (first | (with_reducible first | exact HB.out | apply below_alloc | apply pw_below_drewN | apply below_drew1) | exact HB.out))) : w.heap.size ≤ gb182)); clear HB; have HB := n0_; have BK182 := n1_; have GW182 := n2_; have GE182 := n3_; clear n0_ n1_ n2_ n3_; clear hb hbox hg) | (go_at_call 9; (with_reducible refine (quoinlaw09_awake.calls k  true _ A2.out).mono ?_); rintro e w76 ⟨rfl, hb⟩; have n0_ := Aside0.mk (blk_below (g := gb182) (o := .cells #[.slice A0_0 l0_0.length c0_0, .int .i64 a0_1, .int .i64 a0_2, .int .u8 a0_3, .int .u8 a0_4, .bool a0_5] 26 (0, 0)) (by (with_reducible repeat (first | refine blk_drewN ?_ _ | refine blk_drew ?_ | refine blk_alloc ?_ _)); exact BK182.out) hb); have n1_ := Aside0.mk (below_step (by repeat (first | (with_reducible first | exact HB.out | apply below_alloc | apply pw_below_drewN | apply below_drew1 | refine below_set ?_ GE182.out) | exact HB.out)) hb); clear BK182; clear HB; have BK182 := n0_; have HB := n1_; clear n0_ n1_; (try clear hb); (try clear hb2); (try clear hk); (try clear hi); have hcz77_0 : w76.cell? ⟨gb182, 0, none⟩ = some (.slice A0_0 l0_0.length c0_0) := (blk_cell BK182.out 0).trans rfl; have hcz77_1 : w76.cell? ⟨gb182, 1, none⟩ = some (.int .i64 a0_1) := (blk_cell BK182.out 1).trans rfl; have hcz77_2 : w76.cell? ⟨gb182, 2, none⟩ = some (.int .i64 a0_2) := (blk_cell BK182.out 2).trans rfl; have hcz77_3 : w76.cell? ⟨gb182, 3, none⟩ = some (.int .u8 a0_3) := (blk_cell BK182.out 3).trans rfl; have hcz77_4 : w76.cell? ⟨gb182, 4, none⟩ = some (.int .u8 a0_4) := (blk_cell BK182.out 4).trans rfl; have hcz77_5 : w76.cell? ⟨gb182, 5, none⟩ = some (.bool a0_5) := (blk_cell BK182.out 5).trans rfl; have hfz77_0 := blk_frozen BK182.out 0; have hfz77_1 := blk_frozen BK182.out 1; have hfz77_2 := blk_frozen BK182.out 2; have hfz77_3 := blk_frozen BK182.out 3; have hfz77_4 := blk_frozen BK182.out 4; have hfz77_5 := blk_frozen BK182.out 5) | (go_at_call 11; (with_reducible refine (seek_Move.calls k _ _ l0_0 a0_1 a0_2 a0_3 a0_4 t184 t185 t186 t187 _ ?side1 ?side2 A4.out).mono ?_); (case side1 => repeat (first | exact (Kd.C_below HR0_0.out HB.out) | (with_reducible refine Kd.C_alloc ?_ _) | (with_reducible refine Kd.C_drewN ?_ _) | (with_reducible refine Kd.C_drew ?_))); (case side2 => exact HC0_0.out); rintro e w78 ⟨rfl, hb⟩; have n0_ := Aside0.mk (blk_below (g := gb182) (o := .cells #[.slice A0_0 l0_0.length c0_0, .int .i64 a0_1, .int .i64 a0_2, .int .u8 a0_3, .int .u8 a0_4, .bool a0_5] 26 (0, 0)) (by (with_reducible repeat (first | refine blk_drewN ?_ _ | refine blk_drew ?_ | refine blk_alloc ?_ _)); exact BK182.out) hb); have n1_ := Aside0.mk (below_step (by repeat (first | (with_reducible first | exact HB.out | apply below_alloc | apply pw_below_drewN | apply below_drew1 | refine below_set ?_ GE182.out) | exact HB.out)) hb); clear BK182; clear HB; have BK182 := n0_; have HB := n1_; clear n0_ n1_; (try clear hb); (try clear hb2); (try clear hk); (try clear hi)) | ((with_reducible refine gate_dst (N := 3) rfl ?_); (try (refine gate_guard (by rfl) ?_; dsimp only)); refine box_event ?hg (N := 3) ?hd (cs := #[.int .i64 0, .int .i64 0, .int .i64 0]) (t := 29) ?hr ?_; (case hd => rfl); (case hg => rfl); (case hr => first | (go_simp; done) | (go_simp; rfl)); intro gb188 hg w79 hbox hb; have n0_ := Aside0.mk (blk_below (g := gb182) (o := .cells #[.slice A0_0 l0_0.length c0_0, .int .i64 a0_1, .int .i64 a0_2, .int .u8 a0_3, .int .u8 a0_4, .bool a0_5] 26 (0, 0)) (by (with_reducible repeat (first | refine blk_drewN ?_ _ | refine blk_drew ?_ | refine blk_alloc ?_ _)); exact BK182.out) hb); have n1_ := Aside0.mk (below_step (by repeat (first | (with_reducible first | exact HB.out | apply below_alloc | apply pw_below_drewN | apply below_drew1 | refine below_set ?_ GE182.out) | exact HB.out)) hb); have n2_ := Aside0.mk (hbox); have n3_ := Aside0.mk ((by rw [hg]; exact (below_size (by repeat (first | (with_reducible first | exact HB.out | apply below_alloc | apply pw_below_drewN | apply below_drew1 | refine below_set ?_ GE182.out) | exact HB.out))) : w.heap.size ≤ gb188)); have n4_ := Aside0.mk ((by rw [hg]; exact (below_size (by repeat (first | (with_reducible first | exact HB.out | apply below_alloc | apply pw_below_drewN | apply below_drew1 | refine below_set ?_ GE182.out) | exact HB.out))) : w.heap.size ≤ gb188)); have n5_ := Aside0.mk ((by rw [hg]; exact Nat.ne_of_lt (blk_lt (g := gb182) (o := .cells #[.slice A0_0 l0_0.length c0_0, .int .i64 a0_1, .int .i64 a0_2, .int .u8 a0_3, .int .u8 a0_4, .bool a0_5] 26 (0, 0)) (by (with_reducible repeat (first | refine blk_drewN ?_ _ | refine blk_drew ?_ | refine blk_alloc ?_ _)); exact BK182.out)) : gb182 ≠ gb188)); have n6_ := Aside0.mk ((by rw [hg]; exact Nat.ne_of_gt (blk_lt (g := gb182) (o := .cells #[.slice A0_0 l0_0.length c0_0, .int .i64 a0_1, .int .i64 a0_2, .int .u8 a0_3, .int .u8 a0_4, .bool a0_5] 26 (0, 0)) (by (with_reducible repeat (first | refine blk_drewN ?_ _ | refine blk_drew ?_ | refine blk_alloc ?_ _)); exact BK182.out)) : gb188 ≠ gb182)); clear BK182; clear HB; have BK182 := n0_; have HB := n1_; have BK188 := n2_; have GW188 := n3_; have GE188 := n4_; have NB182_188 := n5_; have NB188_182 := n6_; clear n0_ n1_ n2_ n3_ n4_ n5_ n6_; clear hb hbox hg; have hnb80 := NB188_182.out; have hnc80 := NB182_188.out; have hcz81_0 : w79.cell? ⟨gb188, 0, none⟩ = some (.int .i64 0) := (blk_cell BK188.out 0).trans rfl; have hcz81_1 : w79.cell? ⟨gb188, 1, none⟩ = some (.int .i64 0) := (blk_cell BK188.out 1).trans rfl; have hcz81_2 : w79.cell? ⟨gb188, 2, none⟩ = some (.int .i64 0) := (blk_cell BK188.out 2).trans rfl; have hfz81_0 := blk_frozen BK188.out 0; have hfz81_1 := blk_frozen BK188.out 1; have hfz81_2 := blk_frozen BK188.out 2)); try go_wp2_with (first | ((with_reducible refine gate_dst (N := 1) rfl ?_); (try (refine gate_guard (by rfl) ?_; dsimp only)); refine box_event ?hg (N := 1) ?hd (cs := #[.slice A0_0 l0_0.length c0_0, .int .i64 a0_1, .int .i64 a0_2, .int .u8 a0_3, .int .u8 a0_4, .bool a0_5]) (t := 26) ?hr ?_; (case hd => rfl); (case hg => rfl); (case hr => first | (go_simp; done) | (go_simp; rfl)); intro gb182 hg w75 hbox hb; have n0_ := Aside0.mk (below_step (by repeat (first | (with_reducible first | exact HB.out | apply below_alloc | apply pw_below_drewN | apply below_drew1) | exact HB.out)) hb); have n1_ := Aside0.mk (hbox); have n2_ := Aside0.mk ((by rw [hg]; exact (below_size (by repeat (first | (with_reducible first | exact HB.out | apply below_alloc | apply pw_below_drewN | apply below_drew1) | exact HB.out))) : w.heap.size ≤ gb182)); have n3_ := Aside0.mk ((by rw [hg]; exact (below_size (by repeat (first | (with_reducible first | exact HB.out | apply below_alloc | apply pw_below_drewN | apply below_drew1) | exact HB.out))) : w.heap.size ≤ gb182)); clear HB; have HB := n0_; have BK182 := n1_; have GW182 := n2_; have GE182 := n3_; clear n0_ n1_ n2_ n3_; clear hb hbox hg) | (go_at_call 9; (with_reducible refine (quoinlaw09_awake.calls k  true _ A2.out).mono ?_); rintro e w76 ⟨rfl, hb⟩; have n0_ := Aside0.mk (blk_below (g := gb182) (o := .cells #[.slice A0_0 l0_0.length c0_0, .int .i64 a0_1, .int .i64 a0_2, .int .u8 a0_3, .int .u8 a0_4, .bool a0_5] 26 (0, 0)) (by (with_reducible repeat (first | refine blk_drewN ?_ _ | refine blk_drew ?_ | refine blk_alloc ?_ _)); exact BK182.out) hb); have n1_ := Aside0.mk (below_step (by repeat (first | (with_reducible first | exact HB.out | apply below_alloc | apply pw_below_drewN | apply below_drew1 | refine below_set ?_ GE182.out) | exact HB.out)) hb); clear BK182; clear HB; have BK182 := n0_; have HB := n1_; clear n0_ n1_; (try clear hb); (try clear hb2); (try clear hk); (try clear hi); have hcz77_0 : w76.cell? ⟨gb182, 0, none⟩ = some (.slice A0_0 l0_0.length c0_0) := (blk_cell BK182.out 0).trans rfl; have hcz77_1 : w76.cell? ⟨gb182, 1, none⟩ = some (.int .i64 a0_1) := (blk_cell BK182.out 1).trans rfl; have hcz77_2 : w76.cell? ⟨gb182, 2, none⟩ = some (.int .i64 a0_2) := (blk_cell BK182.out 2).trans rfl; have hcz77_3 : w76.cell? ⟨gb182, 3, none⟩ = some (.int .u8 a0_3) := (blk_cell BK182.out 3).trans rfl; have hcz77_4 : w76.cell? ⟨gb182, 4, none⟩ = some (.int .u8 a0_4) := (blk_cell BK182.out 4).trans rfl; have hcz77_5 : w76.cell? ⟨gb182, 5, none⟩ = some (.bool a0_5) := (blk_cell BK182.out 5).trans rfl; have hfz77_0 := blk_frozen BK182.out 0; have hfz77_1 := blk_frozen BK182.out 1; have hfz77_2 := blk_frozen BK182.out 2; have hfz77_3 := blk_frozen BK182.out 3; have hfz77_4 := blk_frozen BK182.out 4; have hfz77_5 := blk_frozen BK182.out 5) | (go_at_call 11; (with_reducible refine (seek_Move.calls k _ _ l0_0 a0_1 a0_2 a0_3 a0_4 t184 t185 t186 t187 _ ?side1 ?side2 A4.out).mono ?_); (case side1 => repeat (first | exact (Kd.C_below HR0_0.out HB.out) | (with_reducible refine Kd.C_alloc ?_ _) | (with_reducible refine Kd.C_drewN ?_ _) | (with_reducible refine Kd.C_drew ?_))); (case side2 => exact HC0_0.out); rintro e w78 ⟨rfl, hb⟩; have n0_ := Aside0.mk (blk_below (g := gb182) (o := .cells #[.slice A0_0 l0_0.length c0_0, .int .i64 a0_1, .int .i64 a0_2, .int .u8 a0_3, .int .u8 a0_4, .bool a0_5] 26 (0, 0)) (by (with_reducible repeat (first | refine blk_drewN ?_ _ | refine blk_drew ?_ | refine blk_alloc ?_ _)); exact BK182.out) hb); have n1_ := Aside0.mk (below_step (by repeat (first | (with_reducible first | exact HB.out | apply below_alloc | apply pw_below_drewN | apply below_drew1 | refine below_set ?_ GE182.out) | exact HB.out)) hb); clear BK182; clear HB; have BK182 := n0_; have HB := n1_; clear n0_ n1_; (try clear hb); (try clear hb2); (try clear hk); (try clear hi)) | ((with_reducible refine gate_dst (N := 3) rfl ?_); (try (refine gate_guard (by rfl) ?_; dsimp only)); refine box_event ?hg (N := 3) ?hd (cs := #[.int .i64 0, .int .i64 0, .int .i64 0]) (t := 29) ?hr ?_; (case hd => rfl); (case hg => rfl); (case hr => first | (go_simp; done) | (go_simp; rfl)); intro gb188 hg w79 hbox hb; have n0_ := Aside0.mk (blk_below (g := gb182) (o := .cells #[.slice A0_0 l0_0.length c0_0, .int .i64 a0_1, .int .i64 a0_2, .int .u8 a0_3, .int .u8 a0_4, .bool a0_5] 26 (0, 0)) (by (with_reducible repeat (first | refine blk_drewN ?_ _ | refine blk_drew ?_ | refine blk_alloc ?_ _)); exact BK182.out) hb); have n1_ := Aside0.mk (below_step (by repeat (first | (with_reducible first | exact HB.out | apply below_alloc | apply pw_below_drewN | apply below_drew1 | refine below_set ?_ GE182.out) | exact HB.out)) hb); have n2_ := Aside0.mk (hbox); have n3_ := Aside0.mk ((by rw [hg]; exact (below_size (by repeat (first | (with_reducible first | exact HB.out | apply below_alloc | apply pw_below_drewN | apply below_drew1 | refine below_set ?_ GE182.out) | exact HB.out))) : w.heap.size ≤ gb188)); have n4_ := Aside0.mk ((by rw [hg]; exact (below_size (by repeat (first | (with_reducible first | exact HB.out | apply below_alloc | apply pw_below_drewN | apply below_drew1 | refine below_set ?_ GE182.out) | exact HB.out))) : w.heap.size ≤ gb188)); have n5_ := Aside0.mk ((by rw [hg]; exact Nat.ne_of_lt (blk_lt (g := gb182) (o := .cells #[.slice A0_0 l0_0.length c0_0, .int .i64 a0_1, .int .i64 a0_2, .int .u8 a0_3, .int .u8 a0_4, .bool a0_5] 26 (0, 0)) (by (with_reducible repeat (first | refine blk_drewN ?_ _ | refine blk_drew ?_ | refine blk_alloc ?_ _)); exact BK182.out)) : gb182 ≠ gb188)); have n6_ := Aside0.mk ((by rw [hg]; exact Nat.ne_of_gt (blk_lt (g := gb182) (o := .cells #[.slice A0_0 l0_0.length c0_0, .int .i64 a0_1, .int .i64 a0_2, .int .u8 a0_3, .int .u8 a0_4, .bool a0_5] 26 (0, 0)) (by (with_reducible repeat (first | refine blk_drewN ?_ _ | refine blk_drew ?_ | refine blk_alloc ?_ _)); exact BK182.out)) : gb188 ≠ gb182)); clear BK182; clear HB; have BK182 := n0_; have HB := n1_; have BK188 := n2_; have GW188 := n3_; have GE188 := n4_; have NB182_188 := n5_; have NB188_182 := n6_; clear n0_ n1_ n2_ n3_ n4_ n5_ n6_; clear hb hbox hg; have hnb80 := NB188_182.out; have hnc80 := NB182_188.out; have hcz81_0 : w79.cell? ⟨gb188, 0, none⟩ = some (.int .i64 0) := (blk_cell BK188.out 0).trans rfl; have hcz81_1 : w79.cell? ⟨gb188, 1, none⟩ = some (.int .i64 0) := (blk_cell BK188.out 1).trans rfl; have hcz81_2 : w79.cell? ⟨gb188, 2, none⟩ = some (.int .i64 0) := (blk_cell BK188.out 2).trans rfl; have hfz81_0 := blk_frozen BK188.out 0; have hfz81_1 := blk_frozen BK188.out 1; have hfz81_2 := blk_frozen BK188.out 2)))
      go_ret
      exact ⟨by first | rfl | (simp [errW_none, errW_some] <;> rfl) | (simp [*, errW_none, errW_some] <;> rfl), by repeat (first | (with_reducible first | exact HB.out | apply below_alloc | apply pw_below_drewN | apply below_drew1 | refine below_set ?_ GE182.out | refine below_set ?_ GE188.out) | exact HB.out)⟩
  · replace c3 := Bool.eq_false_iff.mpr c3
    subst c3
    have H1 : (some false) = some r := by rw [if_neg (show ¬ (false = true) by decide)] at H; exact H
    clear H
    have H := H1
    clear H1
    obtain rfl := Option.some.inj H
    go_enter Try.func4, Try.ntmps4
    go_wp2_with (first | ((with_reducible refine gate_dst (N := 1) rfl ?_); (try (refine gate_guard (by rfl) ?_; dsimp only)); refine box_event ?hg (N := 1) ?hd (cs := #[.slice A0_0 l0_0.length c0_0, .int .i64 a0_1, .int .i64 a0_2, .int .u8 a0_3, .int .u8 a0_4, .bool a0_5]) (t := 26) ?hr ?_; (case hd => rfl); (case hg => rfl); (case hr => first | (go_simp; done) | (go_simp; rfl)); intro gb182 hg w82 hbox hb; have n0_ := Aside0.mk (below_step (by repeat (first | (with_reducible first | exact HB.out | apply below_alloc | apply pw_below_drewN | apply below_drew1) | exact HB.out)) hb); have n1_ := Aside0.mk (hbox); have n2_ := Aside0.mk ((by rw [hg]; exact (below_size (by repeat (first | (with_reducible first | exact HB.out | apply below_alloc | apply pw_below_drewN | apply below_drew1) | exact HB.out))) : w.heap.size ≤ gb182)); have n3_ := Aside0.mk ((by rw [hg]; exact (below_size (by repeat (first | (with_reducible first | exact HB.out | apply below_alloc | apply pw_below_drewN | apply below_drew1) | exact HB.out))) : w.heap.size ≤ gb182)); clear HB; have HB := n0_; have BK182 := n1_; have GW182 := n2_; have GE182 := n3_; clear n0_ n1_ n2_ n3_; clear hb hbox hg) | (go_at_call 9; (with_reducible refine (quoinlaw09_awake.calls k  false _ A2.out).mono ?_); rintro e w83 ⟨rfl, hb⟩; have n0_ := Aside0.mk (blk_below (g := gb182) (o := .cells #[.slice A0_0 l0_0.length c0_0, .int .i64 a0_1, .int .i64 a0_2, .int .u8 a0_3, .int .u8 a0_4, .bool a0_5] 26 (0, 0)) (by (with_reducible repeat (first | refine blk_drewN ?_ _ | refine blk_drew ?_ | refine blk_alloc ?_ _)); exact BK182.out) hb); have n1_ := Aside0.mk (below_step (by repeat (first | (with_reducible first | exact HB.out | apply below_alloc | apply pw_below_drewN | apply below_drew1 | refine below_set ?_ GE182.out) | exact HB.out)) hb); clear BK182; clear HB; have BK182 := n0_; have HB := n1_; clear n0_ n1_; (try clear hb); (try clear hb2); (try clear hk); (try clear hi)))
    repeat (go_quiet (first | ((with_reducible refine gate_dst (N := 1) rfl ?_); (try (refine gate_guard (by rfl) ?_; dsimp only)); refine box_event ?hg (N := 1) ?hd (cs := #[.slice A0_0 l0_0.length c0_0, .int .i64 a0_1, .int .i64 a0_2, .int .u8 a0_3, .int .u8 a0_4, .bool a0_5]) (t := 26) ?hr ?_; (case hd => rfl); (case hg => rfl); (case hr => first | (go_simp; done) | (go_simp; rfl)); intro gb182 hg w82 hbox hb; have n0_ := Aside0.mk (below_step (by repeat (first | (with_reducible first | exact HB.out | apply below_alloc | apply pw_below_drewN | apply below_drew1) | exact HB.out)) hb); have n1_ := Aside0.mk (hbox); have n2_ := Aside0.mk ((by rw [hg]; exact (below_size (by repeat (first | (with_reducible first | exact HB.out | apply below_alloc | apply pw_below_drewN | apply below_drew1) | exact HB.out))) : w.heap.size ≤ gb182)); have n3_ := Aside0.mk ((by rw [hg]; exact (below_size (by repeat (first | (with_reducible first | exact HB.out | apply below_alloc | apply pw_below_drewN | apply below_drew1) | exact HB.out))) : w.heap.size ≤ gb182)); clear HB; have HB := n0_; have BK182 := n1_; have GW182 := n2_; have GE182 := n3_; clear n0_ n1_ n2_ n3_; clear hb hbox hg) | (go_at_call 9; (with_reducible refine (quoinlaw09_awake.calls k  false _ A2.out).mono ?_); rintro e w83 ⟨rfl, hb⟩; have n0_ := Aside0.mk (blk_below (g := gb182) (o := .cells #[.slice A0_0 l0_0.length c0_0, .int .i64 a0_1, .int .i64 a0_2, .int .u8 a0_3, .int .u8 a0_4, .bool a0_5] 26 (0, 0)) (by (with_reducible repeat (first | refine blk_drewN ?_ _ | refine blk_drew ?_ | refine blk_alloc ?_ _)); exact BK182.out) hb); have n1_ := Aside0.mk (below_step (by repeat (first | (with_reducible first | exact HB.out | apply below_alloc | apply pw_below_drewN | apply below_drew1 | refine below_set ?_ GE182.out) | exact HB.out)) hb); clear BK182; clear HB; have BK182 := n0_; have HB := n1_; clear n0_ n1_; (try clear hb); (try clear hb2); (try clear hk); (try clear hi))); try go_wp2_with (first | ((with_reducible refine gate_dst (N := 1) rfl ?_); (try (refine gate_guard (by rfl) ?_; dsimp only)); refine box_event ?hg (N := 1) ?hd (cs := #[.slice A0_0 l0_0.length c0_0, .int .i64 a0_1, .int .i64 a0_2, .int .u8 a0_3, .int .u8 a0_4, .bool a0_5]) (t := 26) ?hr ?_; (case hd => rfl); (case hg => rfl); (case hr => first | (go_simp; done) | (go_simp; rfl)); intro gb182 hg w82 hbox hb; have n0_ := Aside0.mk (below_step (by repeat (first | (with_reducible first | exact HB.out | apply below_alloc | apply pw_below_drewN | apply below_drew1) | exact HB.out)) hb); have n1_ := Aside0.mk (hbox); have n2_ := Aside0.mk ((by rw [hg]; exact (below_size (by repeat (first | (with_reducible first | exact HB.out | apply below_alloc | apply pw_below_drewN | apply below_drew1) | exact HB.out))) : w.heap.size ≤ gb182)); have n3_ := Aside0.mk ((by rw [hg]; exact (below_size (by repeat (first | (with_reducible first | exact HB.out | apply below_alloc | apply pw_below_drewN | apply below_drew1) | exact HB.out))) : w.heap.size ≤ gb182)); clear HB; have HB := n0_; have BK182 := n1_; have GW182 := n2_; have GE182 := n3_; clear n0_ n1_ n2_ n3_; clear hb hbox hg) | (go_at_call 9; (with_reducible refine (quoinlaw09_awake.calls k  false _ A2.out).mono ?_); rintro e w83 ⟨rfl, hb⟩; have n0_ := Aside0.mk (blk_below (g := gb182) (o := .cells #[.slice A0_0 l0_0.length c0_0, .int .i64 a0_1, .int .i64 a0_2, .int .u8 a0_3, .int .u8 a0_4, .bool a0_5] 26 (0, 0)) (by (with_reducible repeat (first | refine blk_drewN ?_ _ | refine blk_drew ?_ | refine blk_alloc ?_ _)); exact BK182.out) hb); have n1_ := Aside0.mk (below_step (by repeat (first | (with_reducible first | exact HB.out | apply below_alloc | apply pw_below_drewN | apply below_drew1 | refine below_set ?_ GE182.out) | exact HB.out)) hb); clear BK182; clear HB; have BK182 := n0_; have HB := n1_; clear n0_ n1_; (try clear hb); (try clear hb2); (try clear hk); (try clear hi))))
    go_ret
    exact ⟨by first | rfl | (simp [errW_none, errW_some] <;> rfl) | (simp [*, errW_none, errW_some] <;> rfl), by repeat (first | (with_reducible first | exact HB.out | apply below_alloc | apply pw_below_drewN | apply below_drew1 | refine below_set ?_ GE182.out) | exact HB.out)⟩

end Go.Proofs.Ytdeohajlijalkaa.X
