/-
  Texts of one proof in one file (wip/some.py): X47, X48, X49, X50.
  Conditions: none.
-/
import Derived.Test.YtdhdngoeaneanaaDoorX0
section
-- Written by wip/xprint.py over the kit's print.py: the Lean function of each Go function, and the proof that the Go text comes to it.
namespace Go.Proofs.YtdhdngoeaneanaaDoor.X
open Go.RowKit Go.Proofs.YtdhdngoeaneanaaDoorW.PrintWords Go.Proofs.YtdhdngoeaneanaaDoorW.PrintLast Go.Proofs.YtdhdngoeaneanaaDoorW.PrintMore
attribute [local go_sem] max2_int min2_int max_two min_two max_three min_three max_four min_four   -- for this text's walks alone
set_option linter.unusedVariables false
set_option linter.unusedSimpArgs false

/-! ### quoinref23_number: function 22 -/
mutual
def quoinref23_number.l0 : Nat → List Int → Int → Int → Option (Int × Int × Bool)
  | 0, _, _, _ => none
  | k + 1, x0, x5, x6 => if x6 < (x0.length : Int) then (if 0 ≤ x6 then (if (rd x0 x6) ≥ 48 then (quoinref23_number.j1 k x0 x5 x6 (decide ((rd x0 x6) ≤ 57))) else (quoinref23_number.j1 k x0 x5 x6 false)) else (none)) else (quoinref23_number.j1 k x0 x5 x6 false)
def quoinref23_number.j1 : Nat → List Int → Int → Int → Bool → Option (Int × Int × Bool)
  | 0, _, _, _, _ => none
  | k + 1, x0, x5, x6, x24 => if x24 = true then (if x6 < 9 then (if 0 ≤ x6 then (if x6 < (x0.length : Int) then (quoinref23_number.l0 k x0 (wrap64 ((wrap64 (x5 * 10)) + (((rd x0 x6) - 48) % 256))) (wrap64 (x6 + 1))) else (none)) else (none)) else (quoinref23_number.l0 k x0 x5 (wrap64 (x6 + 1)))) else (some (x5, x6, decide (x6 ≤ 9)))
end
def quoinref23_number.f (k : Nat) (l0 : List Int) : Option (Int × Int × Bool) := quoinref23_number.l0 k l0 0 0
theorem quoinref23_number.mono_l : ∀ k, (∀ y0 y1 y2, LeO (quoinref23_number.l0 k y0 y1 y2) (quoinref23_number.l0 (k + 1) y0 y1 y2)) ∧ (∀ y0 y1 y2 y3, LeO (quoinref23_number.j1 k y0 y1 y2 y3) (quoinref23_number.j1 (k + 1) y0 y1 y2 y3))
  | 0 => ⟨fun _ _ _ r h => by simp [quoinref23_number.l0] at h, fun _ _ _ _ r h => by simp [quoinref23_number.j1] at h⟩
  | k + 1 => by
    obtain ⟨ih0, ih1⟩ := quoinref23_number.mono_l k
    refine ⟨?_, ?_⟩
    · intro y0 y1 y2
      unfold quoinref23_number.l0
      repeat' first
      | (with_reducible exact ih0 _ _ _)
      | (with_reducible exact ih1 _ _ _ _)
      | (with_reducible exact LeO.refl _)
      | (with_reducible exact LeO.none _)
      | (with_reducible refine LeO.ite ?_ ?_)
      | (with_reducible refine LeO.bind ?_ (fun _ => ?_))
      | exact ih0 _ _ _
      | exact ih1 _ _ _ _
      | exact LeO.none _
      | refine LeO.ite ?_ ?_
      | refine LeO.bind ?_ (fun _ => ?_)
    · intro y0 y1 y2 y3
      unfold quoinref23_number.j1
      repeat' first
      | (with_reducible exact ih0 _ _ _)
      | (with_reducible exact ih1 _ _ _ _)
      | (with_reducible exact LeO.refl _)
      | (with_reducible exact LeO.none _)
      | (with_reducible refine LeO.ite ?_ ?_)
      | (with_reducible refine LeO.bind ?_ (fun _ => ?_))
      | exact ih0 _ _ _
      | exact ih1 _ _ _ _
      | exact LeO.none _
      | refine LeO.ite ?_ ?_
      | refine LeO.bind ?_ (fun _ => ?_)
theorem quoinref23_number.mono : ∀ a0 k, LeO (quoinref23_number.f k a0) (quoinref23_number.f (k + 1) a0) := by
  intro a0 k
  obtain ⟨ih0, ih1⟩ := quoinref23_number.mono_l k
  unfold quoinref23_number.f
  repeat' first
      | (with_reducible exact ih0 _ _ _)
      | (with_reducible exact ih1 _ _ _ _)
      | (with_reducible exact LeO.refl _)
      | (with_reducible exact LeO.none _)
      | (with_reducible refine LeO.ite ?_ ?_)
      | (with_reducible refine LeO.bind ?_ (fun _ => ?_))
      | exact ih0 _ _ _
      | exact ih1 _ _ _ _
      | exact LeO.none _
      | refine LeO.ite ?_ ?_
      | refine LeO.bind ?_ (fun _ => ?_)
set_option maxHeartbeats 8000000 in
set_option maxRecDepth 100000 in
theorem quoinref23_number.calls (k : Nat) (A0 : Option Addr) (c0 : Nat) (l0 : List Int) (r1 : Int) (r2 : Int) (r3 : Bool) (w : World) (hr0 : Kd.C (Kd.int .u8) w A0 l0.length l0) (hc0 : l0.length ≤ c0) (h : quoinref23_number.f k l0 = some (r1, r2, r3)) :
    Calls Tryd.prog 22 #[.slice A0 l0.length c0] w fun e w' => e = .returned (.tuple #[.int .i64 r1, .int .i64 r2, .bool r3]) ∧ Drawn0 w w' := by
  have HR0 := Aside0.mk hr0
  have HC0 := Aside0.mk hc0
  clear hr0 hc0
  have H : (quoinref23_number.l0 k l0 0 0) = some (r1, r2, r3) := h
  clear h
  have H' := Aside0.mk H
  clear H
  go_enter Tryd.func22, Tryd.ntmps22
  go_wp2
  go_loopg [5, 6] k (fun kq v5 v6 w' => ∃ (x5_1 : Int) (x6_1 : Int), v5 = .int .i64 x5_1 ∧ v6 = .int .i64 x6_1 ∧ Aside0 (quoinref23_number.l0 kq l0 x5_1 x6_1 = some (r1, r2, r3)) ∧ Aside0 (kq ≤ k) ∧ Drawn0 w w')
  case atStart => exact ⟨(0), (0), (by first | rfl | (simp; done) | (simp [*]; done)), (by first | rfl | (simp; done) | (simp [*]; done)), H', ⟨Nat.le_refl _⟩, by repeat (first | exact Drawn0.refl _ | apply Drawn0.step)⟩
  case round =>
    clear H'
    obtain ⟨x5_1, x6_1, rfl, rfl, HA, HK1, ⟨m1, rfl⟩⟩ := hrel
    cases gk with
    | zero => exact absurd HA.out (by simp [quoinref23_number.l0])
    | succ k1 =>
      have H := HA.out
      clear HA
      simp only [quoinref23_number.l0] at H
      have HC2 := Aside0.mk H
      clear H
      go_upto_region 2 with (fail)
      go_cut [24] (fun v24 wc => ∃ (kq : Nat) (x24_1 : Bool), v24 = .bool x24_1 ∧ Aside0 (quoinref23_number.j1 kq l0 x5_1 x6_1 x24_1 = some (r1, r2, r3)) ∧ Aside0 (kq ≤ k1) ∧ Drawn0 w wc)
      case first =>
        have H := HC2.out
        clear HC2
        by_cases c3 : x6_1 < (l0.length : Int)
        · rw [if_pos c3] at H
          have c3b0 : decide (x6_1 < (l0.length : Int)) = true := decide_eq_true c3
          clear c3
          (first | rw [c3b0] | (simp only [i64_w, i32_w]; rw [c3b0]) | skip)
          by_cases c4 : 0 ≤ x6_1
          · rw [if_pos c4] at H
            have c4b0 : decide (0 ≤ x6_1) = true := decide_eq_true c4
            clear c4
            by_cases c5 : (rd l0 x6_1) ≥ 48
            · rw [if_pos c5] at H
              have c5b0 : decide (48 ≤ (rd l0 x6_1)) = true := decide_eq_true c5
              clear c5
              have H' := Aside0.mk H
              clear H
              have p214 : 0 ≤ (x6_1 : Int) := of_decide_eq_true (by first | (with_reducible assumption) | assumption)
              have q214 : x6_1 < (l0.length : Int) := of_decide_eq_true (by first | (with_reducible assumption) | assumption)
              obtain ⟨ad214, e214, hx214_0⟩ := Kd.at_int HR0.out x6_1 p214 q214
              cases e214
              replace p214 := eq_true p214
              replace q214 := eq_true q214
              have p215 : 0 ≤ (x6_1 : Int) := of_decide_eq_true (by first | (with_reducible assumption) | assumption)
              have q215 : x6_1 < (l0.length : Int) := of_decide_eq_true (by first | (with_reducible assumption) | assumption)
              obtain ⟨ad215, e215, hx215_0⟩ := Kd.at_int HR0.out x6_1 p215 q215
              obtain rfl : ad214 = ad215 := (by injection e215)
              replace p215 := eq_true p215
              replace q215 := eq_true q215
              go_wp2
              go_meet
              case rel => exact ⟨_, (decide ((rd l0 x6_1) ≤ 57)), (by first | rfl | (simp; done) | (simp [*]; done)), H', ⟨by have := HK1.out; first | omega | exact Nat.le_refl _⟩, by repeat (first | exact Drawn0.refl _ | apply Drawn0.step)⟩
            · rw [if_neg c5] at H
              have c5b0 : decide (48 ≤ (rd l0 x6_1)) = false := decide_eq_false c5
              clear c5
              have H' := Aside0.mk H
              clear H
              have p214 : 0 ≤ (x6_1 : Int) := of_decide_eq_true (by first | (with_reducible assumption) | assumption)
              have q214 : x6_1 < (l0.length : Int) := of_decide_eq_true (by first | (with_reducible assumption) | assumption)
              obtain ⟨ad214, e214, hx214_0⟩ := Kd.at_int HR0.out x6_1 p214 q214
              cases e214
              replace p214 := eq_true p214
              replace q214 := eq_true q214
              go_wp2
              go_meet
              case rel => exact ⟨_, (false), (by first | rfl | (simp; done) | (simp [*]; done)), H', ⟨by have := HK1.out; first | omega | exact Nat.le_refl _⟩, by repeat (first | exact Drawn0.refl _ | apply Drawn0.step)⟩
          · rw [if_neg c4] at H
            exact absurd H (by simp)
        · rw [if_neg c3] at H
          have c3b0 : decide (x6_1 < (l0.length : Int)) = false := decide_eq_false c3
          clear c3
          (first | rw [c3b0] | (simp only [i64_w, i32_w]; rw [c3b0]) | skip)
          have H' := Aside0.mk H
          clear H
          go_wp2
          go_meet
          case rel => exact ⟨_, (false), (by first | rfl | (simp; done) | (simp [*]; done)), H', ⟨by have := HK1.out; first | omega | exact Nat.le_refl _⟩, by repeat (first | exact Drawn0.refl _ | apply Drawn0.step)⟩
      case rest =>
        clear HC2
        try clear c2
        try clear p2
        try clear q2
        try clear hx2
        try clear c3
        try clear c3b0
        try clear c4
        try clear c4b0
        try clear c5
        try clear c5b0
        try clear hx214_0
        try clear hx215_0
        try clear p214
        try clear p215
        try clear q214
        try clear q215
        obtain ⟨kq, x24_1, rfl, HA, HJ1, ⟨mc1, rfl⟩⟩ := hcut
        cases kq with
        | zero => exact absurd HA.out (by simp [quoinref23_number.j1])
        | succ kj1 =>
          have H := HA.out
          clear HA
          simp only [quoinref23_number.j1] at H
          by_cases c6 : x24_1 = true
          · subst c6
            have H1 : (if x6_1 < 9 then (if 0 ≤ x6_1 then (if x6_1 < (l0.length : Int) then (quoinref23_number.l0 kj1 l0 (wrap64 ((wrap64 (x5_1 * 10)) + (((rd l0 x6_1) - 48) % 256))) (wrap64 (x6_1 + 1))) else (none)) else (none)) else (quoinref23_number.l0 kj1 l0 x5_1 (wrap64 (x6_1 + 1)))) = some (r1, r2, r3) := by rw [if_pos rfl] at H; exact H
            clear H
            have H := H1
            clear H1
            by_cases c7 : x6_1 < 9
            · rw [if_pos c7] at H
              have c7b0 : decide (x6_1 < 9) = true := decide_eq_true c7
              clear c7
              by_cases c8 : 0 ≤ x6_1
              · rw [if_pos c8] at H
                have c8b0 : decide (0 ≤ x6_1) = true := decide_eq_true c8
                clear c8
                by_cases c9 : x6_1 < (l0.length : Int)
                · rw [if_pos c9] at H
                  have c9b0 : decide (x6_1 < (l0.length : Int)) = true := decide_eq_true c9
                  clear c9
                  have H' := Aside0.mk H
                  clear H
                  have p216 : 0 ≤ (x6_1 : Int) := of_decide_eq_true (by first | (with_reducible assumption) | assumption)
                  have q216 : x6_1 < (l0.length : Int) := of_decide_eq_true (by first | (with_reducible assumption) | assumption)
                  obtain ⟨ad216, e216, hx216_0⟩ := Kd.at_int HR0.out x6_1 p216 q216
                  cases e216
                  replace p216 := eq_true p216
                  replace q216 := eq_true q216
                  go_wp2
                  go_roundg kj1
                  case measure => have := HK1.out; have := HJ1.out; omega
                  case rel => exact ⟨(wrap64 ((wrap64 (x5_1 * 10)) + (((rd l0 x6_1) - 48) % 256))), (wrap64 (x6_1 + 1)), (by first | rfl | (simp; done) | (simp [*]; done)), (by first | rfl | (simp; done) | (simp [*]; done)), H', ⟨by have := HK1.out; have := HJ1.out; omega⟩, by repeat (first | exact Drawn0.refl _ | apply Drawn0.step)⟩
                · rw [if_neg c9] at H
                  exact absurd H (by simp)
              · rw [if_neg c8] at H
                exact absurd H (by simp)
            · rw [if_neg c7] at H
              have c7b0 : decide (x6_1 < 9) = false := decide_eq_false c7
              clear c7
              have H' := Aside0.mk H
              clear H
              go_wp2
              go_roundg kj1
              case measure => have := HK1.out; have := HJ1.out; omega
              case rel => exact ⟨(x5_1), (wrap64 (x6_1 + 1)), (by first | rfl | (simp; done) | (simp [*]; done)), (by first | rfl | (simp; done) | (simp [*]; done)), H', ⟨by have := HK1.out; have := HJ1.out; omega⟩, by repeat (first | exact Drawn0.refl _ | apply Drawn0.step)⟩
          · replace c6 := Bool.eq_false_iff.mpr c6
            subst c6
            have H1 : (some (x5_1, x6_1, decide (x6_1 ≤ 9))) = some (r1, r2, r3) := by rw [if_neg (show ¬ (false = true) by decide)] at H; exact H
            clear H
            have H := H1
            clear H1
            simp only [Option.some.injEq, Prod.mk.injEq] at H
            obtain ⟨rfl, rfl, rfl⟩ := H
            go_wp2
            go_ret3
            exact ⟨by first | rfl | (simp; done) | (simp [*]; done), by repeat (first | exact Drawn0.refl _ | apply Drawn0.step)⟩

end Go.Proofs.YtdhdngoeaneanaaDoor.X
end
section
-- Written by wip/xprint.py over the kit's print.py: the Lean function of each Go function, and the proof that the Go text comes to it.
namespace Go.Proofs.YtdhdngoeaneanaaDoor.X
open Go.RowKit Go.Proofs.YtdhdngoeaneanaaDoorW.PrintWords Go.Proofs.YtdhdngoeaneanaaDoorW.PrintLast Go.Proofs.YtdhdngoeaneanaaDoorW.PrintMore
attribute [local go_sem] max2_int min2_int max_two min_two max_three min_three max_four min_four   -- for this text's walks alone
set_option linter.unusedVariables false
set_option linter.unusedSimpArgs false

/-! ### quoinref23_sought: function 23 -/
mutual
def quoinref23_sought.l0 : Nat → List Int → Int → Int → Option (List Int × Int)
  | 0, _, _, _ => none
  | k + 1, x0, x1, x6 => if x6 < (x0.length : Int) then (if 0 ≤ x6 then (quoinref23_sought.j1 k x0 x1 x6 ((rd x0 x6) != x1)) else (none)) else (quoinref23_sought.j1 k x0 x1 x6 false)
def quoinref23_sought.j1 : Nat → List Int → Int → Int → Bool → Option (List Int × Int)
  | 0, _, _, _, _ => none
  | k + 1, x0, x1, x6, x19 => if x19 = true then (if 0 ≤ x6 then (if x6 < (x0.length : Int) then (if (rd x0 x6) = 92 then (if (wrap64 (x6 + 1)) < (x0.length : Int) then (quoinref23_sought.l0 k x0 x1 (wrap64 ((wrap64 (x6 + 1)) + 1))) else (quoinref23_sought.l0 k x0 x1 (wrap64 (x6 + 1)))) else (quoinref23_sought.l0 k x0 x1 (wrap64 (x6 + 1)))) else (none)) else (none)) else ((some (([] : List Int) : List Int)).bind fun y219 => (if 0 ≤ x6 then (if x6 ≤ (x0.length : Int) then (if y219.length + (x0.take (x6 : Int).toNat).length < 140737488355328 then ((some (y219 ++ (x0.take (x6 : Int).toNat) : List Int)).bind fun y223 => (if x6 < (x0.length : Int) then (some (y223, wrap64 (x6 + 1))) else (some (y223, x6)))) else (none)) else (none)) else (none)))
end
def quoinref23_sought.f (k : Nat) (l0 : List Int) (a1 : Int) : Option (List Int × Int) := quoinref23_sought.l0 k l0 a1 0
theorem quoinref23_sought.mono_l : ∀ k, (∀ y0 y1 y2, LeO (quoinref23_sought.l0 k y0 y1 y2) (quoinref23_sought.l0 (k + 1) y0 y1 y2)) ∧ (∀ y0 y1 y2 y3, LeO (quoinref23_sought.j1 k y0 y1 y2 y3) (quoinref23_sought.j1 (k + 1) y0 y1 y2 y3))
  | 0 => ⟨fun _ _ _ r h => by simp [quoinref23_sought.l0] at h, fun _ _ _ _ r h => by simp [quoinref23_sought.j1] at h⟩
  | k + 1 => by
    obtain ⟨ih0, ih1⟩ := quoinref23_sought.mono_l k
    refine ⟨?_, ?_⟩
    · intro y0 y1 y2
      unfold quoinref23_sought.l0
      repeat' first
      | (with_reducible exact ih0 _ _ _)
      | (with_reducible exact ih1 _ _ _ _)
      | (with_reducible exact LeO.refl _)
      | (with_reducible exact LeO.none _)
      | (with_reducible refine LeO.ite ?_ ?_)
      | (with_reducible refine LeO.bind ?_ (fun _ => ?_))
      | exact ih0 _ _ _
      | exact ih1 _ _ _ _
      | exact LeO.none _
      | refine LeO.ite ?_ ?_
      | refine LeO.bind ?_ (fun _ => ?_)
    · intro y0 y1 y2 y3
      unfold quoinref23_sought.j1
      repeat' first
      | (with_reducible exact ih0 _ _ _)
      | (with_reducible exact ih1 _ _ _ _)
      | (with_reducible exact LeO.refl _)
      | (with_reducible exact LeO.none _)
      | (with_reducible refine LeO.ite ?_ ?_)
      | (with_reducible refine LeO.bind ?_ (fun _ => ?_))
      | exact ih0 _ _ _
      | exact ih1 _ _ _ _
      | exact LeO.none _
      | refine LeO.ite ?_ ?_
      | refine LeO.bind ?_ (fun _ => ?_)
theorem quoinref23_sought.mono : ∀ a0 a1 k, LeO (quoinref23_sought.f k a0 a1) (quoinref23_sought.f (k + 1) a0 a1) := by
  intro a0 a1 k
  obtain ⟨ih0, ih1⟩ := quoinref23_sought.mono_l k
  unfold quoinref23_sought.f
  repeat' first
      | (with_reducible exact ih0 _ _ _)
      | (with_reducible exact ih1 _ _ _ _)
      | (with_reducible exact LeO.refl _)
      | (with_reducible exact LeO.none _)
      | (with_reducible refine LeO.ite ?_ ?_)
      | (with_reducible refine LeO.bind ?_ (fun _ => ?_))
      | exact ih0 _ _ _
      | exact ih1 _ _ _ _
      | exact LeO.none _
      | refine LeO.ite ?_ ?_
      | refine LeO.bind ?_ (fun _ => ?_)
set_option maxHeartbeats 8000000 in
set_option maxRecDepth 100000 in
theorem quoinref23_sought.calls (k : Nat) (A0 : Option Addr) (c0 : Nat) (l0 : List Int) (a1 : Int) (r1 : List Int) (r2 : Int) (w : World) (hr0 : Kd.C (Kd.int .u8) w A0 l0.length l0) (hc0 : l0.length ≤ c0) (h : quoinref23_sought.f k l0 a1 = some (r1, r2)) :
    Calls Tryd.prog 23 #[.slice A0 l0.length c0, .int .u8 a1] w fun e w' => ∃ v0_ : Value, e = .returned (.tuple #[v0_, .int .i64 r2]) ∧ Kd.R (Kd.int .u8) 5 w' w.heap.size (fun _ => True) v0_ r1 ∧ Below w.heap.size w w' := by
  have HR0 := Aside0.mk hr0
  have HC0 := Aside0.mk hc0
  clear hr0 hc0
  have HB := Aside0.mk (Below.refl w.heap.size w)
  have H : (quoinref23_sought.l0 k l0 a1 0) = some (r1, r2) := h
  clear h
  have H' := Aside0.mk H
  clear H
  go_enter Tryd.func23, Tryd.ntmps23
  go_wp2
  go_loopg [6] k (fun kq v6 w' => ∃ (x6_1 : Int), v6 = .int .i64 x6_1 ∧ Aside0 (quoinref23_sought.l0 kq l0 a1 x6_1 = some (r1, r2)) ∧ Aside0 (kq ≤ k) ∧ Aside0 (Below w.heap.size w w'))
  case atStart => exact ⟨(0), (by first | rfl | (simp; done) | (simp [*]; done)), H', ⟨Nat.le_refl _⟩, ⟨by repeat (first | (with_reducible first | exact HB.out | apply below_alloc | apply pw_below_drewN | apply below_drew1) | exact HB.out)⟩⟩
  case round =>
    clear H'
    try clear c2
    try clear p2
    obtain ⟨x6_1, rfl, HA, HK1, HB⟩ := hrel
    cases gk with
    | zero => exact absurd HA.out (by simp [quoinref23_sought.l0])
    | succ k1 =>
      have H := HA.out
      clear HA
      simp only [quoinref23_sought.l0] at H
      have HC3 := Aside0.mk H
      clear H
      go_upto_region 2 with (fail)
      go_cut [19] (fun v19 wc => ∃ (kq : Nat) (x19_2 : Bool), v19 = .bool x19_2 ∧ Aside0 (quoinref23_sought.j1 kq l0 a1 x6_1 x19_2 = some (r1, r2)) ∧ Aside0 (kq ≤ k1) ∧ Aside0 (Below w.heap.size w wc))
      case first =>
        have H := HC3.out
        clear HC3
        by_cases c4 : x6_1 < (l0.length : Int)
        · rw [if_pos c4] at H
          have c4b0 : decide (x6_1 < (l0.length : Int)) = true := decide_eq_true c4
          clear c4
          (first | rw [c4b0] | (simp only [i64_w, i32_w]; rw [c4b0]) | skip)
          by_cases c5 : 0 ≤ x6_1
          · rw [if_pos c5] at H
            have c5b0 : decide (0 ≤ x6_1) = true := decide_eq_true c5
            clear c5
            have H' := Aside0.mk H
            clear H
            have p217 : 0 ≤ (x6_1 : Int) := of_decide_eq_true (by first | (with_reducible assumption) | assumption)
            have q217 : x6_1 < (l0.length : Int) := of_decide_eq_true (by first | (with_reducible assumption) | assumption)
            obtain ⟨ad217, e217, hx217_0⟩ := Kd.at_int HR0.out x6_1 p217 q217
            cases e217
            replace hx217_0 := (HB.out.cell (World.block_lt_of_cell? w _ hx217_0)).trans hx217_0
            replace p217 := eq_true p217
            replace q217 := eq_true q217
            go_wp2
            go_meet
            case rel => exact ⟨_, (((rd l0 x6_1) != a1)), (by first | rfl | (simp; done) | (simp [*]; done)), H', ⟨by have := HK1.out; first | omega | exact Nat.le_refl _⟩, ⟨by repeat (first | (with_reducible first | exact HB.out | apply below_alloc | apply pw_below_drewN | apply below_drew1) | exact HB.out)⟩⟩
          · rw [if_neg c5] at H
            exact absurd H (by simp)
        · rw [if_neg c4] at H
          have c4b0 : decide (x6_1 < (l0.length : Int)) = false := decide_eq_false c4
          clear c4
          (first | rw [c4b0] | (simp only [i64_w, i32_w]; rw [c4b0]) | skip)
          have H' := Aside0.mk H
          clear H
          go_wp2
          go_meet
          case rel => exact ⟨_, (false), (by first | rfl | (simp; done) | (simp [*]; done)), H', ⟨by have := HK1.out; first | omega | exact Nat.le_refl _⟩, ⟨by repeat (first | (with_reducible first | exact HB.out | apply below_alloc | apply pw_below_drewN | apply below_drew1) | exact HB.out)⟩⟩
      case rest =>
        clear HC3
        try clear c2
        try clear p2
        try clear q2
        try clear hx2
        try clear c4
        try clear c4b0
        try clear c5
        try clear c5b0
        try clear hx217_0
        try clear p2
        try clear p217
        try clear q217
        obtain ⟨kq, x19_2, rfl, HA, HJ2, HB⟩ := hcut
        cases kq with
        | zero => exact absurd HA.out (by simp [quoinref23_sought.j1])
        | succ kj2 =>
          have H := HA.out
          clear HA
          simp only [quoinref23_sought.j1] at H
          by_cases c6 : x19_2 = true
          · subst c6
            have H1 : (if 0 ≤ x6_1 then (if x6_1 < (l0.length : Int) then (if (rd l0 x6_1) = 92 then (if (wrap64 (x6_1 + 1)) < (l0.length : Int) then (quoinref23_sought.l0 kj2 l0 a1 (wrap64 ((wrap64 (x6_1 + 1)) + 1))) else (quoinref23_sought.l0 kj2 l0 a1 (wrap64 (x6_1 + 1)))) else (quoinref23_sought.l0 kj2 l0 a1 (wrap64 (x6_1 + 1)))) else (none)) else (none)) = some (r1, r2) := by rw [if_pos rfl] at H; exact H
            clear H
            have H := H1
            clear H1
            by_cases c7 : 0 ≤ x6_1
            · rw [if_pos c7] at H
              have c7b0 : decide (0 ≤ x6_1) = true := decide_eq_true c7
              clear c7
              by_cases c8 : x6_1 < (l0.length : Int)
              · rw [if_pos c8] at H
                have c8b0 : decide (x6_1 < (l0.length : Int)) = true := decide_eq_true c8
                clear c8
                by_cases c9 : (rd l0 x6_1) = 92
                · rw [if_pos c9] at H
                  have c9b0 : ((rd l0 x6_1) == 92) = true := beq_iff_eq.mpr c9
                  have c9b1 : ((rd l0 x6_1) != 92) = false := bne_eq_false_iff_eq.mpr c9
                  clear c9
                  by_cases c10 : (wrap64 (x6_1 + 1)) < (l0.length : Int)
                  · rw [if_pos c10] at H
                    have c10b0 : decide ((wrap64 (x6_1 + 1)) < (l0.length : Int)) = true := decide_eq_true c10
                    clear c10
                    have H' := Aside0.mk H
                    clear H
                    have p218 : 0 ≤ (x6_1 : Int) := of_decide_eq_true (by first | (with_reducible assumption) | assumption)
                    have q218 : x6_1 < (l0.length : Int) := of_decide_eq_true (by first | (with_reducible assumption) | assumption)
                    obtain ⟨ad218, e218, hx218_0⟩ := Kd.at_int HR0.out x6_1 p218 q218
                    cases e218
                    replace hx218_0 := (HB.out.cell (World.block_lt_of_cell? w _ hx218_0)).trans hx218_0
                    replace p218 := eq_true p218
                    replace q218 := eq_true q218
                    go_wp2
                    go_roundg kj2
                    case measure => have := HK1.out; have := HJ2.out; omega
                    case rel => exact ⟨(wrap64 ((wrap64 (x6_1 + 1)) + 1)), (by first | rfl | (simp; done) | (simp [*]; done)), H', ⟨by have := HK1.out; have := HJ2.out; omega⟩, ⟨by repeat (first | (with_reducible first | exact HB.out | apply below_alloc | apply pw_below_drewN | apply below_drew1) | exact HB.out)⟩⟩
                  · rw [if_neg c10] at H
                    have c10b0 : decide ((wrap64 (x6_1 + 1)) < (l0.length : Int)) = false := decide_eq_false c10
                    clear c10
                    have H' := Aside0.mk H
                    clear H
                    have p218 : 0 ≤ (x6_1 : Int) := of_decide_eq_true (by first | (with_reducible assumption) | assumption)
                    have q218 : x6_1 < (l0.length : Int) := of_decide_eq_true (by first | (with_reducible assumption) | assumption)
                    obtain ⟨ad218, e218, hx218_0⟩ := Kd.at_int HR0.out x6_1 p218 q218
                    cases e218
                    replace hx218_0 := (HB.out.cell (World.block_lt_of_cell? w _ hx218_0)).trans hx218_0
                    replace p218 := eq_true p218
                    replace q218 := eq_true q218
                    go_wp2
                    go_roundg kj2
                    case measure => have := HK1.out; have := HJ2.out; omega
                    case rel => exact ⟨(wrap64 (x6_1 + 1)), (by first | rfl | (simp; done) | (simp [*]; done)), H', ⟨by have := HK1.out; have := HJ2.out; omega⟩, ⟨by repeat (first | (with_reducible first | exact HB.out | apply below_alloc | apply pw_below_drewN | apply below_drew1) | exact HB.out)⟩⟩
                · rw [if_neg c9] at H
                  have c9b0 : ((rd l0 x6_1) == 92) = false := beq_eq_false_iff_ne.mpr c9
                  have c9b1 : ((rd l0 x6_1) != 92) = true := bne_iff_ne.mpr c9
                  have H' := Aside0.mk H
                  clear H
                  have p218 : 0 ≤ (x6_1 : Int) := of_decide_eq_true (by first | (with_reducible assumption) | assumption)
                  have q218 : x6_1 < (l0.length : Int) := of_decide_eq_true (by first | (with_reducible assumption) | assumption)
                  obtain ⟨ad218, e218, hx218_0⟩ := Kd.at_int HR0.out x6_1 p218 q218
                  cases e218
                  replace hx218_0 := (HB.out.cell (World.block_lt_of_cell? w _ hx218_0)).trans hx218_0
                  replace p218 := eq_true p218
                  replace q218 := eq_true q218
                  go_wp2
                  go_roundg kj2
                  case measure => have := HK1.out; have := HJ2.out; omega
                  case rel => exact ⟨(wrap64 (x6_1 + 1)), (by first | rfl | (simp; done) | (simp [*]; done)), H', ⟨by have := HK1.out; have := HJ2.out; omega⟩, ⟨by repeat (first | (with_reducible first | exact HB.out | apply below_alloc | apply pw_below_drewN | apply below_drew1) | exact HB.out)⟩⟩
              · rw [if_neg c8] at H
                exact absurd H (by simp)
            · rw [if_neg c7] at H
              exact absurd H (by simp)
          · replace c6 := Bool.eq_false_iff.mpr c6
            subst c6
            have H1 : ((some (([] : List Int) : List Int)).bind fun y219 => (if 0 ≤ x6_1 then (if x6_1 ≤ (l0.length : Int) then (if y219.length + (l0.take (x6_1 : Int).toNat).length < 140737488355328 then ((some (y219 ++ (l0.take (x6_1 : Int).toNat) : List Int)).bind fun y223 => (if x6_1 < (l0.length : Int) then (some (y223, wrap64 (x6_1 + 1))) else (some (y223, x6_1)))) else (none)) else (none)) else (none))) = some (r1, r2) := by rw [if_neg (show ¬ (false = true) by decide)] at H; exact H
            clear H
            have H := H1
            clear H1
            obtain ⟨y219, hy219⟩ : ∃ y_ : List Int, y_ = (([] : List Int)) := ⟨_, rfl⟩
            replace H : (if 0 ≤ x6_1 then (if x6_1 ≤ (l0.length : Int) then (if y219.length + (l0.take (x6_1 : Int).toNat).length < 140737488355328 then ((some (y219 ++ (l0.take (x6_1 : Int).toNat) : List Int)).bind fun y223 => (if x6_1 < (l0.length : Int) then (some (y223, wrap64 (x6_1 + 1))) else (some (y223, x6_1)))) else (none)) else (none)) else (none)) = some (r1, r2) := by first | (rw [hy219]; with_reducible exact H) | (have H2_ := (Option.bind_some _ _).symm.trans H; rw [hy219]; with_reducible exact H2_) | (have H2_ := (Option.bind_some _ _).symm.trans H; with_reducible exact H2_) | with_reducible exact H | (rw [hy219]; exact H) | exact H
            have Ny219 := Aside0.mk hy219
            clear hy219
            by_cases c11 : 0 ≤ x6_1
            · rw [if_pos c11] at H
              have c11b0 := eq_true c11
              have c11b1 : decide (0 ≤ x6_1) = true := decide_eq_true c11
              clear c11
              by_cases c12 : x6_1 ≤ (l0.length : Int)
              · rw [if_pos c12] at H
                have c12b0 := eq_true c12
                have c12b1 : decide (x6_1 ≤ (l0.length : Int)) = true := decide_eq_true c12
                clear c12
                by_cases c13 : y219.length + (l0.take (x6_1 : Int).toNat).length < 140737488355328
                · rw [if_pos c13] at H
                  have LMc13 := Aside0.mk c13
                  clear c13
                  obtain ⟨y223, hy223⟩ : ∃ y_ : List Int, y_ = (y219 ++ (l0.take (x6_1 : Int).toNat)) := ⟨_, rfl⟩
                  replace H : (if x6_1 < (l0.length : Int) then (some (y223, wrap64 (x6_1 + 1))) else (some (y223, x6_1))) = some (r1, r2) := by first | (rw [hy223]; with_reducible exact H) | (have H2_ := (Option.bind_some _ _).symm.trans H; rw [hy223]; with_reducible exact H2_) | (have H2_ := (Option.bind_some _ _).symm.trans H; with_reducible exact H2_) | with_reducible exact H | (rw [hy223]; exact H) | exact H
                  have Ny223 := Aside0.mk hy223
                  clear hy223
                  by_cases c14 : x6_1 < (l0.length : Int)
                  · rw [if_pos c14] at H
                    have c14b0 : decide (x6_1 < (l0.length : Int)) = true := decide_eq_true c14
                    clear c14
                    simp only [Option.some.injEq, Prod.mk.injEq] at H
                    obtain ⟨rfl, rfl⟩ := H
                    go_wp2_with (first | ((with_reducible refine gate_dst (N := 36) rfl ?_); (try (refine gate_guard (by rfl) ?_; dsimp only)); refine Kd.R_lit (Kd.int .u8) _ 5 ?hg (N := 36) ?hd (xs := ([] : List Int)) (inner := []) (ok := fun _ => True) (okp := fun _ => True) ?hr ?hp (fun _ hk => hk) trivial (Below.refl _ _) (Nat.le_refl _) (by simp) ?_; (case hd => rfl); (case hg => rfl); (case hr => first | (go_simp; done) | (go_simp; rfl)); (case hp => exact (Reps.none _ _)); intro v220 w15 ho16 hb hg_ hnew_; clear hg_ hnew_; (first | rw [← Ny219.out] at ho16 | (simp only [Int.reduceToNat] at ho16; rw [← Ny219.out] at ho16)); have n0_ := Aside0.mk (Kd.R_lower ho16 (below_size (by repeat (first | (with_reducible first | exact HB.out | apply below_alloc | apply pw_below_drewN | apply below_drew1) | exact HB.out)))); have n1_ := Aside0.mk (below_step (by repeat (first | (with_reducible first | exact HB.out | apply below_alloc | apply pw_below_drewN | apply below_drew1) | exact HB.out)) hb); clear HB; have HO221 := n0_; have HB := n1_; clear n0_ n1_; clear hb ho16; obtain ⟨i017, hi017, _, hsz17, _⟩ := info_parts info5; obtain ⟨hcut17, hA17, hC17⟩ := print_take_of (P := Tryd.prog) (Value.int .u8) 0 22 5 .i64 Tryd.underlying22 hi017 hsz17 A0 c0 l0 x6_1 (of_decide_eq_true (by first | (with_reducible assumption) | assumption)) (of_decide_eq_true (by first | (with_reducible assumption) | assumption)) HC0.out; have HR222 := Aside0.mk (Kd.C_of_reads (h1 := fun _ => rfl) (hA17 _ (Kd.reads_of_C HR0.out))); have HC222 := Aside0.mk hC17; clear hA17 hC17 hi017 hsz17) | ((with_reducible refine gate_builtin (b := .append) (xs := #[.tmp 36, .tmp 39]) rfl ?_); (try (refine gate_guard (by rfl) ?_; dsimp only)); at_builtin; refine Kd.R_append_rows (Kd.int .u8) (w0 := w) w.heap.size rfl (.tmp 36) (.tmp 39) 22 5 (.int .u8 0) 1 rfl Tryd.underlying22 info5 rfl (by decide) (by omega) v220 y219 (l0.take (x6_1 : Int).toNat) _ _ _ (fun _ => True) (fun _ => False) rfl rfl ?aO ?aR (fun _ _ h => h) (fun _ h => h.elim) ?aF ?aB ?aS ?aL ?_; (case aR => first | (have h_ := (Kd.C_below HR222.out HB.out); rw [show (l0.take (x6_1 : Int).toNat).length = x6_1.toNat from (by rw [List.length_take]; have h_ : (x6_1 : Int) ≤ (l0.length : Int) := of_decide_eq_true (by first | (with_reducible assumption) | assumption); omega)] at h_; exact h_) | (rw [← show (l0.take (x6_1 : Int).toNat).length = x6_1.toNat from (by rw [List.length_take]; have h_ : (x6_1 : Int) ≤ (l0.length : Int) := of_decide_eq_true (by first | (with_reducible assumption) | assumption); omega)]; repeat (first | exact (Kd.C_below HR222.out HB.out) | (with_reducible refine Kd.C_alloc ?_ _) | (with_reducible refine Kd.C_drewN ?_ _) | (with_reducible refine Kd.C_drew ?_))) | (repeat (first | exact (Kd.C_below HR222.out HB.out) | (with_reducible refine Kd.C_alloc ?_ _) | (with_reducible refine Kd.C_drewN ?_ _) | (with_reducible refine Kd.C_drew ?_)))); (case aB => exact (by repeat (first | (with_reducible first | exact HB.out | apply below_alloc | apply pw_below_drewN | apply below_drew1) | exact HB.out))); (case aF => exact (fun _ _ => trivial)); (case aO => exact (by (with_reducible repeat (first | apply Kd.R_alloc | apply Kd.R_drewN | apply Kd.R_drew)); exact HO221.out)); (case aS => exact (below_size (by repeat (first | (with_reducible first | exact HB.out | apply below_alloc | apply pw_below_drewN | apply below_drew1) | exact HB.out)))); (case aL => have := LMc13.out; have hlx_ := (show (l0.take (x6_1 : Int).toNat).length = x6_1.toNat from (by rw [List.length_take]; have h_ : (x6_1 : Int) ≤ (l0.length : Int) := of_decide_eq_true (by first | (with_reducible assumption) | assumption); omega)); omega); intro v224 w18 ho hb hg hat; rw [← Ny223.out] at ho; have n0_ := Aside0.mk (hb); have n1_ := Aside0.mk (ho); clear HB; clear HO221; have HB := n0_; have HO225 := n1_; clear n0_ n1_; clear ho hb hg hat))
                    go_ret2
                    exact ⟨_, by first | rfl | (simp [errW_none, errW_some] <;> rfl) | (simp [*, errW_none, errW_some] <;> rfl), by (with_reducible repeat (first | apply Kd.R_alloc | apply Kd.R_drewN | apply Kd.R_drew)); exact HO225.out, by repeat (first | (with_reducible first | exact HB.out | apply below_alloc | apply pw_below_drewN | apply below_drew1) | exact HB.out)⟩
                  · rw [if_neg c14] at H
                    have c14b0 : decide (x6_1 < (l0.length : Int)) = false := decide_eq_false c14
                    clear c14
                    simp only [Option.some.injEq, Prod.mk.injEq] at H
                    obtain ⟨rfl, rfl⟩ := H
                    go_wp2_with (first | ((with_reducible refine gate_dst (N := 36) rfl ?_); (try (refine gate_guard (by rfl) ?_; dsimp only)); refine Kd.R_lit (Kd.int .u8) _ 5 ?hg (N := 36) ?hd (xs := ([] : List Int)) (inner := []) (ok := fun _ => True) (okp := fun _ => True) ?hr ?hp (fun _ hk => hk) trivial (Below.refl _ _) (Nat.le_refl _) (by simp) ?_; (case hd => rfl); (case hg => rfl); (case hr => first | (go_simp; done) | (go_simp; rfl)); (case hp => exact (Reps.none _ _)); intro v220 w19 ho20 hb hg_ hnew_; clear hg_ hnew_; (first | rw [← Ny219.out] at ho20 | (simp only [Int.reduceToNat] at ho20; rw [← Ny219.out] at ho20)); have n0_ := Aside0.mk (Kd.R_lower ho20 (below_size (by repeat (first | (with_reducible first | exact HB.out | apply below_alloc | apply pw_below_drewN | apply below_drew1) | exact HB.out)))); have n1_ := Aside0.mk (below_step (by repeat (first | (with_reducible first | exact HB.out | apply below_alloc | apply pw_below_drewN | apply below_drew1) | exact HB.out)) hb); clear HB; have HO221 := n0_; have HB := n1_; clear n0_ n1_; clear hb ho20; obtain ⟨i021, hi021, _, hsz21, _⟩ := info_parts info5; obtain ⟨hcut21, hA21, hC21⟩ := print_take_of (P := Tryd.prog) (Value.int .u8) 0 22 5 .i64 Tryd.underlying22 hi021 hsz21 A0 c0 l0 x6_1 (of_decide_eq_true (by first | (with_reducible assumption) | assumption)) (of_decide_eq_true (by first | (with_reducible assumption) | assumption)) HC0.out; have HR222 := Aside0.mk (Kd.C_of_reads (h1 := fun _ => rfl) (hA21 _ (Kd.reads_of_C HR0.out))); have HC222 := Aside0.mk hC21; clear hA21 hC21 hi021 hsz21) | ((with_reducible refine gate_builtin (b := .append) (xs := #[.tmp 36, .tmp 39]) rfl ?_); (try (refine gate_guard (by rfl) ?_; dsimp only)); at_builtin; refine Kd.R_append_rows (Kd.int .u8) (w0 := w) w.heap.size rfl (.tmp 36) (.tmp 39) 22 5 (.int .u8 0) 1 rfl Tryd.underlying22 info5 rfl (by decide) (by omega) v220 y219 (l0.take (x6_1 : Int).toNat) _ _ _ (fun _ => True) (fun _ => False) rfl rfl ?aO ?aR (fun _ _ h => h) (fun _ h => h.elim) ?aF ?aB ?aS ?aL ?_; (case aR => first | (have h_ := (Kd.C_below HR222.out HB.out); rw [show (l0.take (x6_1 : Int).toNat).length = x6_1.toNat from (by rw [List.length_take]; have h_ : (x6_1 : Int) ≤ (l0.length : Int) := of_decide_eq_true (by first | (with_reducible assumption) | assumption); omega)] at h_; exact h_) | (rw [← show (l0.take (x6_1 : Int).toNat).length = x6_1.toNat from (by rw [List.length_take]; have h_ : (x6_1 : Int) ≤ (l0.length : Int) := of_decide_eq_true (by first | (with_reducible assumption) | assumption); omega)]; repeat (first | exact (Kd.C_below HR222.out HB.out) | (with_reducible refine Kd.C_alloc ?_ _) | (with_reducible refine Kd.C_drewN ?_ _) | (with_reducible refine Kd.C_drew ?_))) | (repeat (first | exact (Kd.C_below HR222.out HB.out) | (with_reducible refine Kd.C_alloc ?_ _) | (with_reducible refine Kd.C_drewN ?_ _) | (with_reducible refine Kd.C_drew ?_)))); (case aB => exact (by repeat (first | (with_reducible first | exact HB.out | apply below_alloc | apply pw_below_drewN | apply below_drew1) | exact HB.out))); (case aF => exact (fun _ _ => trivial)); (case aO => exact (by (with_reducible repeat (first | apply Kd.R_alloc | apply Kd.R_drewN | apply Kd.R_drew)); exact HO221.out)); (case aS => exact (below_size (by repeat (first | (with_reducible first | exact HB.out | apply below_alloc | apply pw_below_drewN | apply below_drew1) | exact HB.out)))); (case aL => have := LMc13.out; have hlx_ := (show (l0.take (x6_1 : Int).toNat).length = x6_1.toNat from (by rw [List.length_take]; have h_ : (x6_1 : Int) ≤ (l0.length : Int) := of_decide_eq_true (by first | (with_reducible assumption) | assumption); omega)); omega); intro v224 w22 ho hb hg hat; rw [← Ny223.out] at ho; have n0_ := Aside0.mk (hb); have n1_ := Aside0.mk (ho); clear HB; clear HO221; have HB := n0_; have HO225 := n1_; clear n0_ n1_; clear ho hb hg hat))
                    go_ret2
                    exact ⟨_, by first | rfl | (simp [errW_none, errW_some] <;> rfl) | (simp [*, errW_none, errW_some] <;> rfl), by (with_reducible repeat (first | apply Kd.R_alloc | apply Kd.R_drewN | apply Kd.R_drew)); exact HO225.out, by repeat (first | (with_reducible first | exact HB.out | apply below_alloc | apply pw_below_drewN | apply below_drew1) | exact HB.out)⟩
                · rw [if_neg c13] at H
                  exact absurd H (by simp)
              · rw [if_neg c12] at H
                exact absurd H (by simp)
            · rw [if_neg c11] at H
              exact absurd H (by simp)

end Go.Proofs.YtdhdngoeaneanaaDoor.X
end
section
-- Written by wip/xprint.py over the kit's print.py: the Lean function of each Go function, and the proof that the Go text comes to it.
namespace Go.Proofs.YtdhdngoeaneanaaDoor.X
open Go.RowKit Go.Proofs.YtdhdngoeaneanaaDoorW.PrintWords Go.Proofs.YtdhdngoeaneanaaDoorW.PrintLast Go.Proofs.YtdhdngoeaneanaaDoorW.PrintMore
attribute [local go_sem] max2_int min2_int max_two min_two max_three min_three max_four min_four   -- for this text's walks alone
set_option linter.unusedVariables false
set_option linter.unusedSimpArgs false

/-! ### quoinref23_whole: function 24 -/
mutual
def quoinref23_whole.l0 : Nat → List Int → Int → Int → Option (Bool)
  | 0, _, _, _ => none
  | k + 1, x0, x1, x5 => if x5 < (x0.length : Int) then (if 0 ≤ x5 then (if (rd x0 x5) = x1 then (quoinref23_whole.j1 k x0 x1 x5 true) else (if (rd x0 x5) = 92 then (quoinref23_whole.j1 k x0 x1 x5 ((wrap64 (x5 + 1)) == (x0.length : Int))) else (quoinref23_whole.j1 k x0 x1 x5 false))) else (none)) else (some true)
def quoinref23_whole.j1 : Nat → List Int → Int → Int → Bool → Option (Bool)
  | 0, _, _, _, _ => none
  | k + 1, x0, x1, x5, x29 => if x29 = true then (some false) else (if 0 ≤ x5 then (if x5 < (x0.length : Int) then (if (rd x0 x5) = 92 then (quoinref23_whole.l0 k x0 x1 (wrap64 ((wrap64 (x5 + 1)) + 1))) else (quoinref23_whole.l0 k x0 x1 (wrap64 (x5 + 1)))) else (none)) else (none))
end
def quoinref23_whole.f (k : Nat) (l0 : List Int) (a1 : Int) : Option (Bool) := quoinref23_whole.l0 k l0 a1 0
theorem quoinref23_whole.mono_l : ∀ k, (∀ y0 y1 y2, LeO (quoinref23_whole.l0 k y0 y1 y2) (quoinref23_whole.l0 (k + 1) y0 y1 y2)) ∧ (∀ y0 y1 y2 y3, LeO (quoinref23_whole.j1 k y0 y1 y2 y3) (quoinref23_whole.j1 (k + 1) y0 y1 y2 y3))
  | 0 => ⟨fun _ _ _ r h => by simp [quoinref23_whole.l0] at h, fun _ _ _ _ r h => by simp [quoinref23_whole.j1] at h⟩
  | k + 1 => by
    obtain ⟨ih0, ih1⟩ := quoinref23_whole.mono_l k
    refine ⟨?_, ?_⟩
    · intro y0 y1 y2
      unfold quoinref23_whole.l0
      repeat' first
      | (with_reducible exact ih0 _ _ _)
      | (with_reducible exact ih1 _ _ _ _)
      | (with_reducible exact LeO.refl _)
      | (with_reducible exact LeO.none _)
      | (with_reducible refine LeO.ite ?_ ?_)
      | (with_reducible refine LeO.bind ?_ (fun _ => ?_))
      | exact ih0 _ _ _
      | exact ih1 _ _ _ _
      | exact LeO.none _
      | refine LeO.ite ?_ ?_
      | refine LeO.bind ?_ (fun _ => ?_)
    · intro y0 y1 y2 y3
      unfold quoinref23_whole.j1
      repeat' first
      | (with_reducible exact ih0 _ _ _)
      | (with_reducible exact ih1 _ _ _ _)
      | (with_reducible exact LeO.refl _)
      | (with_reducible exact LeO.none _)
      | (with_reducible refine LeO.ite ?_ ?_)
      | (with_reducible refine LeO.bind ?_ (fun _ => ?_))
      | exact ih0 _ _ _
      | exact ih1 _ _ _ _
      | exact LeO.none _
      | refine LeO.ite ?_ ?_
      | refine LeO.bind ?_ (fun _ => ?_)
theorem quoinref23_whole.mono : ∀ a0 a1 k, LeO (quoinref23_whole.f k a0 a1) (quoinref23_whole.f (k + 1) a0 a1) := by
  intro a0 a1 k
  obtain ⟨ih0, ih1⟩ := quoinref23_whole.mono_l k
  unfold quoinref23_whole.f
  repeat' first
      | (with_reducible exact ih0 _ _ _)
      | (with_reducible exact ih1 _ _ _ _)
      | (with_reducible exact LeO.refl _)
      | (with_reducible exact LeO.none _)
      | (with_reducible refine LeO.ite ?_ ?_)
      | (with_reducible refine LeO.bind ?_ (fun _ => ?_))
      | exact ih0 _ _ _
      | exact ih1 _ _ _ _
      | exact LeO.none _
      | refine LeO.ite ?_ ?_
      | refine LeO.bind ?_ (fun _ => ?_)
set_option maxHeartbeats 8000000 in
set_option maxRecDepth 100000 in
theorem quoinref23_whole.calls (k : Nat) (A0 : Option Addr) (c0 : Nat) (l0 : List Int) (a1 : Int) (r : Bool) (w : World) (hr0 : Kd.C (Kd.int .u8) w A0 l0.length l0) (hc0 : l0.length ≤ c0) (h : quoinref23_whole.f k l0 a1 = some r) :
    Calls Tryd.prog 24 #[.slice A0 l0.length c0, .int .u8 a1] w fun e w' => e = .returned (.bool r) ∧ Drawn0 w w' := by
  have HR0 := Aside0.mk hr0
  have HC0 := Aside0.mk hc0
  clear hr0 hc0
  have H : (quoinref23_whole.l0 k l0 a1 0) = some r := h
  clear h
  have H' := Aside0.mk H
  clear H
  go_enter Tryd.func24, Tryd.ntmps24
  go_wp2
  go_loopg [5] k (fun kq v5 w' => ∃ (x5_1 : Int), v5 = .int .i64 x5_1 ∧ Aside0 (quoinref23_whole.l0 kq l0 a1 x5_1 = some r) ∧ Aside0 (kq ≤ k) ∧ Drawn0 w w')
  case atStart => exact ⟨(0), (by first | rfl | (simp; done) | (simp [*]; done)), H', ⟨Nat.le_refl _⟩, by repeat (first | exact Drawn0.refl _ | apply Drawn0.step)⟩
  case round =>
    clear H'
    try clear c2
    try clear p2
    obtain ⟨x5_1, rfl, HA, HK1, ⟨m1, rfl⟩⟩ := hrel
    cases gk with
    | zero => exact absurd HA.out (by simp [quoinref23_whole.l0])
    | succ k1 =>
      have H := HA.out
      clear HA
      simp only [quoinref23_whole.l0] at H
      by_cases c3 : x5_1 < (l0.length : Int)
      · rw [if_pos c3] at H
        have c3b0 : decide (x5_1 < (l0.length : Int)) = true := decide_eq_true c3
        clear c3
        have HC4 := Aside0.mk H
        clear H
        go_upto_region 3 with (fail)
        go_cut [29] (fun v29 wc => ∃ (kq : Nat) (x29_3 : Bool), v29 = .bool x29_3 ∧ Aside0 (quoinref23_whole.j1 kq l0 a1 x5_1 x29_3 = some r) ∧ Aside0 (kq ≤ k1) ∧ Drawn0 w wc)
        case first =>
          have H := HC4.out
          clear HC4
          by_cases c5 : 0 ≤ x5_1
          · rw [if_pos c5] at H
            have c5b0 : decide (0 ≤ x5_1) = true := decide_eq_true c5
            clear c5
            (first | rw [c5b0] | (simp only [i64_w, i32_w]; rw [c5b0]) | skip)
            by_cases c6 : (rd l0 x5_1) = a1
            · rw [if_pos c6] at H
              have c6b0 : ((rd l0 x5_1) == a1) = true := beq_iff_eq.mpr c6
              have c6b1 : ((rd l0 x5_1) != a1) = false := bne_eq_false_iff_eq.mpr c6
              clear c6
              have H' := Aside0.mk H
              clear H
              have p226 : 0 ≤ (x5_1 : Int) := of_decide_eq_true (by first | (with_reducible assumption) | assumption)
              have q226 : x5_1 < (l0.length : Int) := of_decide_eq_true (by first | (with_reducible assumption) | assumption)
              obtain ⟨ad226, e226, hx226_0⟩ := Kd.at_int HR0.out x5_1 p226 q226
              cases e226
              replace p226 := eq_true p226
              replace q226 := eq_true q226
              go_wp2
              go_meet
              case rel => exact ⟨_, (true), (by first | rfl | (simp; done) | (simp [*]; done)), H', ⟨by have := HK1.out; first | omega | exact Nat.le_refl _⟩, by repeat (first | exact Drawn0.refl _ | apply Drawn0.step)⟩
            · rw [if_neg c6] at H
              have c6b0 : ((rd l0 x5_1) == a1) = false := beq_eq_false_iff_ne.mpr c6
              have c6b1 : ((rd l0 x5_1) != a1) = true := bne_iff_ne.mpr c6
              by_cases c7 : (rd l0 x5_1) = 92
              · rw [if_pos c7] at H
                have c7b0 : ((rd l0 x5_1) == 92) = true := beq_iff_eq.mpr c7
                have c7b1 : ((rd l0 x5_1) != 92) = false := bne_eq_false_iff_eq.mpr c7
                clear c7
                have H' := Aside0.mk H
                clear H
                have p226 : 0 ≤ (x5_1 : Int) := of_decide_eq_true (by first | (with_reducible assumption) | assumption)
                have q226 : x5_1 < (l0.length : Int) := of_decide_eq_true (by first | (with_reducible assumption) | assumption)
                obtain ⟨ad226, e226, hx226_0⟩ := Kd.at_int HR0.out x5_1 p226 q226
                cases e226
                replace p226 := eq_true p226
                replace q226 := eq_true q226
                have p227 : 0 ≤ (x5_1 : Int) := of_decide_eq_true (by first | (with_reducible assumption) | assumption)
                have q227 : x5_1 < (l0.length : Int) := of_decide_eq_true (by first | (with_reducible assumption) | assumption)
                obtain ⟨ad227, e227, hx227_0⟩ := Kd.at_int HR0.out x5_1 p227 q227
                obtain rfl : ad226 = ad227 := (by injection e227)
                replace p227 := eq_true p227
                replace q227 := eq_true q227
                go_wp2
                go_meet
                case rel => exact ⟨_, (((wrap64 (x5_1 + 1)) == (l0.length : Int))), (by first | rfl | (simp; done) | (simp [*]; done)), H', ⟨by have := HK1.out; first | omega | exact Nat.le_refl _⟩, by repeat (first | exact Drawn0.refl _ | apply Drawn0.step)⟩
              · rw [if_neg c7] at H
                have c7b0 : ((rd l0 x5_1) == 92) = false := beq_eq_false_iff_ne.mpr c7
                have c7b1 : ((rd l0 x5_1) != 92) = true := bne_iff_ne.mpr c7
                have H' := Aside0.mk H
                clear H
                have p226 : 0 ≤ (x5_1 : Int) := of_decide_eq_true (by first | (with_reducible assumption) | assumption)
                have q226 : x5_1 < (l0.length : Int) := of_decide_eq_true (by first | (with_reducible assumption) | assumption)
                obtain ⟨ad226, e226, hx226_0⟩ := Kd.at_int HR0.out x5_1 p226 q226
                cases e226
                replace p226 := eq_true p226
                replace q226 := eq_true q226
                have p227 : 0 ≤ (x5_1 : Int) := of_decide_eq_true (by first | (with_reducible assumption) | assumption)
                have q227 : x5_1 < (l0.length : Int) := of_decide_eq_true (by first | (with_reducible assumption) | assumption)
                obtain ⟨ad227, e227, hx227_0⟩ := Kd.at_int HR0.out x5_1 p227 q227
                obtain rfl : ad226 = ad227 := (by injection e227)
                replace p227 := eq_true p227
                replace q227 := eq_true q227
                go_wp2
                go_meet
                case rel => exact ⟨_, (false), (by first | rfl | (simp; done) | (simp [*]; done)), H', ⟨by have := HK1.out; first | omega | exact Nat.le_refl _⟩, by repeat (first | exact Drawn0.refl _ | apply Drawn0.step)⟩
          · rw [if_neg c5] at H
            exact absurd H (by simp)
        case rest =>
          clear HC4
          try clear c2
          try clear p2
          try clear q2
          try clear hx2
          try clear c3
          try clear c3b0
          try clear c5
          try clear c5b0
          try clear c6
          try clear c6b0
          try clear c6b1
          try clear p6
          try clear c7
          try clear c7b0
          try clear c7b1
          try clear hx226_0
          try clear hx227_0
          try clear p2
          try clear p226
          try clear p227
          try clear q226
          try clear q227
          obtain ⟨kq, x29_3, rfl, HA, HJ3, ⟨mc3, rfl⟩⟩ := hcut
          cases kq with
          | zero => exact absurd HA.out (by simp [quoinref23_whole.j1])
          | succ kj3 =>
            have H := HA.out
            clear HA
            simp only [quoinref23_whole.j1] at H
            by_cases c8 : x29_3 = true
            · subst c8
              have H1 : (some false) = some r := by rw [if_pos rfl] at H; exact H
              clear H
              have H := H1
              clear H1
              obtain rfl := Option.some.inj H
              go_wp2
              go_ret
              exact ⟨by first | rfl | (simp; done) | (simp [*]; done), by repeat (first | exact Drawn0.refl _ | apply Drawn0.step)⟩
            · replace c8 := Bool.eq_false_iff.mpr c8
              subst c8
              have H1 : (if 0 ≤ x5_1 then (if x5_1 < (l0.length : Int) then (if (rd l0 x5_1) = 92 then (quoinref23_whole.l0 kj3 l0 a1 (wrap64 ((wrap64 (x5_1 + 1)) + 1))) else (quoinref23_whole.l0 kj3 l0 a1 (wrap64 (x5_1 + 1)))) else (none)) else (none)) = some r := by rw [if_neg (show ¬ (false = true) by decide)] at H; exact H
              clear H
              have H := H1
              clear H1
              by_cases c9 : 0 ≤ x5_1
              · rw [if_pos c9] at H
                have c9b0 : decide (0 ≤ x5_1) = true := decide_eq_true c9
                clear c9
                by_cases c10 : x5_1 < (l0.length : Int)
                · rw [if_pos c10] at H
                  have c10b0 : decide (x5_1 < (l0.length : Int)) = true := decide_eq_true c10
                  clear c10
                  by_cases c11 : (rd l0 x5_1) = 92
                  · rw [if_pos c11] at H
                    have c11b0 : ((rd l0 x5_1) == 92) = true := beq_iff_eq.mpr c11
                    have c11b1 : ((rd l0 x5_1) != 92) = false := bne_eq_false_iff_eq.mpr c11
                    clear c11
                    have H' := Aside0.mk H
                    clear H
                    have p228 : 0 ≤ (x5_1 : Int) := of_decide_eq_true (by first | (with_reducible assumption) | assumption)
                    have q228 : x5_1 < (l0.length : Int) := of_decide_eq_true (by first | (with_reducible assumption) | assumption)
                    obtain ⟨ad228, e228, hx228_0⟩ := Kd.at_int HR0.out x5_1 p228 q228
                    cases e228
                    replace p228 := eq_true p228
                    replace q228 := eq_true q228
                    go_wp2
                    go_roundg kj3
                    case measure => have := HK1.out; have := HJ3.out; omega
                    case rel => exact ⟨(wrap64 ((wrap64 (x5_1 + 1)) + 1)), (by first | rfl | (simp; done) | (simp [*]; done)), H', ⟨by have := HK1.out; have := HJ3.out; omega⟩, by repeat (first | exact Drawn0.refl _ | apply Drawn0.step)⟩
                  · rw [if_neg c11] at H
                    have c11b0 : ((rd l0 x5_1) == 92) = false := beq_eq_false_iff_ne.mpr c11
                    have c11b1 : ((rd l0 x5_1) != 92) = true := bne_iff_ne.mpr c11
                    have H' := Aside0.mk H
                    clear H
                    have p228 : 0 ≤ (x5_1 : Int) := of_decide_eq_true (by first | (with_reducible assumption) | assumption)
                    have q228 : x5_1 < (l0.length : Int) := of_decide_eq_true (by first | (with_reducible assumption) | assumption)
                    obtain ⟨ad228, e228, hx228_0⟩ := Kd.at_int HR0.out x5_1 p228 q228
                    cases e228
                    replace p228 := eq_true p228
                    replace q228 := eq_true q228
                    go_wp2
                    go_roundg kj3
                    case measure => have := HK1.out; have := HJ3.out; omega
                    case rel => exact ⟨(wrap64 (x5_1 + 1)), (by first | rfl | (simp; done) | (simp [*]; done)), H', ⟨by have := HK1.out; have := HJ3.out; omega⟩, by repeat (first | exact Drawn0.refl _ | apply Drawn0.step)⟩
                · rw [if_neg c10] at H
                  exact absurd H (by simp)
              · rw [if_neg c9] at H
                exact absurd H (by simp)
      · rw [if_neg c3] at H
        have c3b0 : decide (x5_1 < (l0.length : Int)) = false := decide_eq_false c3
        clear c3
        obtain rfl := Option.some.inj H
        go_wp2
        go_ret
        exact ⟨by first | rfl | (simp; done) | (simp [*]; done), by repeat (first | exact Drawn0.refl _ | apply Drawn0.step)⟩

end Go.Proofs.YtdhdngoeaneanaaDoor.X
end
section
-- Written by wip/xprint.py over the kit's print.py: the Lean function of each Go function, and the proof that the Go text comes to it.
namespace Go.Proofs.YtdhdngoeaneanaaDoor.X
open Go.RowKit Go.Proofs.YtdhdngoeaneanaaDoorW.PrintWords Go.Proofs.YtdhdngoeaneanaaDoorW.PrintLast Go.Proofs.YtdhdngoeaneanaaDoorW.PrintMore
attribute [local go_sem] max2_int min2_int max_two min_two max_three min_three max_four min_four   -- for this text's walks alone
set_option linter.unusedVariables false
set_option linter.unusedSimpArgs false

/-! ### quoinref23_Parse: function 11 -/
mutual
def quoinref23_Parse.j3 : Nat → List Int → Int → Int → Int → Int → List Int → Int → Bool → Option (Int × Int × Int × List Int × Int × Bool × Int × Int)
  | 0, _, _, _, _, _, _, _, _ => none
  | k + 1, x0, x6, x231000, x231001, x231002, x231003, x231004, x231005 => quoinref23_Parse.l0 k x0 x6 x231000 x231001 x231002 x231003 x231004 x231005
def quoinref23_Parse.l0 : Nat → List Int → Int → Int → Int → Int → List Int → Int → Bool → Option (Int × Int × Int × List Int × Int × Bool × Int × Int)
  | 0, _, _, _, _, _, _, _, _ => none
  | k + 1, x0, x6, x231000, x231001, x231002, x231003, x231004, x231005 => if x6 < (x0.length : Int) then (if 0 ≤ x6 then (if (rd x0 x6) = 43 then (quoinref23_Parse.j5 k x0 x6 true x231000 x231001 x231002 x231003 x231004 x231005) else (quoinref23_Parse.j5 k x0 x6 ((rd x0 x6) == 45) x231000 x231001 x231002 x231003 x231004 x231005)) else (none)) else (quoinref23_Parse.j5 k x0 x6 false x231000 x231001 x231002 x231003 x231004 x231005)
def quoinref23_Parse.j5 : Nat → List Int → Int → Bool → Int → Int → Int → List Int → Int → Bool → Option (Int × Int × Int × List Int × Int × Bool × Int × Int)
  | 0, _, _, _, _, _, _, _, _, _ => none
  | k + 1, x0, x6, x103, x231000, x231001, x231002, x231003, x231004, x231005 => if x103 = true then (if 0 ≤ (wrap64 (x6 + 1)) then (if (wrap64 (x6 + 1)) ≤ (x0.length : Int) then ((quoinref23_number.f k (x0.drop ((wrap64 (x6 + 1)) : Int).toNat)).bind fun bt253 => (if bt253.2.2 = true then (if bt253.2.1 = 0 then (if 0 ≤ x6 then (if x6 < (x0.length : Int) then (if (rd x0 x6) = 45 then (quoinref23_Parse.l0 k x0 (wrap64 (x6 + (wrap64 (1 + bt253.2.1)))) x231000 x231001 x231002 x231003 (wrap64 (x231004 + (-1))) true) else (quoinref23_Parse.l0 k x0 (wrap64 (x6 + (wrap64 (1 + bt253.2.1)))) x231000 x231001 x231002 x231003 (wrap64 (x231004 + 1)) true)) else (none)) else (none)) else (if 0 ≤ x6 then (if x6 < (x0.length : Int) then (if (rd x0 x6) = 45 then (quoinref23_Parse.l0 k x0 (wrap64 (x6 + (wrap64 (1 + bt253.2.1)))) x231000 x231001 x231002 x231003 (wrap64 (x231004 + (wrap64 (-bt253.1)))) true) else (quoinref23_Parse.l0 k x0 (wrap64 (x6 + (wrap64 (1 + bt253.2.1)))) x231000 x231001 x231002 x231003 (wrap64 (x231004 + bt253.1)) true)) else (none)) else (none))) else (some (0, 0, 0, ([] : List Int), 0, false, 0, 230)))) else (none)) else (none)) else (if x231004 < (-999999999) then (some (0, 0, 0, ([] : List Int), 0, false, 0, 230)) else (if x231004 > 999999999 then (some (0, 0, 0, ([] : List Int), 0, false, 0, 230)) else (some (x231000, x231001, x231002, x231003, x231004, x231005, x6, 0))))
def quoinref23_Parse.j0 : Nat → List Int → Int → Int → Bool → Int → Int → Int → Int → Bool → Option (Int × Int × Int × List Int × Int × Bool × Int × Int)
  | 0, _, _, _, _, _, _, _, _, _ => none
  | k + 1, x0, x6, x7, x22, x231000, x231001, x231002, x231004, x231005 => if x22 = true then ((quoinref23_number.f k x0).bind fun bt232 => (if bt232.2.2 = true then (quoinref23_Parse.j3 k x0 bt232.2.1 110 bt232.1 0 ([] : List Int) 0 true) else (some (0, 0, 0, ([] : List Int), 0, false, 0, 230)))) else (if x7 = 46 then (quoinref23_Parse.j1 k x0 x6 x7 true x231000 x231001 x231002 x231004 x231005) else (quoinref23_Parse.j1 k x0 x6 x7 (x7 == 36) x231000 x231001 x231002 x231004 x231005))
def quoinref23_Parse.j1 : Nat → List Int → Int → Int → Bool → Int → Int → Int → Int → Bool → Option (Int × Int × Int × List Int × Int × Bool × Int × Int)
  | 0, _, _, _, _, _, _, _, _, _ => none
  | k + 1, x0, x6, x7, x41, x231000, x231001, x231002, x231004, x231005 => if x41 = true then (quoinref23_Parse.j3 k x0 1 x7 0 0 ([] : List Int) 0 true) else (if x7 = 39 then (if (x0.length : Int) = 1 then (some (0, 0, 0, ([] : List Int), 0, false, 0, 230)) else (if 1 < (x0.length : Int) then (quoinref23_Parse.j3 k x0 2 x7 0 (rd x0 1) ([] : List Int) 0 true) else (none))) else (if x7 = 47 then (quoinref23_Parse.j2 k x0 x6 x7 true x231000 x231001 x231002 x231004 x231005) else (quoinref23_Parse.j2 k x0 x6 x7 (x7 == 63) x231000 x231001 x231002 x231004 x231005)))
def quoinref23_Parse.j2 : Nat → List Int → Int → Int → Bool → Int → Int → Int → Int → Bool → Option (Int × Int × Int × List Int × Int × Bool × Int × Int)
  | 0, _, _, _, _, _, _, _, _, _ => none
  | k + 1, x0, x6, x7, x62, x231000, x231001, x231002, x231004, x231005 => if x62 = true then (if 1 ≤ (x0.length : Int) then ((quoinref23_sought.f k (x0.drop 1) x7).bind fun bt241 => ((quoinref23_whole.f k bt241.1 x7).bind fun t245 => (if t245 = true then (quoinref23_Parse.j3 k x0 (wrap64 (1 + bt241.2)) x7 0 0 bt241.1 0 true) else (some (0, 0, 0, ([] : List Int), 0, false, 0, 230))))) else (none)) else (quoinref23_Parse.j3 k x0 x6 x231000 x231001 x231002 ([] : List Int) x231004 x231005)
end
def quoinref23_Parse.f (k : Nat) (l0 : List Int) : Option (Int × Int × Int × List Int × Int × Bool × Int × Int) := if (l0.length : Int) > 0 then (if 0 < (l0.length : Int) then (if (rd l0 0) ≥ 48 then (quoinref23_Parse.j0 k l0 0 (rd l0 0) (decide ((rd l0 0) ≤ 57)) 0 0 0 0 false) else (quoinref23_Parse.j0 k l0 0 (rd l0 0) false 0 0 0 0 false)) else (none)) else (quoinref23_Parse.j3 k l0 0 0 0 0 ([] : List Int) 0 false)
theorem quoinref23_Parse.mono_l : ∀ k, (∀ y0 y1 y2 y3 y4 y5 y6 y7, LeO (quoinref23_Parse.j3 k y0 y1 y2 y3 y4 y5 y6 y7) (quoinref23_Parse.j3 (k + 1) y0 y1 y2 y3 y4 y5 y6 y7)) ∧ (∀ y0 y1 y2 y3 y4 y5 y6 y7, LeO (quoinref23_Parse.l0 k y0 y1 y2 y3 y4 y5 y6 y7) (quoinref23_Parse.l0 (k + 1) y0 y1 y2 y3 y4 y5 y6 y7)) ∧ (∀ y0 y1 y2 y3 y4 y5 y6 y7 y8, LeO (quoinref23_Parse.j5 k y0 y1 y2 y3 y4 y5 y6 y7 y8) (quoinref23_Parse.j5 (k + 1) y0 y1 y2 y3 y4 y5 y6 y7 y8)) ∧ (∀ y0 y1 y2 y3 y4 y5 y6 y7 y8, LeO (quoinref23_Parse.j0 k y0 y1 y2 y3 y4 y5 y6 y7 y8) (quoinref23_Parse.j0 (k + 1) y0 y1 y2 y3 y4 y5 y6 y7 y8)) ∧ (∀ y0 y1 y2 y3 y4 y5 y6 y7 y8, LeO (quoinref23_Parse.j1 k y0 y1 y2 y3 y4 y5 y6 y7 y8) (quoinref23_Parse.j1 (k + 1) y0 y1 y2 y3 y4 y5 y6 y7 y8)) ∧ (∀ y0 y1 y2 y3 y4 y5 y6 y7 y8, LeO (quoinref23_Parse.j2 k y0 y1 y2 y3 y4 y5 y6 y7 y8) (quoinref23_Parse.j2 (k + 1) y0 y1 y2 y3 y4 y5 y6 y7 y8))
  | 0 => ⟨fun _ _ _ _ _ _ _ _ r h => by simp [quoinref23_Parse.j3] at h, fun _ _ _ _ _ _ _ _ r h => by simp [quoinref23_Parse.l0] at h, fun _ _ _ _ _ _ _ _ _ r h => by simp [quoinref23_Parse.j5] at h, fun _ _ _ _ _ _ _ _ _ r h => by simp [quoinref23_Parse.j0] at h, fun _ _ _ _ _ _ _ _ _ r h => by simp [quoinref23_Parse.j1] at h, fun _ _ _ _ _ _ _ _ _ r h => by simp [quoinref23_Parse.j2] at h⟩
  | k + 1 => by
    obtain ⟨ih0, ih1, ih2, ih3, ih4, ih5⟩ := quoinref23_Parse.mono_l k
    refine ⟨?_, ?_, ?_, ?_, ?_, ?_⟩
    · intro y0 y1 y2 y3 y4 y5 y6 y7
      unfold quoinref23_Parse.j3
      repeat' first
      | (with_reducible exact ih0 _ _ _ _ _ _ _ _)
      | (with_reducible exact ih1 _ _ _ _ _ _ _ _)
      | (with_reducible exact ih2 _ _ _ _ _ _ _ _ _)
      | (with_reducible exact ih3 _ _ _ _ _ _ _ _ _)
      | (with_reducible exact ih4 _ _ _ _ _ _ _ _ _)
      | (with_reducible exact ih5 _ _ _ _ _ _ _ _ _)
      | (with_reducible exact quoinref23_number.mono _ _)
      | (with_reducible exact quoinref23_sought.mono _ _ _)
      | (with_reducible exact quoinref23_whole.mono _ _ _)
      | (with_reducible exact LeO.refl _)
      | (with_reducible exact LeO.none _)
      | (with_reducible refine LeO.ite ?_ ?_)
      | (with_reducible refine LeO.bind ?_ (fun _ => ?_))
      | exact ih0 _ _ _ _ _ _ _ _
      | exact ih1 _ _ _ _ _ _ _ _
      | exact ih2 _ _ _ _ _ _ _ _ _
      | exact ih3 _ _ _ _ _ _ _ _ _
      | exact ih4 _ _ _ _ _ _ _ _ _
      | exact ih5 _ _ _ _ _ _ _ _ _
      | exact quoinref23_number.mono _ _
      | exact quoinref23_sought.mono _ _ _
      | exact quoinref23_whole.mono _ _ _
      | exact LeO.none _
      | refine LeO.ite ?_ ?_
      | refine LeO.bind ?_ (fun _ => ?_)
    · intro y0 y1 y2 y3 y4 y5 y6 y7
      unfold quoinref23_Parse.l0
      repeat' first
      | (with_reducible exact ih0 _ _ _ _ _ _ _ _)
      | (with_reducible exact ih1 _ _ _ _ _ _ _ _)
      | (with_reducible exact ih2 _ _ _ _ _ _ _ _ _)
      | (with_reducible exact ih3 _ _ _ _ _ _ _ _ _)
      | (with_reducible exact ih4 _ _ _ _ _ _ _ _ _)
      | (with_reducible exact ih5 _ _ _ _ _ _ _ _ _)
      | (with_reducible exact quoinref23_number.mono _ _)
      | (with_reducible exact quoinref23_sought.mono _ _ _)
      | (with_reducible exact quoinref23_whole.mono _ _ _)
      | (with_reducible exact LeO.refl _)
      | (with_reducible exact LeO.none _)
      | (with_reducible refine LeO.ite ?_ ?_)
      | (with_reducible refine LeO.bind ?_ (fun _ => ?_))
      | exact ih0 _ _ _ _ _ _ _ _
      | exact ih1 _ _ _ _ _ _ _ _
      | exact ih2 _ _ _ _ _ _ _ _ _
      | exact ih3 _ _ _ _ _ _ _ _ _
      | exact ih4 _ _ _ _ _ _ _ _ _
      | exact ih5 _ _ _ _ _ _ _ _ _
      | exact quoinref23_number.mono _ _
      | exact quoinref23_sought.mono _ _ _
      | exact quoinref23_whole.mono _ _ _
      | exact LeO.none _
      | refine LeO.ite ?_ ?_
      | refine LeO.bind ?_ (fun _ => ?_)
    · intro y0 y1 y2 y3 y4 y5 y6 y7 y8
      unfold quoinref23_Parse.j5
      repeat' first
      | (with_reducible exact ih0 _ _ _ _ _ _ _ _)
      | (with_reducible exact ih1 _ _ _ _ _ _ _ _)
      | (with_reducible exact ih2 _ _ _ _ _ _ _ _ _)
      | (with_reducible exact ih3 _ _ _ _ _ _ _ _ _)
      | (with_reducible exact ih4 _ _ _ _ _ _ _ _ _)
      | (with_reducible exact ih5 _ _ _ _ _ _ _ _ _)
      | (with_reducible exact quoinref23_number.mono _ _)
      | (with_reducible exact quoinref23_sought.mono _ _ _)
      | (with_reducible exact quoinref23_whole.mono _ _ _)
      | (with_reducible exact LeO.refl _)
      | (with_reducible exact LeO.none _)
      | (with_reducible refine LeO.ite ?_ ?_)
      | (with_reducible refine LeO.bind ?_ (fun _ => ?_))
      | exact ih0 _ _ _ _ _ _ _ _
      | exact ih1 _ _ _ _ _ _ _ _
      | exact ih2 _ _ _ _ _ _ _ _ _
      | exact ih3 _ _ _ _ _ _ _ _ _
      | exact ih4 _ _ _ _ _ _ _ _ _
      | exact ih5 _ _ _ _ _ _ _ _ _
      | exact quoinref23_number.mono _ _
      | exact quoinref23_sought.mono _ _ _
      | exact quoinref23_whole.mono _ _ _
      | exact LeO.none _
      | refine LeO.ite ?_ ?_
      | refine LeO.bind ?_ (fun _ => ?_)
    · intro y0 y1 y2 y3 y4 y5 y6 y7 y8
      unfold quoinref23_Parse.j0
      repeat' first
      | (with_reducible exact ih0 _ _ _ _ _ _ _ _)
      | (with_reducible exact ih1 _ _ _ _ _ _ _ _)
      | (with_reducible exact ih2 _ _ _ _ _ _ _ _ _)
      | (with_reducible exact ih3 _ _ _ _ _ _ _ _ _)
      | (with_reducible exact ih4 _ _ _ _ _ _ _ _ _)
      | (with_reducible exact ih5 _ _ _ _ _ _ _ _ _)
      | (with_reducible exact quoinref23_number.mono _ _)
      | (with_reducible exact quoinref23_sought.mono _ _ _)
      | (with_reducible exact quoinref23_whole.mono _ _ _)
      | (with_reducible exact LeO.refl _)
      | (with_reducible exact LeO.none _)
      | (with_reducible refine LeO.ite ?_ ?_)
      | (with_reducible refine LeO.bind ?_ (fun _ => ?_))
      | exact ih0 _ _ _ _ _ _ _ _
      | exact ih1 _ _ _ _ _ _ _ _
      | exact ih2 _ _ _ _ _ _ _ _ _
      | exact ih3 _ _ _ _ _ _ _ _ _
      | exact ih4 _ _ _ _ _ _ _ _ _
      | exact ih5 _ _ _ _ _ _ _ _ _
      | exact quoinref23_number.mono _ _
      | exact quoinref23_sought.mono _ _ _
      | exact quoinref23_whole.mono _ _ _
      | exact LeO.none _
      | refine LeO.ite ?_ ?_
      | refine LeO.bind ?_ (fun _ => ?_)
    · intro y0 y1 y2 y3 y4 y5 y6 y7 y8
      unfold quoinref23_Parse.j1
      repeat' first
      | (with_reducible exact ih0 _ _ _ _ _ _ _ _)
      | (with_reducible exact ih1 _ _ _ _ _ _ _ _)
      | (with_reducible exact ih2 _ _ _ _ _ _ _ _ _)
      | (with_reducible exact ih3 _ _ _ _ _ _ _ _ _)
      | (with_reducible exact ih4 _ _ _ _ _ _ _ _ _)
      | (with_reducible exact ih5 _ _ _ _ _ _ _ _ _)
      | (with_reducible exact quoinref23_number.mono _ _)
      | (with_reducible exact quoinref23_sought.mono _ _ _)
      | (with_reducible exact quoinref23_whole.mono _ _ _)
      | (with_reducible exact LeO.refl _)
      | (with_reducible exact LeO.none _)
      | (with_reducible refine LeO.ite ?_ ?_)
      | (with_reducible refine LeO.bind ?_ (fun _ => ?_))
      | exact ih0 _ _ _ _ _ _ _ _
      | exact ih1 _ _ _ _ _ _ _ _
      | exact ih2 _ _ _ _ _ _ _ _ _
      | exact ih3 _ _ _ _ _ _ _ _ _
      | exact ih4 _ _ _ _ _ _ _ _ _
      | exact ih5 _ _ _ _ _ _ _ _ _
      | exact quoinref23_number.mono _ _
      | exact quoinref23_sought.mono _ _ _
      | exact quoinref23_whole.mono _ _ _
      | exact LeO.none _
      | refine LeO.ite ?_ ?_
      | refine LeO.bind ?_ (fun _ => ?_)
    · intro y0 y1 y2 y3 y4 y5 y6 y7 y8
      unfold quoinref23_Parse.j2
      repeat' first
      | (with_reducible exact ih0 _ _ _ _ _ _ _ _)
      | (with_reducible exact ih1 _ _ _ _ _ _ _ _)
      | (with_reducible exact ih2 _ _ _ _ _ _ _ _ _)
      | (with_reducible exact ih3 _ _ _ _ _ _ _ _ _)
      | (with_reducible exact ih4 _ _ _ _ _ _ _ _ _)
      | (with_reducible exact ih5 _ _ _ _ _ _ _ _ _)
      | (with_reducible exact quoinref23_number.mono _ _)
      | (with_reducible exact quoinref23_sought.mono _ _ _)
      | (with_reducible exact quoinref23_whole.mono _ _ _)
      | (with_reducible exact LeO.refl _)
      | (with_reducible exact LeO.none _)
      | (with_reducible refine LeO.ite ?_ ?_)
      | (with_reducible refine LeO.bind ?_ (fun _ => ?_))
      | exact ih0 _ _ _ _ _ _ _ _
      | exact ih1 _ _ _ _ _ _ _ _
      | exact ih2 _ _ _ _ _ _ _ _ _
      | exact ih3 _ _ _ _ _ _ _ _ _
      | exact ih4 _ _ _ _ _ _ _ _ _
      | exact ih5 _ _ _ _ _ _ _ _ _
      | exact quoinref23_number.mono _ _
      | exact quoinref23_sought.mono _ _ _
      | exact quoinref23_whole.mono _ _ _
      | exact LeO.none _
      | refine LeO.ite ?_ ?_
      | refine LeO.bind ?_ (fun _ => ?_)
theorem quoinref23_Parse.mono : ∀ a0 k, LeO (quoinref23_Parse.f k a0) (quoinref23_Parse.f (k + 1) a0) := by
  intro a0 k
  obtain ⟨ih0, ih1, ih2, ih3, ih4, ih5⟩ := quoinref23_Parse.mono_l k
  unfold quoinref23_Parse.f
  repeat' first
      | (with_reducible exact ih0 _ _ _ _ _ _ _ _)
      | (with_reducible exact ih1 _ _ _ _ _ _ _ _)
      | (with_reducible exact ih2 _ _ _ _ _ _ _ _ _)
      | (with_reducible exact ih3 _ _ _ _ _ _ _ _ _)
      | (with_reducible exact ih4 _ _ _ _ _ _ _ _ _)
      | (with_reducible exact ih5 _ _ _ _ _ _ _ _ _)
      | (with_reducible exact quoinref23_number.mono _ _)
      | (with_reducible exact quoinref23_sought.mono _ _ _)
      | (with_reducible exact quoinref23_whole.mono _ _ _)
      | (with_reducible exact LeO.refl _)
      | (with_reducible exact LeO.none _)
      | (with_reducible refine LeO.ite ?_ ?_)
      | (with_reducible refine LeO.bind ?_ (fun _ => ?_))
      | exact ih0 _ _ _ _ _ _ _ _
      | exact ih1 _ _ _ _ _ _ _ _
      | exact ih2 _ _ _ _ _ _ _ _ _
      | exact ih3 _ _ _ _ _ _ _ _ _
      | exact ih4 _ _ _ _ _ _ _ _ _
      | exact ih5 _ _ _ _ _ _ _ _ _
      | exact quoinref23_number.mono _ _
      | exact quoinref23_sought.mono _ _ _
      | exact quoinref23_whole.mono _ _ _
      | exact LeO.none _
      | refine LeO.ite ?_ ?_
      | refine LeO.bind ?_ (fun _ => ?_)
set_option maxHeartbeats 8000000 in
set_option maxRecDepth 100000 in
theorem quoinref23_Parse.calls (k : Nat) (P0_ : Nat → Prop) (A0 : Option Addr) (c0 : Nat) (l0 : List Int) (r1 : Int) (r2 : Int) (r3 : Int) (r4 : List Int) (r5 : Int) (r6 : Bool) (r7 : Int) (r8 : Int) (w : World) (hs0 : Kd.V (Kd.int .u8) 5 w w.heap.size (fun k_ => P0_ k_) (.slice A0 l0.length c0) l0) (h : quoinref23_Parse.f k l0 = some (r1, r2, r3, r4, r5, r6, r7, r8)) :
    Calls Tryd.prog 11 #[.slice A0 l0.length c0] w fun e w' => ∃ v3_ : Value, e = .returned (.tuple #[.agg #[.int .u8 r1, .int .i64 r2, .int .u8 r3, v3_, .int .i64 r5, .bool r6], .int .i64 r7, .int .i64 r8]) ∧ Kd.R (Kd.int .u8) 5 w' w.heap.size (fun k_ => (w.heap.size ≤ k_)) v3_ r4 ∧ Below w.heap.size w w' := by
  have hu25 := Tryd.underlying25
  have HO0 := Aside0.mk (show Kd.V (Kd.int .u8) 5 w w.heap.size (fun k_ => (P0_ k_ ∨ w.heap.size ≤ k_)) (.slice A0 l0.length c0) l0 from Kd.V_mono hs0 (fun k_ hk => .inl hk))
  have HB := Aside0.mk (Below.refl w.heap.size w)
  have H : (if (l0.length : Int) > 0 then (if 0 < (l0.length : Int) then (if (rd l0 0) ≥ 48 then (quoinref23_Parse.j0 k l0 0 (rd l0 0) (decide ((rd l0 0) ≤ 57)) 0 0 0 0 false) else (quoinref23_Parse.j0 k l0 0 (rd l0 0) false 0 0 0 0 false)) else (none)) else (quoinref23_Parse.j3 k l0 0 0 0 0 ([] : List Int) 0 false)) = some (r1, r2, r3, r4, r5, r6, r7, r8) := h
  clear h
  have HC2 := Aside0.mk H
  clear H
  go_enter Tryd.func11, Tryd.ntmps11
  go_upto_if 18 with (first | ((with_reducible refine gate_dst (N := 2) rfl ?_); refine box_event ?hg (N := 2) ?hd (cs := #[.int .u8 0, .int .i64 0, .int .u8 0, .slice none 0 0, .int .i64 0, .bool false]) (t := 25) ?hr ?_; (case hd => rfl); (case hg => rfl); (case hr => first | (go_simp; done) | (go_simp; rfl)); intro gb229 hg w3 hbox hb; have n0_ := Aside0.mk (Kd.V_below (Kd.V_elderB (by (with_reducible repeat (first | apply Kd.V_alloc | apply Kd.V_drewN | apply Kd.V_drew)); exact HO0.out) gb229 (Nat.le_of_eq hg.symm)) hb); have n1_ := Aside0.mk (below_step (by repeat (first | (with_reducible first | exact HB.out | apply below_alloc | apply pw_below_drewN | apply below_drew1) | exact HB.out)) hb); have n2_ := Aside0.mk (hbox); have n3_ := Aside0.mk ((by rw [hg]; exact (below_size (by repeat (first | (with_reducible first | exact HB.out | apply below_alloc | apply pw_below_drewN | apply below_drew1) | exact HB.out))) : w.heap.size ≤ gb229)); have n4_ := Aside0.mk ((by rw [hg]; exact (below_size (by repeat (first | (with_reducible first | exact HB.out | apply below_alloc | apply pw_below_drewN | apply below_drew1) | exact HB.out))) : w.heap.size ≤ gb229)); clear HO0; clear HB; have HO0 := n0_; have HB := n1_; have BK229 := n2_; have GW229 := n3_; have GE229 := n4_; clear n0_ n1_ n2_ n3_ n4_; clear hb hbox hg) | ((with_reducible refine gate_dst (N := 5) rfl ?_); refine box_event ?hg (N := 5) ?hd (cs := #[.int .u8 0, .int .i64 0, .int .u8 0, .slice none 0 0, .int .i64 0, .bool false]) (t := 25) ?hr ?_; (case hd => rfl); (case hg => rfl); (case hr => first | (go_simp; done) | (go_simp; rfl)); intro gb230 hg w4 hbox hb; have n0_ := Aside0.mk (Kd.V_below (Kd.V_elderB (by (with_reducible repeat (first | apply Kd.V_alloc | apply Kd.V_drewN | apply Kd.V_drew)); exact HO0.out) gb230 (Nat.le_of_eq hg.symm)) hb); have n1_ := Aside0.mk (blk_below (g := gb229) (o := .cells #[.int .u8 0, .int .i64 0, .int .u8 0, .slice none 0 0, .int .i64 0, .bool false] 25 (0, 0)) (by (with_reducible repeat (first | refine blk_drewN ?_ _ | refine blk_drew ?_ | refine blk_alloc ?_ _)); exact BK229.out) hb); have n2_ := Aside0.mk (below_step (by repeat (first | (with_reducible first | exact HB.out | apply below_alloc | apply pw_below_drewN | apply below_drew1 | refine below_set ?_ GE229.out) | exact HB.out)) hb); have n3_ := Aside0.mk (hbox); have n4_ := Aside0.mk ((by rw [hg]; exact (below_size (by repeat (first | (with_reducible first | exact HB.out | apply below_alloc | apply pw_below_drewN | apply below_drew1 | refine below_set ?_ GE229.out) | exact HB.out))) : w.heap.size ≤ gb230)); have n5_ := Aside0.mk ((by rw [hg]; exact (below_size (by repeat (first | (with_reducible first | exact HB.out | apply below_alloc | apply pw_below_drewN | apply below_drew1 | refine below_set ?_ GE229.out) | exact HB.out))) : w.heap.size ≤ gb230)); have n6_ := Aside0.mk ((by rw [hg]; exact Nat.ne_of_lt (blk_lt (g := gb229) (o := .cells #[.int .u8 0, .int .i64 0, .int .u8 0, .slice none 0 0, .int .i64 0, .bool false] 25 (0, 0)) (by (with_reducible repeat (first | refine blk_drewN ?_ _ | refine blk_drew ?_ | refine blk_alloc ?_ _)); exact BK229.out)) : gb229 ≠ gb230)); have n7_ := Aside0.mk ((by rw [hg]; exact Nat.ne_of_gt (blk_lt (g := gb229) (o := .cells #[.int .u8 0, .int .i64 0, .int .u8 0, .slice none 0 0, .int .i64 0, .bool false] 25 (0, 0)) (by (with_reducible repeat (first | refine blk_drewN ?_ _ | refine blk_drew ?_ | refine blk_alloc ?_ _)); exact BK229.out)) : gb230 ≠ gb229)); clear HO0; clear BK229; clear HB; have HO0 := n0_; have BK229 := n1_; have HB := n2_; have BK230 := n3_; have GW230 := n4_; have GE230 := n5_; have NB229_230 := n6_; have NB230_229 := n7_; clear n0_ n1_ n2_ n3_ n4_ n5_ n6_ n7_; clear hb hbox hg))
  (try simp only [Act.put, List.setIfInBounds_toArray, List.set_cons_zero, List.set_cons_succ])
  go_cut [6] (fun v6 wc => ∃ (kq : Nat) (x6_1 : Int) (x230000_1 : Int) (x230001_1 : Int) (x230002_1 : Int) (x230004_1 : Int) (x230005_1 : Bool) (x231000_1 : Int) (x231001_1 : Int) (x231002_1 : Int) (x231003_1 : List Int) (x231004_1 : Int) (x231005_1 : Bool) (u231003 : Value), v6 = .int .i64 x6_1 ∧ Aside0 (quoinref23_Parse.j3 kq l0 x6_1 x231000_1 x231001_1 x231002_1 x231003_1 x231004_1 x231005_1 = some (r1, r2, r3, r4, r5, r6, r7, r8)) ∧ Aside0 (kq ≤ k) ∧ Aside0 (Kd.V (Kd.int .u8) 5 wc w.heap.size (fun k_ => (P0_ k_ ∨ w.heap.size ≤ k_) ∧ some k_ ≠ (u231003 : Value).ownBlock ∧ k_ ≠ gb229 ∧ k_ ≠ gb230) (.slice A0 l0.length c0) l0) ∧ Aside0 (Kd.R (Kd.int .u8) 5 wc w.heap.size (fun k_ => (w.heap.size ≤ k_)) u231003 x231003_1) ∧ Aside0 (wc.heap[gb229]? = some (.cells #[.int .u8 x230000_1, .int .i64 x230001_1, .int .u8 x230002_1, (.slice none 0 0), .int .i64 x230004_1, .bool x230005_1] 25 (0, 0))) ∧ Aside0 (wc.heap[gb230]? = some (.cells #[.int .u8 x231000_1, .int .i64 x231001_1, .int .u8 x231002_1, u231003, .int .i64 x231004_1, .bool x231005_1] 25 (0, 0))) ∧ Aside0 (Below w.heap.size w wc))
  case first =>
    have H := HC2.out
    clear HC2
    by_cases c5 : (l0.length : Int) > 0
    · rw [if_pos c5] at H
      have c5b0 : decide (0 < (l0.length : Int)) = true := decide_eq_true c5
      have c5b1 : decide (0 < l0.length) = true := decide_eq_true (by omega)
      clear c5
      (first | rw [c5b0] | rw [c5b1] | (simp only [i64_w, i32_w]; first | rw [c5b0] | rw [c5b1]) | skip)
      by_cases c6 : 0 < (l0.length : Int)
      · rw [if_pos c6] at H
        have c6b0 : decide (0 < (l0.length : Int)) = true := decide_eq_true c6
        have c6b1 : decide (0 < l0.length) = true := decide_eq_true (by omega)
        clear c6
        have HC7 := Aside0.mk H
        clear H
        have p231 : 0 ≤ (0 : Int) := (by omega)
        have q231 : 0 < (l0.length : Int) := of_decide_eq_true (by first | (with_reducible assumption) | assumption)
        obtain ⟨ad231, e231, hx231_0⟩ := Kd.at_int (Kd.V_reads' HO0.out).2.2 0 p231 q231
        cases e231
        have qi231 : (0 < l0.length) = True := eq_true (by omega)
        (try rw [show ((0 : Int)).toNat = 0 from rfl] at hx231_0)
        (try rw [Addr.add_zero'] at hx231_0)
        replace p231 := eq_true p231
        replace q231 := eq_true q231
        go_upto_region 5 with (fail)
        go_cut [22] (fun v22 wc => ∃ (kq : Nat) (x22_6 : Bool), v22 = .bool x22_6 ∧ Aside0 (quoinref23_Parse.j0 kq l0 0 (rd l0 0) x22_6 0 0 0 0 false = some (r1, r2, r3, r4, r5, r6, r7, r8)) ∧ Aside0 (kq ≤ k) ∧ Aside0 (Kd.V (Kd.int .u8) 5 wc w.heap.size (fun k_ => (P0_ k_ ∨ w.heap.size ≤ k_) ∧ k_ ≠ gb229 ∧ k_ ≠ gb230) (.slice (some ad231) l0.length c0) l0) ∧ Aside0 (wc.heap[gb229]? = some (.cells #[.int .u8 0, .int .i64 0, .int .u8 0, (.slice none 0 0), .int .i64 0, .bool false] 25 (0, 0))) ∧ Aside0 (wc.heap[gb230]? = some (.cells #[.int .u8 0, .int .i64 0, .int .u8 0, (.slice none 0 0), .int .i64 0, .bool false] 25 (0, 0))) ∧ Aside0 (Below w.heap.size w wc))
        case first =>
          have H := HC7.out
          clear HC7
          by_cases c8 : (rd l0 0) ≥ 48
          · rw [if_pos c8] at H
            have c8b0 : decide (48 ≤ (rd l0 0)) = true := decide_eq_true c8
            clear c8
            (first | rw [c8b0] | rw [c8b1] | (simp only [i64_w, i32_w]; first | rw [c8b0] | rw [c8b1]) | skip)
            have H' := Aside0.mk H
            clear H
            go_wp2
            go_meet
            case rel => exact ⟨_, (decide ((rd l0 0) ≤ 57)), (by first | rfl | (simp; done) | (simp [*]; done)), H', ⟨by first | omega | exact Nat.le_refl _⟩, ⟨by (with_reducible repeat (first | apply Kd.V_alloc | apply Kd.V_drewN | apply Kd.V_drew)); exact Kd.V_mono HO0.out (fun _ hk => ⟨hk.1.1, ⟨hk.1.2, hk.2⟩⟩)⟩, ⟨by (with_reducible repeat (first | refine blk_drewN ?_ _ | refine blk_drew ?_ | refine blk_alloc ?_ _)); exact BK229.out⟩, ⟨by (with_reducible repeat (first | refine blk_drewN ?_ _ | refine blk_drew ?_ | refine blk_alloc ?_ _)); exact BK230.out⟩, ⟨by repeat (first | (with_reducible first | exact HB.out | apply below_alloc | apply pw_below_drewN | apply below_drew1 | refine below_set ?_ GE229.out | refine below_set ?_ GE230.out) | exact HB.out)⟩⟩
          · rw [if_neg c8] at H
            have c8b0 : decide (48 ≤ (rd l0 0)) = false := decide_eq_false c8
            clear c8
            (first | rw [c8b0] | rw [c8b1] | (simp only [i64_w, i32_w]; first | rw [c8b0] | rw [c8b1]) | skip)
            have H' := Aside0.mk H
            clear H
            go_wp2
            go_meet
            case rel => exact ⟨_, (false), (by first | rfl | (simp; done) | (simp [*]; done)), H', ⟨by first | omega | exact Nat.le_refl _⟩, ⟨by (with_reducible repeat (first | apply Kd.V_alloc | apply Kd.V_drewN | apply Kd.V_drew)); exact Kd.V_mono HO0.out (fun _ hk => ⟨hk.1.1, ⟨hk.1.2, hk.2⟩⟩)⟩, ⟨by (with_reducible repeat (first | refine blk_drewN ?_ _ | refine blk_drew ?_ | refine blk_alloc ?_ _)); exact BK229.out⟩, ⟨by (with_reducible repeat (first | refine blk_drewN ?_ _ | refine blk_drew ?_ | refine blk_alloc ?_ _)); exact BK230.out⟩, ⟨by repeat (first | (with_reducible first | exact HB.out | apply below_alloc | apply pw_below_drewN | apply below_drew1 | refine below_set ?_ GE229.out | refine below_set ?_ GE230.out) | exact HB.out)⟩⟩
        case rest =>
          clear HC7
          try clear c1
          try clear p2
          try clear q2
          try clear hx2
          try clear qi2
          try clear c5
          try clear c5b0
          try clear c5b1
          try clear c6
          try clear c6b0
          try clear c6b1
          try clear c8
          try clear c8b0
          try clear hx231_0
          try clear p231
          try clear q231
          obtain ⟨kq, x22_6, rfl, HA, HJ6, HO_0, BK229, BK230, HB⟩ := hcut
          cases kq with
          | zero => exact absurd HA.out (by simp [quoinref23_Parse.j0])
          | succ kj6 =>
            have H := HA.out
            clear HA
            simp only [quoinref23_Parse.j0] at H
            by_cases c9 : x22_6 = true
            · subst c9
              have H1 : ((quoinref23_number.f kj6 l0).bind fun bt232 => (if bt232.2.2 = true then (quoinref23_Parse.j3 kj6 l0 bt232.2.1 110 bt232.1 0 ([] : List Int) 0 true) else (some (0, 0, 0, ([] : List Int), 0, false, 0, 230)))) = some (r1, r2, r3, r4, r5, r6, r7, r8) := by rw [if_pos rfl] at H; exact H
              clear H
              have H := H1
              clear H1
              replace H := Option.bind_eq_some_iff.mp H
              obtain ⟨⟨t232, t233, t234⟩, A100, H⟩ := H
              replace H : (if t234 = true then (quoinref23_Parse.j3 kj6 l0 t233 110 t232 0 ([] : List Int) 0 true) else (some (0, 0, 0, ([] : List Int), 0, false, 0, 230))) = some (r1, r2, r3, r4, r5, r6, r7, r8) := H
              have A10 := Aside0.mk A100
              clear A100
              by_cases c11 : t234 = true
              · subst c11
                have H1 : (quoinref23_Parse.j3 kj6 l0 t233 110 t232 0 ([] : List Int) 0 true) = some (r1, r2, r3, r4, r5, r6, r7, r8) := by rw [if_pos rfl] at H; exact H
                clear H
                have H := H1
                clear H1
                have H' := Aside0.mk H
                clear H
                go_wp2_with (first | ((with_reducible refine gate_callee (f := 22) rfl ?_); refine goesL_ (some 31) rfl rfl Tryd.func22 (by kernel_rfl) rfl #[.slice (some ad231) l0.length c0] rfl (by (try simp only [List.map_toArray, List.map_cons, List.map_nil]); first | done | rfl | (simp only [List.length_drop, List.length_take]; rfl)) ?_; (with_reducible refine (quoinref23_number.calls kj6 _ _ l0 t232 t233 true _ ?side1 ?side2 A10.out).mono ?_); (case side1 => repeat (first | exact (Kd.V_reads' HO_0.out).2.2 | (with_reducible refine Kd.C_alloc ?_ _) | (with_reducible refine Kd.C_drewN ?_ _) | (with_reducible refine Kd.C_drew ?_))); (case side2 => exact (Kd.V_reads' HO_0.out).2.1); rintro e w' ⟨rfl, ⟨nd, rfl⟩⟩; refine ⟨_, rfl, ?_⟩; (try (rw [drewN_self wc]; generalize hq_ : World.drewN wc _ = wc; have n0_ : Aside0 (Kd.V (Kd.int .u8) 5 wc w.heap.size (fun k_ => (P0_ k_ ∨ w.heap.size ≤ k_) ∧ k_ ≠ gb229 ∧ k_ ≠ gb230) (.slice (some ad231) l0.length c0) l0) := ⟨by rw [← hq_]; exact (by (with_reducible repeat (first | apply Kd.V_alloc | apply Kd.V_drewN | apply Kd.V_drew)); exact HO_0.out)⟩; have n1_ : Aside0 (wc.heap[gb229]? = some (.cells #[.int .u8 0, .int .i64 0, .int .u8 0, .slice none 0 0, .int .i64 0, .bool false] 25 (0, 0))) := ⟨by rw [← hq_]; exact (by (with_reducible repeat (first | refine blk_drewN ?_ _ | refine blk_drew ?_ | refine blk_alloc ?_ _)); exact BK229.out)⟩; have n2_ : Aside0 (wc.heap[gb230]? = some (.cells #[.int .u8 0, .int .i64 0, .int .u8 0, .slice none 0 0, .int .i64 0, .bool false] 25 (0, 0))) := ⟨by rw [← hq_]; exact (by (with_reducible repeat (first | refine blk_drewN ?_ _ | refine blk_drew ?_ | refine blk_alloc ?_ _)); exact BK230.out)⟩; have n3_ : Aside0 (Below w.heap.size w wc) := ⟨by rw [← hq_]; exact (by repeat (first | (with_reducible first | exact HB.out | apply below_alloc | apply pw_below_drewN | apply below_drew1 | refine below_set ?_ GE229.out | refine below_set ?_ GE230.out) | exact HB.out))⟩; clear HO_0 BK229 BK230 HB hq_; have HO_0 := n0_; have BK229 := n1_; have BK230 := n2_; have HB := n3_; clear n0_ n1_ n2_ n3_)); (try have hcy229_0 : wc.cell? ⟨gb229, 0, none⟩ = some (.int .u8 0) := (blk_cell BK229.out 0).trans rfl); (try have hfy229_0 := blk_frozen BK229.out 0); (try have hcy229_1 : wc.cell? ⟨gb229, 1, none⟩ = some (.int .i64 0) := (blk_cell BK229.out 1).trans rfl); (try have hfy229_1 := blk_frozen BK229.out 1); (try have hcy229_2 : wc.cell? ⟨gb229, 2, none⟩ = some (.int .u8 0) := (blk_cell BK229.out 2).trans rfl); (try have hfy229_2 := blk_frozen BK229.out 2); (try have hcy229_3 : wc.cell? ⟨gb229, 3, none⟩ = some (.slice none 0 0) := (blk_cell BK229.out 3).trans rfl); (try have hfy229_3 := blk_frozen BK229.out 3); (try have hcy229_4 : wc.cell? ⟨gb229, 4, none⟩ = some (.int .i64 0) := (blk_cell BK229.out 4).trans rfl); (try have hfy229_4 := blk_frozen BK229.out 4); (try have hcy229_5 : wc.cell? ⟨gb229, 5, none⟩ = some (.bool false) := (blk_cell BK229.out 5).trans rfl); (try have hfy229_5 := blk_frozen BK229.out 5); (try have hcy230_0 : wc.cell? ⟨gb230, 0, none⟩ = some (.int .u8 0) := (blk_cell BK230.out 0).trans rfl); (try have hfy230_0 := blk_frozen BK230.out 0); (try have hcy230_1 : wc.cell? ⟨gb230, 1, none⟩ = some (.int .i64 0) := (blk_cell BK230.out 1).trans rfl); (try have hfy230_1 := blk_frozen BK230.out 1); (try have hcy230_2 : wc.cell? ⟨gb230, 2, none⟩ = some (.int .u8 0) := (blk_cell BK230.out 2).trans rfl); (try have hfy230_2 := blk_frozen BK230.out 2); (try have hcy230_3 : wc.cell? ⟨gb230, 3, none⟩ = some (.slice none 0 0) := (blk_cell BK230.out 3).trans rfl); (try have hfy230_3 := blk_frozen BK230.out 3); (try have hcy230_4 : wc.cell? ⟨gb230, 4, none⟩ = some (.int .i64 0) := (blk_cell BK230.out 4).trans rfl); (try have hfy230_4 := blk_frozen BK230.out 4); (try have hcy230_5 : wc.cell? ⟨gb230, 5, none⟩ = some (.bool false) := (blk_cell BK230.out 5).trans rfl); (try have hfy230_5 := blk_frozen BK230.out 5); have hnb12 := NB230_229.out; have hnc12 := NB229_230.out; have hcz13_0 : wc.cell? ⟨gb230, 0, none⟩ = some (.int .u8 0) := (blk_cell BK230.out 0).trans rfl; have hcz13_1 : wc.cell? ⟨gb230, 1, none⟩ = some (.int .i64 0) := (blk_cell BK230.out 1).trans rfl; have hcz13_2 : wc.cell? ⟨gb230, 2, none⟩ = some (.int .u8 0) := (blk_cell BK230.out 2).trans rfl; have hcz13_3 : wc.cell? ⟨gb230, 3, none⟩ = some (.slice none 0 0) := (blk_cell BK230.out 3).trans rfl; have hcz13_4 : wc.cell? ⟨gb230, 4, none⟩ = some (.int .i64 0) := (blk_cell BK230.out 4).trans rfl; have hcz13_5 : wc.cell? ⟨gb230, 5, none⟩ = some (.bool false) := (blk_cell BK230.out 5).trans rfl; have hfz13_0 := blk_frozen BK230.out 0; have hfz13_1 := blk_frozen BK230.out 1; have hfz13_2 := blk_frozen BK230.out 2; have hfz13_3 := blk_frozen BK230.out 3; have hfz13_4 := blk_frozen BK230.out 4; have hfz13_5 := blk_frozen BK230.out 5))
                go_meet
                case rel => exact ⟨_, (t233), (0), (0), (0), (0), (false), (110), (t232), (0), (([] : List Int)), (0), (true), (.slice none 0 0), (by first | rfl | (simp; done) | (simp [*]; done)), H', ⟨by have := HJ6.out; first | omega | exact Nat.le_refl _⟩, ⟨by (with_reducible repeat (first | apply Kd.V_alloc | apply Kd.V_drewN | apply Kd.V_drew)); exact Kd.V_mono (Kd.V_far (p := ⟨gb230, 5, none⟩) (Kd.V_far (p := ⟨gb230, 4, none⟩) (Kd.V_far (p := ⟨gb230, 3, none⟩) (Kd.V_far (p := ⟨gb230, 2, none⟩) (Kd.V_far (p := ⟨gb230, 1, none⟩) (Kd.V_far (p := ⟨gb230, 0, none⟩) (Kd.V_mono HO_0.out (fun k_ hk => (⟨hk, hk.2.2⟩ : _ ∧ k_ ≠ gb230))) (fun _ hk => hk.2) (.int .u8 110)) (fun _ hk => hk.2) (.int .i64 t232)) (fun _ hk => hk.2) (.int .u8 0)) (fun _ hk => hk.2) (.slice none 0 0)) (fun _ hk => hk.2) (.int .i64 0)) (fun _ hk => hk.2) (.bool true)) (fun _ hk => ⟨hk.1.1, ⟨(by simp [Value.ownBlock]), ⟨hk.1.2.1, hk.1.2.2⟩⟩⟩)⟩, ⟨by first | exact Kd.R_nil _ _ _ _ _ | exact Kd.N_nil _ _ _ _ _ | exact Kd.V_nil _ _ _ _ _ | exact Kd.Q_nil _ _ _ _ _ | exact Kd.S_nil _ _ _ _ _⟩, ⟨by (with_reducible repeat (first | refine blk_drewN ?_ _ | refine blk_drew ?_ | refine blk_alloc ?_ _)); refine blk_far ?_ NB229_230.out _; (with_reducible repeat (first | refine blk_drewN ?_ _ | refine blk_drew ?_ | refine blk_alloc ?_ _)); refine blk_far ?_ NB229_230.out _; (with_reducible repeat (first | refine blk_drewN ?_ _ | refine blk_drew ?_ | refine blk_alloc ?_ _)); refine blk_far ?_ NB229_230.out _; (with_reducible repeat (first | refine blk_drewN ?_ _ | refine blk_drew ?_ | refine blk_alloc ?_ _)); refine blk_far ?_ NB229_230.out _; (with_reducible repeat (first | refine blk_drewN ?_ _ | refine blk_drew ?_ | refine blk_alloc ?_ _)); refine blk_far ?_ NB229_230.out _; (with_reducible repeat (first | refine blk_drewN ?_ _ | refine blk_drew ?_ | refine blk_alloc ?_ _)); refine blk_far ?_ NB229_230.out _; (with_reducible repeat (first | refine blk_drewN ?_ _ | refine blk_drew ?_ | refine blk_alloc ?_ _)); exact BK229.out⟩, ⟨by (with_reducible repeat (first | refine blk_drewN ?_ _ | refine blk_drew ?_ | refine blk_alloc ?_ _)); refine blk_put (cs := #[.int .u8 110, .int .i64 t232, .int .u8 0, .slice none 0 0, .int .i64 0, .bool false]) ?_ 5 _ rfl; (with_reducible repeat (first | refine blk_drewN ?_ _ | refine blk_drew ?_ | refine blk_alloc ?_ _)); refine blk_put (cs := #[.int .u8 110, .int .i64 t232, .int .u8 0, .slice none 0 0, .int .i64 0, .bool false]) ?_ 4 _ rfl; (with_reducible repeat (first | refine blk_drewN ?_ _ | refine blk_drew ?_ | refine blk_alloc ?_ _)); refine blk_put (cs := #[.int .u8 110, .int .i64 t232, .int .u8 0, .slice none 0 0, .int .i64 0, .bool false]) ?_ 3 _ rfl; (with_reducible repeat (first | refine blk_drewN ?_ _ | refine blk_drew ?_ | refine blk_alloc ?_ _)); refine blk_put (cs := #[.int .u8 110, .int .i64 t232, .int .u8 0, .slice none 0 0, .int .i64 0, .bool false]) ?_ 2 _ rfl; (with_reducible repeat (first | refine blk_drewN ?_ _ | refine blk_drew ?_ | refine blk_alloc ?_ _)); refine blk_put (cs := #[.int .u8 110, .int .i64 0, .int .u8 0, .slice none 0 0, .int .i64 0, .bool false]) ?_ 1 _ rfl; (with_reducible repeat (first | refine blk_drewN ?_ _ | refine blk_drew ?_ | refine blk_alloc ?_ _)); refine blk_put (cs := #[.int .u8 0, .int .i64 0, .int .u8 0, .slice none 0 0, .int .i64 0, .bool false]) ?_ 0 _ rfl; (with_reducible repeat (first | refine blk_drewN ?_ _ | refine blk_drew ?_ | refine blk_alloc ?_ _)); exact BK230.out⟩, ⟨by repeat (first | (with_reducible first | exact HB.out | apply below_alloc | apply pw_below_drewN | apply below_drew1 | refine below_set ?_ GE229.out | refine below_set ?_ GE230.out) | exact HB.out)⟩⟩
              · replace c11 := Bool.eq_false_iff.mpr c11
                subst c11
                have H1 : (some (0, 0, 0, ([] : List Int), 0, false, 0, 230)) = some (r1, r2, r3, r4, r5, r6, r7, r8) := by rw [if_neg (show ¬ (false = true) by decide)] at H; exact H
                clear H
                have H := H1
                clear H1
                simp only [Option.some.injEq, Prod.mk.injEq] at H
                obtain ⟨rfl, rfl, rfl, rfl, rfl, rfl, rfl, rfl⟩ := H
                go_wp2_with (first | ((with_reducible refine gate_callee (f := 22) rfl ?_); refine goesL_ (some 31) rfl rfl Tryd.func22 (by kernel_rfl) rfl #[.slice (some ad231) l0.length c0] rfl (by (try simp only [List.map_toArray, List.map_cons, List.map_nil]); first | done | rfl | (simp only [List.length_drop, List.length_take]; rfl)) ?_; (with_reducible refine (quoinref23_number.calls kj6 _ _ l0 t232 t233 false _ ?side1 ?side2 A10.out).mono ?_); (case side1 => repeat (first | exact (Kd.V_reads' HO_0.out).2.2 | (with_reducible refine Kd.C_alloc ?_ _) | (with_reducible refine Kd.C_drewN ?_ _) | (with_reducible refine Kd.C_drew ?_))); (case side2 => exact (Kd.V_reads' HO_0.out).2.1); rintro e w' ⟨rfl, ⟨nd, rfl⟩⟩; refine ⟨_, rfl, ?_⟩; (try (rw [drewN_self wc]; generalize hq_ : World.drewN wc _ = wc; have n0_ : Aside0 (Kd.V (Kd.int .u8) 5 wc w.heap.size (fun k_ => (P0_ k_ ∨ w.heap.size ≤ k_) ∧ k_ ≠ gb229 ∧ k_ ≠ gb230) (.slice (some ad231) l0.length c0) l0) := ⟨by rw [← hq_]; exact (by (with_reducible repeat (first | apply Kd.V_alloc | apply Kd.V_drewN | apply Kd.V_drew)); exact HO_0.out)⟩; have n1_ : Aside0 (wc.heap[gb229]? = some (.cells #[.int .u8 0, .int .i64 0, .int .u8 0, .slice none 0 0, .int .i64 0, .bool false] 25 (0, 0))) := ⟨by rw [← hq_]; exact (by (with_reducible repeat (first | refine blk_drewN ?_ _ | refine blk_drew ?_ | refine blk_alloc ?_ _)); exact BK229.out)⟩; have n2_ : Aside0 (wc.heap[gb230]? = some (.cells #[.int .u8 0, .int .i64 0, .int .u8 0, .slice none 0 0, .int .i64 0, .bool false] 25 (0, 0))) := ⟨by rw [← hq_]; exact (by (with_reducible repeat (first | refine blk_drewN ?_ _ | refine blk_drew ?_ | refine blk_alloc ?_ _)); exact BK230.out)⟩; have n3_ : Aside0 (Below w.heap.size w wc) := ⟨by rw [← hq_]; exact (by repeat (first | (with_reducible first | exact HB.out | apply below_alloc | apply pw_below_drewN | apply below_drew1 | refine below_set ?_ GE229.out | refine below_set ?_ GE230.out) | exact HB.out))⟩; clear HO_0 BK229 BK230 HB hq_; have HO_0 := n0_; have BK229 := n1_; have BK230 := n2_; have HB := n3_; clear n0_ n1_ n2_ n3_)); (try have hcy229_0 : wc.cell? ⟨gb229, 0, none⟩ = some (.int .u8 0) := (blk_cell BK229.out 0).trans rfl); (try have hfy229_0 := blk_frozen BK229.out 0); (try have hcy229_1 : wc.cell? ⟨gb229, 1, none⟩ = some (.int .i64 0) := (blk_cell BK229.out 1).trans rfl); (try have hfy229_1 := blk_frozen BK229.out 1); (try have hcy229_2 : wc.cell? ⟨gb229, 2, none⟩ = some (.int .u8 0) := (blk_cell BK229.out 2).trans rfl); (try have hfy229_2 := blk_frozen BK229.out 2); (try have hcy229_3 : wc.cell? ⟨gb229, 3, none⟩ = some (.slice none 0 0) := (blk_cell BK229.out 3).trans rfl); (try have hfy229_3 := blk_frozen BK229.out 3); (try have hcy229_4 : wc.cell? ⟨gb229, 4, none⟩ = some (.int .i64 0) := (blk_cell BK229.out 4).trans rfl); (try have hfy229_4 := blk_frozen BK229.out 4); (try have hcy229_5 : wc.cell? ⟨gb229, 5, none⟩ = some (.bool false) := (blk_cell BK229.out 5).trans rfl); (try have hfy229_5 := blk_frozen BK229.out 5); (try have hcy230_0 : wc.cell? ⟨gb230, 0, none⟩ = some (.int .u8 0) := (blk_cell BK230.out 0).trans rfl); (try have hfy230_0 := blk_frozen BK230.out 0); (try have hcy230_1 : wc.cell? ⟨gb230, 1, none⟩ = some (.int .i64 0) := (blk_cell BK230.out 1).trans rfl); (try have hfy230_1 := blk_frozen BK230.out 1); (try have hcy230_2 : wc.cell? ⟨gb230, 2, none⟩ = some (.int .u8 0) := (blk_cell BK230.out 2).trans rfl); (try have hfy230_2 := blk_frozen BK230.out 2); (try have hcy230_3 : wc.cell? ⟨gb230, 3, none⟩ = some (.slice none 0 0) := (blk_cell BK230.out 3).trans rfl); (try have hfy230_3 := blk_frozen BK230.out 3); (try have hcy230_4 : wc.cell? ⟨gb230, 4, none⟩ = some (.int .i64 0) := (blk_cell BK230.out 4).trans rfl); (try have hfy230_4 := blk_frozen BK230.out 4); (try have hcy230_5 : wc.cell? ⟨gb230, 5, none⟩ = some (.bool false) := (blk_cell BK230.out 5).trans rfl); (try have hfy230_5 := blk_frozen BK230.out 5); have hnb14 := NB229_230.out; have hnc14 := NB230_229.out; have hcz15_0 : wc.cell? ⟨gb229, 0, none⟩ = some (.int .u8 0) := (blk_cell BK229.out 0).trans rfl; have hcz15_1 : wc.cell? ⟨gb229, 1, none⟩ = some (.int .i64 0) := (blk_cell BK229.out 1).trans rfl; have hcz15_2 : wc.cell? ⟨gb229, 2, none⟩ = some (.int .u8 0) := (blk_cell BK229.out 2).trans rfl; have hcz15_3 : wc.cell? ⟨gb229, 3, none⟩ = some (.slice none 0 0) := (blk_cell BK229.out 3).trans rfl; have hcz15_4 : wc.cell? ⟨gb229, 4, none⟩ = some (.int .i64 0) := (blk_cell BK229.out 4).trans rfl; have hcz15_5 : wc.cell? ⟨gb229, 5, none⟩ = some (.bool false) := (blk_cell BK229.out 5).trans rfl; have hfz15_0 := blk_frozen BK229.out 0; have hfz15_1 := blk_frozen BK229.out 1; have hfz15_2 := blk_frozen BK229.out 2; have hfz15_3 := blk_frozen BK229.out 3; have hfz15_4 := blk_frozen BK229.out 4; have hfz15_5 := blk_frozen BK229.out 5))
                refine bodyPost_ret (results_ctt rfl _ _ gb229 25 #[.int .u8 0, .int .i64 0, .int .u8 0, .slice none 0 0, .int .i64 0, .bool false] (0, 0) _ rfl (by (with_reducible repeat (first | refine blk_drewN ?_ _ | refine blk_drew ?_ | refine blk_alloc ?_ _)); refine blk_put (cs := #[.int .u8 0, .int .i64 0, .int .u8 0, .slice none 0 0, .int .i64 0, .bool false]) ?_ 5 _ rfl; (with_reducible repeat (first | refine blk_drewN ?_ _ | refine blk_drew ?_ | refine blk_alloc ?_ _)); refine blk_put (cs := #[.int .u8 0, .int .i64 0, .int .u8 0, .slice none 0 0, .int .i64 0, .bool false]) ?_ 4 _ rfl; (with_reducible repeat (first | refine blk_drewN ?_ _ | refine blk_drew ?_ | refine blk_alloc ?_ _)); refine blk_put (cs := #[.int .u8 0, .int .i64 0, .int .u8 0, .slice none 0 0, .int .i64 0, .bool false]) ?_ 3 _ rfl; (with_reducible repeat (first | refine blk_drewN ?_ _ | refine blk_drew ?_ | refine blk_alloc ?_ _)); refine blk_put (cs := #[.int .u8 0, .int .i64 0, .int .u8 0, .slice none 0 0, .int .i64 0, .bool false]) ?_ 2 _ rfl; (with_reducible repeat (first | refine blk_drewN ?_ _ | refine blk_drew ?_ | refine blk_alloc ?_ _)); refine blk_put (cs := #[.int .u8 0, .int .i64 0, .int .u8 0, .slice none 0 0, .int .i64 0, .bool false]) ?_ 1 _ rfl; (with_reducible repeat (first | refine blk_drewN ?_ _ | refine blk_drew ?_ | refine blk_alloc ?_ _)); refine blk_put (cs := #[.int .u8 0, .int .i64 0, .int .u8 0, .slice none 0 0, .int .i64 0, .bool false]) ?_ 0 _ rfl; (with_reducible repeat (first | refine blk_drewN ?_ _ | refine blk_drew ?_ | refine blk_alloc ?_ _)); exact BK229.out) Tryd.underlying25 rfl (by kernel_rfl)) rfl ?_
                exact ⟨_, by first | rfl | (simp [errW_none, errW_some] <;> rfl) | (simp [*, errW_none, errW_some] <;> rfl), by first | exact Kd.R_nil _ _ _ _ _ | exact Kd.N_nil _ _ _ _ _ | exact Kd.V_nil _ _ _ _ _ | exact Kd.Q_nil _ _ _ _ _ | exact Kd.S_nil _ _ _ _ _, by repeat (first | (with_reducible first | exact HB.out | apply below_alloc | apply pw_below_drewN | apply below_drew1 | refine below_set ?_ GE229.out | refine below_set ?_ GE230.out) | exact HB.out)⟩
            · replace c9 := Bool.eq_false_iff.mpr c9
              subst c9
              have H1 : (if (rd l0 0) = 46 then (quoinref23_Parse.j1 kj6 l0 0 (rd l0 0) true 0 0 0 0 false) else (quoinref23_Parse.j1 kj6 l0 0 (rd l0 0) ((rd l0 0) == 36) 0 0 0 0 false)) = some (r1, r2, r3, r4, r5, r6, r7, r8) := by rw [if_neg (show ¬ (false = true) by decide)] at H; exact H
              clear H
              have H := H1
              clear H1
              have HC16 := Aside0.mk H
              clear H
              go_upto_region 11 with (fail)
              go_cut [41] (fun v41 wc => ∃ (kq : Nat) (x41_15 : Bool), v41 = .bool x41_15 ∧ Aside0 (quoinref23_Parse.j1 kq l0 0 (rd l0 0) x41_15 0 0 0 0 false = some (r1, r2, r3, r4, r5, r6, r7, r8)) ∧ Aside0 (kq ≤ kj6) ∧ Aside0 (Kd.V (Kd.int .u8) 5 wc w.heap.size (fun k_ => (P0_ k_ ∨ w.heap.size ≤ k_) ∧ k_ ≠ gb229 ∧ k_ ≠ gb230) (.slice (some ad231) l0.length c0) l0) ∧ Aside0 (wc.heap[gb229]? = some (.cells #[.int .u8 0, .int .i64 0, .int .u8 0, (.slice none 0 0), .int .i64 0, .bool false] 25 (0, 0))) ∧ Aside0 (wc.heap[gb230]? = some (.cells #[.int .u8 0, .int .i64 0, .int .u8 0, (.slice none 0 0), .int .i64 0, .bool false] 25 (0, 0))) ∧ Aside0 (Below w.heap.size w wc))
              case first =>
                have H := HC16.out
                clear HC16
                by_cases c17 : (rd l0 0) = 46
                · rw [if_pos c17] at H
                  have c17b0 : ((rd l0 0) == 46) = true := beq_iff_eq.mpr c17
                  have c17b1 : ((rd l0 0) != 46) = false := bne_eq_false_iff_eq.mpr c17
                  clear c17
                  (first | rw [c17b0] | rw [c17b1] | (simp only [i64_w, i32_w]; first | rw [c17b0] | rw [c17b1]) | skip)
                  have H' := Aside0.mk H
                  clear H
                  go_wp2
                  go_meet
                  case rel => exact ⟨_, (true), (by first | rfl | (simp; done) | (simp [*]; done)), H', ⟨by have := HJ6.out; first | omega | exact Nat.le_refl _⟩, ⟨by (with_reducible repeat (first | apply Kd.V_alloc | apply Kd.V_drewN | apply Kd.V_drew)); exact HO_0.out⟩, ⟨by (with_reducible repeat (first | refine blk_drewN ?_ _ | refine blk_drew ?_ | refine blk_alloc ?_ _)); exact BK229.out⟩, ⟨by (with_reducible repeat (first | refine blk_drewN ?_ _ | refine blk_drew ?_ | refine blk_alloc ?_ _)); exact BK230.out⟩, ⟨by repeat (first | (with_reducible first | exact HB.out | apply below_alloc | apply pw_below_drewN | apply below_drew1 | refine below_set ?_ GE229.out | refine below_set ?_ GE230.out) | exact HB.out)⟩⟩
                · rw [if_neg c17] at H
                  have c17b0 : ((rd l0 0) == 46) = false := beq_eq_false_iff_ne.mpr c17
                  have c17b1 : ((rd l0 0) != 46) = true := bne_iff_ne.mpr c17
                  (first | rw [c17b0] | rw [c17b1] | (simp only [i64_w, i32_w]; first | rw [c17b0] | rw [c17b1]) | skip)
                  have H' := Aside0.mk H
                  clear H
                  go_wp2
                  go_meet
                  case rel => exact ⟨_, (((rd l0 0) == 36)), (by first | rfl | (simp; done) | (simp [*]; done)), H', ⟨by have := HJ6.out; first | omega | exact Nat.le_refl _⟩, ⟨by (with_reducible repeat (first | apply Kd.V_alloc | apply Kd.V_drewN | apply Kd.V_drew)); exact HO_0.out⟩, ⟨by (with_reducible repeat (first | refine blk_drewN ?_ _ | refine blk_drew ?_ | refine blk_alloc ?_ _)); exact BK229.out⟩, ⟨by (with_reducible repeat (first | refine blk_drewN ?_ _ | refine blk_drew ?_ | refine blk_alloc ?_ _)); exact BK230.out⟩, ⟨by repeat (first | (with_reducible first | exact HB.out | apply below_alloc | apply pw_below_drewN | apply below_drew1 | refine below_set ?_ GE229.out | refine below_set ?_ GE230.out) | exact HB.out)⟩⟩
              case rest =>
                clear HC16
                try clear c1
                try clear c2
                try clear p2
                try clear q2
                try clear hx2
                try clear qi2
                try clear c5
                try clear c5b0
                try clear c5b1
                try clear c6
                try clear c6b0
                try clear c6b1
                try clear c8
                try clear c8b0
                try clear c9
                try clear c11
                try clear c12
                try clear c14
                try clear c17
                try clear c17b0
                try clear c17b1
                try clear hcz13_0
                try clear hcz13_1
                try clear hcz13_2
                try clear hcz13_3
                try clear hcz13_4
                try clear hcz13_5
                try clear hcz15_0
                try clear hcz15_1
                try clear hcz15_2
                try clear hcz15_3
                try clear hcz15_4
                try clear hcz15_5
                try clear hfz13_0
                try clear hfz13_1
                try clear hfz13_2
                try clear hfz13_3
                try clear hfz13_4
                try clear hfz13_5
                try clear hfz15_0
                try clear hfz15_1
                try clear hfz15_2
                try clear hfz15_3
                try clear hfz15_4
                try clear hfz15_5
                try clear hx231_0
                try clear p2
                try clear p231
                try clear q2
                try clear q231
                obtain ⟨kq, x41_15, rfl, HA, HJ15, HO_0, BK229, BK230, HB⟩ := hcut
                cases kq with
                | zero => exact absurd HA.out (by simp [quoinref23_Parse.j1])
                | succ kj15 =>
                  have H := HA.out
                  clear HA
                  simp only [quoinref23_Parse.j1] at H
                  by_cases c18 : x41_15 = true
                  · subst c18
                    have H1 : (quoinref23_Parse.j3 kj15 l0 1 (rd l0 0) 0 0 ([] : List Int) 0 true) = some (r1, r2, r3, r4, r5, r6, r7, r8) := by rw [if_pos rfl] at H; exact H
                    clear H
                    have H := H1
                    clear H1
                    have H' := Aside0.mk H
                    clear H
                    have hnb19 := NB230_229.out
                    have hnc19 := NB229_230.out
                    have hcz20_0 : wc.cell? ⟨gb230, 0, none⟩ = some (.int .u8 0) := (blk_cell BK230.out 0).trans rfl
                    have hcz20_1 : wc.cell? ⟨gb230, 1, none⟩ = some (.int .i64 0) := (blk_cell BK230.out 1).trans rfl
                    have hcz20_2 : wc.cell? ⟨gb230, 2, none⟩ = some (.int .u8 0) := (blk_cell BK230.out 2).trans rfl
                    have hcz20_3 : wc.cell? ⟨gb230, 3, none⟩ = some (.slice none 0 0) := (blk_cell BK230.out 3).trans rfl
                    have hcz20_4 : wc.cell? ⟨gb230, 4, none⟩ = some (.int .i64 0) := (blk_cell BK230.out 4).trans rfl
                    have hcz20_5 : wc.cell? ⟨gb230, 5, none⟩ = some (.bool false) := (blk_cell BK230.out 5).trans rfl
                    have hfz20_0 := blk_frozen BK230.out 0
                    have hfz20_1 := blk_frozen BK230.out 1
                    have hfz20_2 := blk_frozen BK230.out 2
                    have hfz20_3 := blk_frozen BK230.out 3
                    have hfz20_4 := blk_frozen BK230.out 4
                    have hfz20_5 := blk_frozen BK230.out 5
                    go_wp2
                    go_meet
                    case rel => exact ⟨_, (1), (0), (0), (0), (0), (false), ((rd l0 0)), (0), (0), (([] : List Int)), (0), (true), (.slice none 0 0), (by first | rfl | (simp; done) | (simp [*]; done)), H', ⟨by have := HJ6.out; have := HJ15.out; first | omega | exact Nat.le_refl _⟩, ⟨by (with_reducible repeat (first | apply Kd.V_alloc | apply Kd.V_drewN | apply Kd.V_drew)); exact Kd.V_mono (Kd.V_far (p := ⟨gb230, 5, none⟩) (Kd.V_far (p := ⟨gb230, 4, none⟩) (Kd.V_far (p := ⟨gb230, 3, none⟩) (Kd.V_far (p := ⟨gb230, 2, none⟩) (Kd.V_far (p := ⟨gb230, 1, none⟩) (Kd.V_far (p := ⟨gb230, 0, none⟩) (Kd.V_mono HO_0.out (fun k_ hk => (⟨hk, hk.2.2⟩ : _ ∧ k_ ≠ gb230))) (fun _ hk => hk.2) (.int .u8 (rd l0 0))) (fun _ hk => hk.2) (.int .i64 0)) (fun _ hk => hk.2) (.int .u8 0)) (fun _ hk => hk.2) (.slice none 0 0)) (fun _ hk => hk.2) (.int .i64 0)) (fun _ hk => hk.2) (.bool true)) (fun _ hk => ⟨hk.1.1, ⟨(by simp [Value.ownBlock]), ⟨hk.1.2.1, hk.1.2.2⟩⟩⟩)⟩, ⟨by first | exact Kd.R_nil _ _ _ _ _ | exact Kd.N_nil _ _ _ _ _ | exact Kd.V_nil _ _ _ _ _ | exact Kd.Q_nil _ _ _ _ _ | exact Kd.S_nil _ _ _ _ _⟩, ⟨by (with_reducible repeat (first | refine blk_drewN ?_ _ | refine blk_drew ?_ | refine blk_alloc ?_ _)); refine blk_far ?_ NB229_230.out _; (with_reducible repeat (first | refine blk_drewN ?_ _ | refine blk_drew ?_ | refine blk_alloc ?_ _)); refine blk_far ?_ NB229_230.out _; (with_reducible repeat (first | refine blk_drewN ?_ _ | refine blk_drew ?_ | refine blk_alloc ?_ _)); refine blk_far ?_ NB229_230.out _; (with_reducible repeat (first | refine blk_drewN ?_ _ | refine blk_drew ?_ | refine blk_alloc ?_ _)); refine blk_far ?_ NB229_230.out _; (with_reducible repeat (first | refine blk_drewN ?_ _ | refine blk_drew ?_ | refine blk_alloc ?_ _)); refine blk_far ?_ NB229_230.out _; (with_reducible repeat (first | refine blk_drewN ?_ _ | refine blk_drew ?_ | refine blk_alloc ?_ _)); refine blk_far ?_ NB229_230.out _; (with_reducible repeat (first | refine blk_drewN ?_ _ | refine blk_drew ?_ | refine blk_alloc ?_ _)); exact BK229.out⟩, ⟨by (with_reducible repeat (first | refine blk_drewN ?_ _ | refine blk_drew ?_ | refine blk_alloc ?_ _)); refine blk_put (cs := #[.int .u8 (rd l0 0), .int .i64 0, .int .u8 0, .slice none 0 0, .int .i64 0, .bool false]) ?_ 5 _ rfl; (with_reducible repeat (first | refine blk_drewN ?_ _ | refine blk_drew ?_ | refine blk_alloc ?_ _)); refine blk_put (cs := #[.int .u8 (rd l0 0), .int .i64 0, .int .u8 0, .slice none 0 0, .int .i64 0, .bool false]) ?_ 4 _ rfl; (with_reducible repeat (first | refine blk_drewN ?_ _ | refine blk_drew ?_ | refine blk_alloc ?_ _)); refine blk_put (cs := #[.int .u8 (rd l0 0), .int .i64 0, .int .u8 0, .slice none 0 0, .int .i64 0, .bool false]) ?_ 3 _ rfl; (with_reducible repeat (first | refine blk_drewN ?_ _ | refine blk_drew ?_ | refine blk_alloc ?_ _)); refine blk_put (cs := #[.int .u8 (rd l0 0), .int .i64 0, .int .u8 0, .slice none 0 0, .int .i64 0, .bool false]) ?_ 2 _ rfl; (with_reducible repeat (first | refine blk_drewN ?_ _ | refine blk_drew ?_ | refine blk_alloc ?_ _)); refine blk_put (cs := #[.int .u8 (rd l0 0), .int .i64 0, .int .u8 0, .slice none 0 0, .int .i64 0, .bool false]) ?_ 1 _ rfl; (with_reducible repeat (first | refine blk_drewN ?_ _ | refine blk_drew ?_ | refine blk_alloc ?_ _)); refine blk_put (cs := #[.int .u8 0, .int .i64 0, .int .u8 0, .slice none 0 0, .int .i64 0, .bool false]) ?_ 0 _ rfl; (with_reducible repeat (first | refine blk_drewN ?_ _ | refine blk_drew ?_ | refine blk_alloc ?_ _)); exact BK230.out⟩, ⟨by repeat (first | (with_reducible first | exact HB.out | apply below_alloc | apply pw_below_drewN | apply below_drew1 | refine below_set ?_ GE229.out | refine below_set ?_ GE230.out) | exact HB.out)⟩⟩
                  · replace c18 := Bool.eq_false_iff.mpr c18
                    subst c18
                    have H1 : (if (rd l0 0) = 39 then (if (l0.length : Int) = 1 then (some (0, 0, 0, ([] : List Int), 0, false, 0, 230)) else (if 1 < (l0.length : Int) then (quoinref23_Parse.j3 kj15 l0 2 (rd l0 0) 0 (rd l0 1) ([] : List Int) 0 true) else (none))) else (if (rd l0 0) = 47 then (quoinref23_Parse.j2 kj15 l0 0 (rd l0 0) true 0 0 0 0 false) else (quoinref23_Parse.j2 kj15 l0 0 (rd l0 0) ((rd l0 0) == 63) 0 0 0 0 false))) = some (r1, r2, r3, r4, r5, r6, r7, r8) := by rw [if_neg (show ¬ (false = true) by decide)] at H; exact H
                    clear H
                    have H := H1
                    clear H1
                    by_cases c21 : (rd l0 0) = 39
                    · rw [if_pos c21] at H
                      have c21b0 : ((rd l0 0) == 39) = true := beq_iff_eq.mpr c21
                      have c21b1 : ((rd l0 0) != 39) = false := bne_eq_false_iff_eq.mpr c21
                      clear c21
                      by_cases c22 : (l0.length : Int) = 1
                      · rw [if_pos c22] at H
                        have c22b0 : ((l0.length : Int) == 1) = true := beq_iff_eq.mpr c22
                        have c22b1 : ((l0.length : Int) != 1) = false := bne_eq_false_iff_eq.mpr c22
                        clear c22
                        simp only [Option.some.injEq, Prod.mk.injEq] at H
                        obtain ⟨rfl, rfl, rfl, rfl, rfl, rfl, rfl, rfl⟩ := H
                        have hnb23 := NB229_230.out
                        have hnc23 := NB230_229.out
                        have hcz24_0 : wc.cell? ⟨gb229, 0, none⟩ = some (.int .u8 0) := (blk_cell BK229.out 0).trans rfl
                        have hcz24_1 : wc.cell? ⟨gb229, 1, none⟩ = some (.int .i64 0) := (blk_cell BK229.out 1).trans rfl
                        have hcz24_2 : wc.cell? ⟨gb229, 2, none⟩ = some (.int .u8 0) := (blk_cell BK229.out 2).trans rfl
                        have hcz24_3 : wc.cell? ⟨gb229, 3, none⟩ = some (.slice none 0 0) := (blk_cell BK229.out 3).trans rfl
                        have hcz24_4 : wc.cell? ⟨gb229, 4, none⟩ = some (.int .i64 0) := (blk_cell BK229.out 4).trans rfl
                        have hcz24_5 : wc.cell? ⟨gb229, 5, none⟩ = some (.bool false) := (blk_cell BK229.out 5).trans rfl
                        have hfz24_0 := blk_frozen BK229.out 0
                        have hfz24_1 := blk_frozen BK229.out 1
                        have hfz24_2 := blk_frozen BK229.out 2
                        have hfz24_3 := blk_frozen BK229.out 3
                        have hfz24_4 := blk_frozen BK229.out 4
                        have hfz24_5 := blk_frozen BK229.out 5
                        go_wp2
                        refine bodyPost_ret (results_ctt rfl _ _ gb229 25 #[.int .u8 0, .int .i64 0, .int .u8 0, .slice none 0 0, .int .i64 0, .bool false] (0, 0) _ rfl (by (with_reducible repeat (first | refine blk_drewN ?_ _ | refine blk_drew ?_ | refine blk_alloc ?_ _)); refine blk_put (cs := #[.int .u8 0, .int .i64 0, .int .u8 0, .slice none 0 0, .int .i64 0, .bool false]) ?_ 5 _ rfl; (with_reducible repeat (first | refine blk_drewN ?_ _ | refine blk_drew ?_ | refine blk_alloc ?_ _)); refine blk_put (cs := #[.int .u8 0, .int .i64 0, .int .u8 0, .slice none 0 0, .int .i64 0, .bool false]) ?_ 4 _ rfl; (with_reducible repeat (first | refine blk_drewN ?_ _ | refine blk_drew ?_ | refine blk_alloc ?_ _)); refine blk_put (cs := #[.int .u8 0, .int .i64 0, .int .u8 0, .slice none 0 0, .int .i64 0, .bool false]) ?_ 3 _ rfl; (with_reducible repeat (first | refine blk_drewN ?_ _ | refine blk_drew ?_ | refine blk_alloc ?_ _)); refine blk_put (cs := #[.int .u8 0, .int .i64 0, .int .u8 0, .slice none 0 0, .int .i64 0, .bool false]) ?_ 2 _ rfl; (with_reducible repeat (first | refine blk_drewN ?_ _ | refine blk_drew ?_ | refine blk_alloc ?_ _)); refine blk_put (cs := #[.int .u8 0, .int .i64 0, .int .u8 0, .slice none 0 0, .int .i64 0, .bool false]) ?_ 1 _ rfl; (with_reducible repeat (first | refine blk_drewN ?_ _ | refine blk_drew ?_ | refine blk_alloc ?_ _)); refine blk_put (cs := #[.int .u8 0, .int .i64 0, .int .u8 0, .slice none 0 0, .int .i64 0, .bool false]) ?_ 0 _ rfl; (with_reducible repeat (first | refine blk_drewN ?_ _ | refine blk_drew ?_ | refine blk_alloc ?_ _)); exact BK229.out) Tryd.underlying25 rfl (by kernel_rfl)) rfl ?_
                        exact ⟨_, by first | rfl | (simp [errW_none, errW_some] <;> rfl) | (simp [*, errW_none, errW_some] <;> rfl), by first | exact Kd.R_nil _ _ _ _ _ | exact Kd.N_nil _ _ _ _ _ | exact Kd.V_nil _ _ _ _ _ | exact Kd.Q_nil _ _ _ _ _ | exact Kd.S_nil _ _ _ _ _, by repeat (first | (with_reducible first | exact HB.out | apply below_alloc | apply pw_below_drewN | apply below_drew1 | refine below_set ?_ GE229.out | refine below_set ?_ GE230.out) | exact HB.out)⟩
                      · rw [if_neg c22] at H
                        have c22b0 : ((l0.length : Int) == 1) = false := beq_eq_false_iff_ne.mpr c22
                        have c22b1 : ((l0.length : Int) != 1) = true := bne_iff_ne.mpr c22
                        by_cases c25 : 1 < (l0.length : Int)
                        · rw [if_pos c25] at H
                          have c25b0 : decide (1 < (l0.length : Int)) = true := decide_eq_true c25
                          have c25b1 : decide (1 < l0.length) = true := decide_eq_true (by omega)
                          clear c25
                          have H' := Aside0.mk H
                          clear H
                          have p235 : 0 ≤ (1 : Int) := (by omega)
                          have q235 : 1 < (l0.length : Int) := of_decide_eq_true (by first | (with_reducible assumption) | assumption)
                          obtain ⟨ad235, e235, hx235_0⟩ := Kd.at_int (Kd.V_reads' HO_0.out).2.2 1 p235 q235
                          obtain rfl : ad231 = ad235 := (by injection e235)
                          (try simp only [show (1 : Int).toNat = 1 from rfl, Nat.reduceMul, Nat.reduceEqDiff, Go.Addr.add, ↓reduceIte] at hx235_0)
                          have qi235 : (1 < l0.length) = True := eq_true (by omega)
                          (try rw [show ((1 : Int)).toNat = 1 from rfl] at hx235_0)
                          replace p235 := eq_true p235
                          replace q235 := eq_true q235
                          have hnb26 := NB230_229.out
                          have hnc26 := NB229_230.out
                          have hcz27_0 : wc.cell? ⟨gb230, 0, none⟩ = some (.int .u8 0) := (blk_cell BK230.out 0).trans rfl
                          have hcz27_1 : wc.cell? ⟨gb230, 1, none⟩ = some (.int .i64 0) := (blk_cell BK230.out 1).trans rfl
                          have hcz27_2 : wc.cell? ⟨gb230, 2, none⟩ = some (.int .u8 0) := (blk_cell BK230.out 2).trans rfl
                          have hcz27_3 : wc.cell? ⟨gb230, 3, none⟩ = some (.slice none 0 0) := (blk_cell BK230.out 3).trans rfl
                          have hcz27_4 : wc.cell? ⟨gb230, 4, none⟩ = some (.int .i64 0) := (blk_cell BK230.out 4).trans rfl
                          have hcz27_5 : wc.cell? ⟨gb230, 5, none⟩ = some (.bool false) := (blk_cell BK230.out 5).trans rfl
                          have hfz27_0 := blk_frozen BK230.out 0
                          have hfz27_1 := blk_frozen BK230.out 1
                          have hfz27_2 := blk_frozen BK230.out 2
                          have hfz27_3 := blk_frozen BK230.out 3
                          have hfz27_4 := blk_frozen BK230.out 4
                          have hfz27_5 := blk_frozen BK230.out 5
                          go_wp2
                          go_meet
                          case rel => exact ⟨_, (2), (0), (0), (0), (0), (false), ((rd l0 0)), (0), (rd l0 1), (([] : List Int)), (0), (true), (.slice none 0 0), (by first | rfl | (simp; done) | (simp [*]; done)), H', ⟨by have := HJ6.out; have := HJ15.out; first | omega | exact Nat.le_refl _⟩, ⟨by (with_reducible repeat (first | apply Kd.V_alloc | apply Kd.V_drewN | apply Kd.V_drew)); exact Kd.V_mono (Kd.V_far (p := ⟨gb230, 5, none⟩) (Kd.V_far (p := ⟨gb230, 4, none⟩) (Kd.V_far (p := ⟨gb230, 3, none⟩) (Kd.V_far (p := ⟨gb230, 2, none⟩) (Kd.V_far (p := ⟨gb230, 1, none⟩) (Kd.V_far (p := ⟨gb230, 0, none⟩) (Kd.V_mono HO_0.out (fun k_ hk => (⟨hk, hk.2.2⟩ : _ ∧ k_ ≠ gb230))) (fun _ hk => hk.2) (.int .u8 (rd l0 0))) (fun _ hk => hk.2) (.int .i64 0)) (fun _ hk => hk.2) (.int .u8 (rd l0 1))) (fun _ hk => hk.2) (.slice none 0 0)) (fun _ hk => hk.2) (.int .i64 0)) (fun _ hk => hk.2) (.bool true)) (fun _ hk => ⟨hk.1.1, ⟨(by simp [Value.ownBlock]), ⟨hk.1.2.1, hk.1.2.2⟩⟩⟩)⟩, ⟨by first | exact Kd.R_nil _ _ _ _ _ | exact Kd.N_nil _ _ _ _ _ | exact Kd.V_nil _ _ _ _ _ | exact Kd.Q_nil _ _ _ _ _ | exact Kd.S_nil _ _ _ _ _⟩, ⟨by (with_reducible repeat (first | refine blk_drewN ?_ _ | refine blk_drew ?_ | refine blk_alloc ?_ _)); refine blk_far ?_ NB229_230.out _; (with_reducible repeat (first | refine blk_drewN ?_ _ | refine blk_drew ?_ | refine blk_alloc ?_ _)); refine blk_far ?_ NB229_230.out _; (with_reducible repeat (first | refine blk_drewN ?_ _ | refine blk_drew ?_ | refine blk_alloc ?_ _)); refine blk_far ?_ NB229_230.out _; (with_reducible repeat (first | refine blk_drewN ?_ _ | refine blk_drew ?_ | refine blk_alloc ?_ _)); refine blk_far ?_ NB229_230.out _; (with_reducible repeat (first | refine blk_drewN ?_ _ | refine blk_drew ?_ | refine blk_alloc ?_ _)); refine blk_far ?_ NB229_230.out _; (with_reducible repeat (first | refine blk_drewN ?_ _ | refine blk_drew ?_ | refine blk_alloc ?_ _)); refine blk_far ?_ NB229_230.out _; (with_reducible repeat (first | refine blk_drewN ?_ _ | refine blk_drew ?_ | refine blk_alloc ?_ _)); exact BK229.out⟩, ⟨by (with_reducible repeat (first | refine blk_drewN ?_ _ | refine blk_drew ?_ | refine blk_alloc ?_ _)); refine blk_put (cs := #[.int .u8 (rd l0 0), .int .i64 0, .int .u8 (rd l0 1), .slice none 0 0, .int .i64 0, .bool false]) ?_ 5 _ rfl; (with_reducible repeat (first | refine blk_drewN ?_ _ | refine blk_drew ?_ | refine blk_alloc ?_ _)); refine blk_put (cs := #[.int .u8 (rd l0 0), .int .i64 0, .int .u8 (rd l0 1), .slice none 0 0, .int .i64 0, .bool false]) ?_ 4 _ rfl; (with_reducible repeat (first | refine blk_drewN ?_ _ | refine blk_drew ?_ | refine blk_alloc ?_ _)); refine blk_put (cs := #[.int .u8 (rd l0 0), .int .i64 0, .int .u8 (rd l0 1), .slice none 0 0, .int .i64 0, .bool false]) ?_ 3 _ rfl; (with_reducible repeat (first | refine blk_drewN ?_ _ | refine blk_drew ?_ | refine blk_alloc ?_ _)); refine blk_put (cs := #[.int .u8 (rd l0 0), .int .i64 0, .int .u8 0, .slice none 0 0, .int .i64 0, .bool false]) ?_ 2 _ rfl; (with_reducible repeat (first | refine blk_drewN ?_ _ | refine blk_drew ?_ | refine blk_alloc ?_ _)); refine blk_put (cs := #[.int .u8 (rd l0 0), .int .i64 0, .int .u8 0, .slice none 0 0, .int .i64 0, .bool false]) ?_ 1 _ rfl; (with_reducible repeat (first | refine blk_drewN ?_ _ | refine blk_drew ?_ | refine blk_alloc ?_ _)); refine blk_put (cs := #[.int .u8 0, .int .i64 0, .int .u8 0, .slice none 0 0, .int .i64 0, .bool false]) ?_ 0 _ rfl; (with_reducible repeat (first | refine blk_drewN ?_ _ | refine blk_drew ?_ | refine blk_alloc ?_ _)); exact BK230.out⟩, ⟨by repeat (first | (with_reducible first | exact HB.out | apply below_alloc | apply pw_below_drewN | apply below_drew1 | refine below_set ?_ GE229.out | refine below_set ?_ GE230.out) | exact HB.out)⟩⟩
                        · rw [if_neg c25] at H
                          exact absurd H (by simp)
                    · rw [if_neg c21] at H
                      have c21b0 : ((rd l0 0) == 39) = false := beq_eq_false_iff_ne.mpr c21
                      have c21b1 : ((rd l0 0) != 39) = true := bne_iff_ne.mpr c21
                      have HC28 := Aside0.mk H
                      clear H
                      go_upto_region 19 with (fail)
                      go_cut [62] (fun v62 wc => ∃ (kq : Nat) (x62_27 : Bool), v62 = .bool x62_27 ∧ Aside0 (quoinref23_Parse.j2 kq l0 0 (rd l0 0) x62_27 0 0 0 0 false = some (r1, r2, r3, r4, r5, r6, r7, r8)) ∧ Aside0 (kq ≤ kj15) ∧ Aside0 (Kd.V (Kd.int .u8) 5 wc w.heap.size (fun k_ => (P0_ k_ ∨ w.heap.size ≤ k_) ∧ k_ ≠ gb229 ∧ k_ ≠ gb230) (.slice (some ad231) l0.length c0) l0) ∧ Aside0 (wc.heap[gb229]? = some (.cells #[.int .u8 0, .int .i64 0, .int .u8 0, (.slice none 0 0), .int .i64 0, .bool false] 25 (0, 0))) ∧ Aside0 (wc.heap[gb230]? = some (.cells #[.int .u8 0, .int .i64 0, .int .u8 0, (.slice none 0 0), .int .i64 0, .bool false] 25 (0, 0))) ∧ Aside0 (Below w.heap.size w wc))
                      case first =>
                        have H := HC28.out
                        clear HC28
                        by_cases c29 : (rd l0 0) = 47
                        · rw [if_pos c29] at H
                          have c29b0 : ((rd l0 0) == 47) = true := beq_iff_eq.mpr c29
                          have c29b1 : ((rd l0 0) != 47) = false := bne_eq_false_iff_eq.mpr c29
                          clear c29
                          (first | rw [c29b0] | rw [c29b1] | (simp only [i64_w, i32_w]; first | rw [c29b0] | rw [c29b1]) | skip)
                          have H' := Aside0.mk H
                          clear H
                          go_wp2
                          go_meet
                          case rel => exact ⟨_, (true), (by first | rfl | (simp; done) | (simp [*]; done)), H', ⟨by have := HJ6.out; have := HJ15.out; first | omega | exact Nat.le_refl _⟩, ⟨by (with_reducible repeat (first | apply Kd.V_alloc | apply Kd.V_drewN | apply Kd.V_drew)); exact HO_0.out⟩, ⟨by (with_reducible repeat (first | refine blk_drewN ?_ _ | refine blk_drew ?_ | refine blk_alloc ?_ _)); exact BK229.out⟩, ⟨by (with_reducible repeat (first | refine blk_drewN ?_ _ | refine blk_drew ?_ | refine blk_alloc ?_ _)); exact BK230.out⟩, ⟨by repeat (first | (with_reducible first | exact HB.out | apply below_alloc | apply pw_below_drewN | apply below_drew1 | refine below_set ?_ GE229.out | refine below_set ?_ GE230.out) | exact HB.out)⟩⟩
                        · rw [if_neg c29] at H
                          have c29b0 : ((rd l0 0) == 47) = false := beq_eq_false_iff_ne.mpr c29
                          have c29b1 : ((rd l0 0) != 47) = true := bne_iff_ne.mpr c29
                          (first | rw [c29b0] | rw [c29b1] | (simp only [i64_w, i32_w]; first | rw [c29b0] | rw [c29b1]) | skip)
                          have H' := Aside0.mk H
                          clear H
                          go_wp2
                          go_meet
                          case rel => exact ⟨_, (((rd l0 0) == 63)), (by first | rfl | (simp; done) | (simp [*]; done)), H', ⟨by have := HJ6.out; have := HJ15.out; first | omega | exact Nat.le_refl _⟩, ⟨by (with_reducible repeat (first | apply Kd.V_alloc | apply Kd.V_drewN | apply Kd.V_drew)); exact HO_0.out⟩, ⟨by (with_reducible repeat (first | refine blk_drewN ?_ _ | refine blk_drew ?_ | refine blk_alloc ?_ _)); exact BK229.out⟩, ⟨by (with_reducible repeat (first | refine blk_drewN ?_ _ | refine blk_drew ?_ | refine blk_alloc ?_ _)); exact BK230.out⟩, ⟨by repeat (first | (with_reducible first | exact HB.out | apply below_alloc | apply pw_below_drewN | apply below_drew1 | refine below_set ?_ GE229.out | refine below_set ?_ GE230.out) | exact HB.out)⟩⟩
                      case rest =>
                        clear HC28
                        try clear c1
                        try clear c2
                        try clear p2
                        try clear q2
                        try clear hx2
                        try clear qi2
                        try clear c5
                        try clear c5b0
                        try clear c5b1
                        try clear c6
                        try clear c6b0
                        try clear c6b1
                        try clear c8
                        try clear c8b0
                        try clear c9
                        try clear c11
                        try clear c12
                        try clear c14
                        try clear c17
                        try clear c17b0
                        try clear c17b1
                        try clear c18
                        try clear c19
                        try clear c21
                        try clear c21b0
                        try clear c21b1
                        try clear c22
                        try clear c22b0
                        try clear c22b1
                        try clear c23
                        try clear p23
                        try clear q23
                        try clear hx23
                        try clear qi23
                        try clear c25
                        try clear c25b0
                        try clear c25b1
                        try clear c26
                        try clear c29
                        try clear c29b0
                        try clear c29b1
                        try clear hcz13_0
                        try clear hcz13_1
                        try clear hcz13_2
                        try clear hcz13_3
                        try clear hcz13_4
                        try clear hcz13_5
                        try clear hcz15_0
                        try clear hcz15_1
                        try clear hcz15_2
                        try clear hcz15_3
                        try clear hcz15_4
                        try clear hcz15_5
                        try clear hcz20_0
                        try clear hcz20_1
                        try clear hcz20_2
                        try clear hcz20_3
                        try clear hcz20_4
                        try clear hcz20_5
                        try clear hcz24_0
                        try clear hcz24_1
                        try clear hcz24_2
                        try clear hcz24_3
                        try clear hcz24_4
                        try clear hcz24_5
                        try clear hcz27_0
                        try clear hcz27_1
                        try clear hcz27_2
                        try clear hcz27_3
                        try clear hcz27_4
                        try clear hcz27_5
                        try clear hfz13_0
                        try clear hfz13_1
                        try clear hfz13_2
                        try clear hfz13_3
                        try clear hfz13_4
                        try clear hfz13_5
                        try clear hfz15_0
                        try clear hfz15_1
                        try clear hfz15_2
                        try clear hfz15_3
                        try clear hfz15_4
                        try clear hfz15_5
                        try clear hfz20_0
                        try clear hfz20_1
                        try clear hfz20_2
                        try clear hfz20_3
                        try clear hfz20_4
                        try clear hfz20_5
                        try clear hfz24_0
                        try clear hfz24_1
                        try clear hfz24_2
                        try clear hfz24_3
                        try clear hfz24_4
                        try clear hfz24_5
                        try clear hfz27_0
                        try clear hfz27_1
                        try clear hfz27_2
                        try clear hfz27_3
                        try clear hfz27_4
                        try clear hfz27_5
                        try clear hx231_0
                        try clear hx235_0
                        try clear p2
                        try clear p231
                        try clear p235
                        try clear q2
                        try clear q231
                        try clear q235
                        obtain ⟨kq, x62_27, rfl, HA, HJ27, HO_0, BK229, BK230, HB⟩ := hcut
                        cases kq with
                        | zero => exact absurd HA.out (by simp [quoinref23_Parse.j2])
                        | succ kj27 =>
                          have H := HA.out
                          clear HA
                          simp only [quoinref23_Parse.j2] at H
                          by_cases c30 : x62_27 = true
                          · subst c30
                            have H1 : (if 1 ≤ (l0.length : Int) then ((quoinref23_sought.f kj27 (l0.drop 1) (rd l0 0)).bind fun bt241 => ((quoinref23_whole.f kj27 bt241.1 (rd l0 0)).bind fun t245 => (if t245 = true then (quoinref23_Parse.j3 kj27 l0 (wrap64 (1 + bt241.2)) (rd l0 0) 0 0 bt241.1 0 true) else (some (0, 0, 0, ([] : List Int), 0, false, 0, 230))))) else (none)) = some (r1, r2, r3, r4, r5, r6, r7, r8) := by rw [if_pos rfl] at H; exact H
                            clear H
                            have H := H1
                            clear H1
                            by_cases c31 : 1 ≤ (l0.length : Int)
                            · rw [if_pos c31] at H
                              have c31b0 := eq_true c31
                              have c31b1 : decide (1 ≤ (l0.length : Int)) = true := decide_eq_true c31
                              clear c31
                              obtain ⟨y236, hy236⟩ : ∃ y_ : List Int, y_ = (l0.drop 1) := ⟨_, rfl⟩
                              replace H : ((quoinref23_sought.f kj27 y236 (rd l0 0)).bind fun bt241 => ((quoinref23_whole.f kj27 bt241.1 (rd l0 0)).bind fun t245 => (if t245 = true then (quoinref23_Parse.j3 kj27 l0 (wrap64 (1 + bt241.2)) (rd l0 0) 0 0 bt241.1 0 true) else (some (0, 0, 0, ([] : List Int), 0, false, 0, 230))))) = some (r1, r2, r3, r4, r5, r6, r7, r8) := by first | (rw [hy236]; with_reducible exact H) | (have H2_ := (Option.bind_some _ _).symm.trans H; rw [hy236]; with_reducible exact H2_) | (have H2_ := (Option.bind_some _ _).symm.trans H; with_reducible exact H2_) | with_reducible exact H | (rw [hy236]; exact H) | exact H
                              have Ny236 := Aside0.mk hy236
                              clear hy236
                              replace H := Option.bind_eq_some_iff.mp H
                              obtain ⟨⟨t241, t242⟩, A320, H⟩ := H
                              replace H : ((quoinref23_whole.f kj27 t241 (rd l0 0)).bind fun t245 => (if t245 = true then (quoinref23_Parse.j3 kj27 l0 (wrap64 (1 + t242)) (rd l0 0) 0 0 t241 0 true) else (some (0, 0, 0, ([] : List Int), 0, false, 0, 230)))) = some (r1, r2, r3, r4, r5, r6, r7, r8) := H
                              have A32 := Aside0.mk A320
                              clear A320
                              replace H := Option.bind_eq_some_iff.mp H
                              obtain ⟨t245, A330, H⟩ := H
                              replace H : (if t245 = true then (quoinref23_Parse.j3 kj27 l0 (wrap64 (1 + t242)) (rd l0 0) 0 0 t241 0 true) else (some (0, 0, 0, ([] : List Int), 0, false, 0, 230))) = some (r1, r2, r3, r4, r5, r6, r7, r8) := H
                              have A33 := Aside0.mk A330
                              clear A330
                              by_cases c34 : t245 = true
                              · subst c34
                                have H1 : (quoinref23_Parse.j3 kj27 l0 (wrap64 (1 + t242)) (rd l0 0) 0 0 t241 0 true) = some (r1, r2, r3, r4, r5, r6, r7, r8) := by rw [if_pos rfl] at H; exact H
                                clear H
                                have H := H1
                                clear H1
                                have H' := Aside0.mk H
                                clear H
                                have q35 : (1 : Int) ≤ ((l0.length : Int) : Int) := of_decide_eq_true (by first | (with_reducible assumption) | assumption)
                                obtain ⟨i035, hi035, _, hsz35, _⟩ := info_parts info5
                                have hroom35 : l0.length ≤ c0 := (Kd.V_reads' HO_0.out).2.1
                                have hC35 : Kd.F (Kd.int .u8) _ _ (some ad231) l0.length l0 := (Kd.V_at (base := w.heap.size) HO_0.out).2.2
                                have hcut35 := cut_from (P := Tryd.prog) 22 5 .i64 Tryd.underlying22 hi035 1 hsz35 (some ad231) l0.length c0 1 (by omega) q35
                                have hr35 := Kd.F_cut (m := (1 : Int).toNat) (c := c0) hC35 (by omega) hroom35
                                obtain ⟨A35, hA35⟩ : ∃ A1, A1 = (if c0 = (1 : Int).toNat then (some ad231) else ((some ad231) : Option Addr).map (·.add ((1 : Int).toNat * 1))) := ⟨_, rfl⟩
                                obtain ⟨c35, hc35⟩ : ∃ c1, c1 = c0 - (1 : Int).toNat := ⟨_, rfl⟩
                                have hy35 : y236.length = l0.length - (1 : Int).toNat := (by rw [Ny236.out, List.length_drop] <;> omega)
                                rw [show (l0).drop (1 : Int).toNat = y236 from Ny236.out.symm] at hr35
                                replace hr35 : Kd.F (Kd.int .u8) _ _ A35 y236.length y236 := (by rw [hA35]; exact hr35)
                                rw [← hy35, ← hA35, ← hc35] at hcut35
                                have HO240 := Aside0.mk (show Kd.V (Kd.int .u8) 5 _ w.heap.size _ (.slice A35 y236.length c35) y236 from Kd.V_mk (by rw [hy35, hc35]; exact Nat.sub_le_sub_right hroom35 _) hr35)
                                have HC240 := Aside0.mk (show y236.length ≤ c35 from by rw [hy35, hc35]; exact Nat.sub_le_sub_right hroom35 _)
                                clear hr35 hC35 hroom35 hi035 hsz35 hc35
                                have KY35 := Aside0.mk hy35
                                have KA35 := Aside0.mk hA35
                                clear hy35 hA35
                                replace q35 := eq_true q35
                                go_wp2_with (first | ((with_reducible refine gate_callee (f := 23) rfl ?_); refine goesL_ (some 73) rfl rfl Tryd.func23 (by kernel_rfl) rfl #[.slice A35 y236.length c35, .int .u8 (rd l0 0)] rfl (by (try simp only [List.map_toArray, List.map_cons, List.map_nil]); first | done | rfl | (simp only [List.length_drop, List.length_take]; rfl)) ?_; (with_reducible refine (quoinref23_sought.calls kj27 _ _ y236 (rd l0 0) t241 t242 _ ?side1 ?side2 A32.out).mono ?_); (case side1 => repeat (first | exact (Kd.V_reads' HO240.out).2.2 | (with_reducible refine Kd.C_alloc ?_ _) | (with_reducible refine Kd.C_drewN ?_ _) | (with_reducible refine Kd.C_drew ?_))); (case side2 => exact (Kd.V_reads' HO240.out).2.1); rintro e w36 ⟨v243, rfl, ho0, hb⟩; refine ⟨_, rfl, ?_⟩; have n0_ := Aside0.mk (Kd.V_elder' (by (with_reducible repeat (first | apply Kd.V_alloc | apply Kd.V_drewN | apply Kd.V_drew)); exact HO_0.out) (Kd.R_base ho0) hb); have n1_ := Aside0.mk (Kd.V_elder' (by (with_reducible repeat (first | apply Kd.V_alloc | apply Kd.V_drewN | apply Kd.V_drew)); exact HO240.out) (Kd.R_base ho0) hb); have n2_ := Aside0.mk (Kd.R_lower (Kd.R_newM (M := fun k_ => (w.heap.size ≤ k_)) ho0 (below_size (by repeat (first | (with_reducible first | exact HB.out | apply below_alloc | apply pw_below_drewN | apply below_drew1 | refine below_set ?_ GE229.out | refine below_set ?_ GE230.out) | exact HB.out))) (fun k_ h_ => h_)) (below_size (by repeat (first | (with_reducible first | exact HB.out | apply below_alloc | apply pw_below_drewN | apply below_drew1 | refine below_set ?_ GE229.out | refine below_set ?_ GE230.out) | exact HB.out)))); have n3_ := Aside0.mk (blk_below (g := gb229) (o := .cells #[.int .u8 0, .int .i64 0, .int .u8 0, .slice none 0 0, .int .i64 0, .bool false] 25 (0, 0)) (by (with_reducible repeat (first | refine blk_drewN ?_ _ | refine blk_drew ?_ | refine blk_alloc ?_ _)); exact BK229.out) hb); have n4_ := Aside0.mk (blk_below (g := gb230) (o := .cells #[.int .u8 0, .int .i64 0, .int .u8 0, .slice none 0 0, .int .i64 0, .bool false] 25 (0, 0)) (by (with_reducible repeat (first | refine blk_drewN ?_ _ | refine blk_drew ?_ | refine blk_alloc ?_ _)); exact BK230.out) hb); have n5_ := Aside0.mk (below_step (by repeat (first | (with_reducible first | exact HB.out | apply below_alloc | apply pw_below_drewN | apply below_drew1 | refine below_set ?_ GE229.out | refine below_set ?_ GE230.out) | exact HB.out)) hb); clear HO_0; clear HO240; clear BK229; clear BK230; clear HB; have HO_0 := n0_; have HO240 := n1_; have HO244 := n2_; have BK229 := n3_; have BK230 := n4_; have HB := n5_; clear n0_ n1_ n2_ n3_ n4_ n5_; (try clear hb); (try clear hb2); (try clear hk); (try clear hi); (try clear ho0); obtain ⟨Ao37, co37, eo37⟩ := Kd.R_slice HO244.out; subst eo37) | ((with_reducible refine gate_callee (f := 24) rfl ?_); refine goesL_ (some 78) rfl rfl Tryd.func24 (by kernel_rfl) rfl #[.slice Ao37 t241.length co37, .int .u8 (rd l0 0)] rfl (by (try simp only [List.map_toArray, List.map_cons, List.map_nil]); first | done | rfl | (simp only [List.length_drop, List.length_take]; rfl)) ?_; (with_reducible refine (quoinref23_whole.calls kj27 _ _ t241 (rd l0 0) true _ ?side1 ?side2 A33.out).mono ?_); (case side1 => repeat (first | exact (Kd.R_reads' HO244.out).2.2 | (with_reducible refine Kd.C_alloc ?_ _) | (with_reducible refine Kd.C_drewN ?_ _) | (with_reducible refine Kd.C_drew ?_))); (case side2 => exact (Kd.R_reads' HO244.out).2.1); rintro e w' ⟨rfl, ⟨nd, rfl⟩⟩; refine ⟨_, rfl, ?_⟩; (try (rw [drewN_self w36]; generalize hq_ : World.drewN w36 _ = w36; have n0_ : Aside0 (Kd.V (Kd.int .u8) 5 w36 w.heap.size (fun k_ => (P0_ k_ ∨ w.heap.size ≤ k_) ∧ some k_ ≠ (.slice Ao37 t241.length co37 : Value).ownBlock ∧ k_ ≠ gb229 ∧ k_ ≠ gb230) (.slice A35 y236.length c35) y236) := ⟨by rw [← hq_]; exact (by (with_reducible repeat (first | apply Kd.V_alloc | apply Kd.V_drewN | apply Kd.V_drew)); exact Kd.V_mono HO240.out (fun _ hk => ⟨hk.1.1, ⟨hk.2, ⟨hk.1.2.1, hk.1.2.2⟩⟩⟩))⟩; have n1_ : Aside0 (Kd.R (Kd.int .u8) 5 w36 w.heap.size (fun k_ => (w.heap.size ≤ k_)) (.slice Ao37 t241.length co37) t241) := ⟨by rw [← hq_]; exact (by (with_reducible repeat (first | apply Kd.R_alloc | apply Kd.R_drewN | apply Kd.R_drew)); exact Kd.R_mono HO244.out (fun _ hk => hk.1))⟩; have n2_ : Aside0 (Kd.V (Kd.int .u8) 5 w36 w.heap.size (fun k_ => (P0_ k_ ∨ w.heap.size ≤ k_) ∧ some k_ ≠ (.slice Ao37 t241.length co37 : Value).ownBlock ∧ k_ ≠ gb229 ∧ k_ ≠ gb230) (.slice (some ad231) l0.length c0) l0) := ⟨by rw [← hq_]; exact (by (with_reducible repeat (first | apply Kd.V_alloc | apply Kd.V_drewN | apply Kd.V_drew)); exact Kd.V_mono HO_0.out (fun _ hk => ⟨hk.1.1, ⟨hk.2, ⟨hk.1.2.1, hk.1.2.2⟩⟩⟩))⟩; have n3_ : Aside0 (w36.heap[gb229]? = some (.cells #[.int .u8 0, .int .i64 0, .int .u8 0, .slice none 0 0, .int .i64 0, .bool false] 25 (0, 0))) := ⟨by rw [← hq_]; exact (by (with_reducible repeat (first | refine blk_drewN ?_ _ | refine blk_drew ?_ | refine blk_alloc ?_ _)); exact BK229.out)⟩; have n4_ : Aside0 (w36.heap[gb230]? = some (.cells #[.int .u8 0, .int .i64 0, .int .u8 0, .slice none 0 0, .int .i64 0, .bool false] 25 (0, 0))) := ⟨by rw [← hq_]; exact (by (with_reducible repeat (first | refine blk_drewN ?_ _ | refine blk_drew ?_ | refine blk_alloc ?_ _)); exact BK230.out)⟩; have n5_ : Aside0 (Below w.heap.size w w36) := ⟨by rw [← hq_]; exact (by repeat (first | (with_reducible first | exact HB.out | apply below_alloc | apply pw_below_drewN | apply below_drew1 | refine below_set ?_ GE229.out | refine below_set ?_ GE230.out) | exact HB.out))⟩; clear HO240 HO244 HO_0 BK229 BK230 HB hq_; have HO240 := n0_; have HO244 := n1_; have HO_0 := n2_; have BK229 := n3_; have BK230 := n4_; have HB := n5_; clear n0_ n1_ n2_ n3_ n4_ n5_)); (try have hcy229_0 : w36.cell? ⟨gb229, 0, none⟩ = some (.int .u8 0) := (blk_cell BK229.out 0).trans rfl); (try have hfy229_0 := blk_frozen BK229.out 0); (try have hcy229_1 : w36.cell? ⟨gb229, 1, none⟩ = some (.int .i64 0) := (blk_cell BK229.out 1).trans rfl); (try have hfy229_1 := blk_frozen BK229.out 1); (try have hcy229_2 : w36.cell? ⟨gb229, 2, none⟩ = some (.int .u8 0) := (blk_cell BK229.out 2).trans rfl); (try have hfy229_2 := blk_frozen BK229.out 2); (try have hcy229_3 : w36.cell? ⟨gb229, 3, none⟩ = some (.slice none 0 0) := (blk_cell BK229.out 3).trans rfl); (try have hfy229_3 := blk_frozen BK229.out 3); (try have hcy229_4 : w36.cell? ⟨gb229, 4, none⟩ = some (.int .i64 0) := (blk_cell BK229.out 4).trans rfl); (try have hfy229_4 := blk_frozen BK229.out 4); (try have hcy229_5 : w36.cell? ⟨gb229, 5, none⟩ = some (.bool false) := (blk_cell BK229.out 5).trans rfl); (try have hfy229_5 := blk_frozen BK229.out 5); (try have hcy230_0 : w36.cell? ⟨gb230, 0, none⟩ = some (.int .u8 0) := (blk_cell BK230.out 0).trans rfl); (try have hfy230_0 := blk_frozen BK230.out 0); (try have hcy230_1 : w36.cell? ⟨gb230, 1, none⟩ = some (.int .i64 0) := (blk_cell BK230.out 1).trans rfl); (try have hfy230_1 := blk_frozen BK230.out 1); (try have hcy230_2 : w36.cell? ⟨gb230, 2, none⟩ = some (.int .u8 0) := (blk_cell BK230.out 2).trans rfl); (try have hfy230_2 := blk_frozen BK230.out 2); (try have hcy230_3 : w36.cell? ⟨gb230, 3, none⟩ = some (.slice none 0 0) := (blk_cell BK230.out 3).trans rfl); (try have hfy230_3 := blk_frozen BK230.out 3); (try have hcy230_4 : w36.cell? ⟨gb230, 4, none⟩ = some (.int .i64 0) := (blk_cell BK230.out 4).trans rfl); (try have hfy230_4 := blk_frozen BK230.out 4); (try have hcy230_5 : w36.cell? ⟨gb230, 5, none⟩ = some (.bool false) := (blk_cell BK230.out 5).trans rfl); (try have hfy230_5 := blk_frozen BK230.out 5); have hnb38 := NB230_229.out; have hnc38 := NB229_230.out; have hcz39_0 : w36.cell? ⟨gb230, 0, none⟩ = some (.int .u8 0) := (blk_cell BK230.out 0).trans rfl; have hcz39_1 : w36.cell? ⟨gb230, 1, none⟩ = some (.int .i64 0) := (blk_cell BK230.out 1).trans rfl; have hcz39_2 : w36.cell? ⟨gb230, 2, none⟩ = some (.int .u8 0) := (blk_cell BK230.out 2).trans rfl; have hcz39_3 : w36.cell? ⟨gb230, 3, none⟩ = some (.slice none 0 0) := (blk_cell BK230.out 3).trans rfl; have hcz39_4 : w36.cell? ⟨gb230, 4, none⟩ = some (.int .i64 0) := (blk_cell BK230.out 4).trans rfl; have hcz39_5 : w36.cell? ⟨gb230, 5, none⟩ = some (.bool false) := (blk_cell BK230.out 5).trans rfl; have hfz39_0 := blk_frozen BK230.out 0; have hfz39_1 := blk_frozen BK230.out 1; have hfz39_2 := blk_frozen BK230.out 2; have hfz39_3 := blk_frozen BK230.out 3; have hfz39_4 := blk_frozen BK230.out 4; have hfz39_5 := blk_frozen BK230.out 5))
                                go_meet
                                case rel => exact ⟨_, (wrap64 (1 + t242)), (0), (0), (0), (0), (false), ((rd l0 0)), (0), (0), (t241), (0), (true), (.slice Ao37 t241.length co37), (by first | rfl | (simp; done) | (simp [*]; done)), H', ⟨by have := HJ6.out; have := HJ15.out; have := HJ27.out; first | omega | exact Nat.le_refl _⟩, ⟨by (with_reducible repeat (first | apply Kd.V_alloc | apply Kd.V_drewN | apply Kd.V_drew)); exact Kd.V_mono (Kd.V_far (p := ⟨gb230, 5, none⟩) (Kd.V_far (p := ⟨gb230, 4, none⟩) (Kd.V_far (p := ⟨gb230, 3, none⟩) (Kd.V_far (p := ⟨gb230, 2, none⟩) (Kd.V_far (p := ⟨gb230, 1, none⟩) (Kd.V_far (p := ⟨gb230, 0, none⟩) (Kd.V_mono HO_0.out (fun k_ hk => (⟨hk, hk.2.2.2⟩ : _ ∧ k_ ≠ gb230))) (fun _ hk => hk.2) (.int .u8 (rd l0 0))) (fun _ hk => hk.2) (.int .i64 0)) (fun _ hk => hk.2) (.int .u8 0)) (fun _ hk => hk.2) (.slice Ao37 t241.length co37)) (fun _ hk => hk.2) (.int .i64 0)) (fun _ hk => hk.2) (.bool true)) (fun _ hk => ⟨hk.1.1, ⟨hk.1.2.1, ⟨hk.1.2.2.1, hk.1.2.2.2⟩⟩⟩)⟩, ⟨by (with_reducible repeat (first | apply Kd.R_alloc | apply Kd.R_drewN | apply Kd.R_drew)); exact Kd.R_mono (Kd.R_far (p := ⟨gb230, 5, none⟩) (Kd.R_far (p := ⟨gb230, 4, none⟩) (Kd.R_far (p := ⟨gb230, 3, none⟩) (Kd.R_far (p := ⟨gb230, 2, none⟩) (Kd.R_far (p := ⟨gb230, 1, none⟩) (Kd.R_far (p := ⟨gb230, 0, none⟩) (Kd.R_types HO244.out BK230.out (by decide)) (fun _ hk => hk.2) (.int .u8 (rd l0 0))) (fun _ hk => hk.2) (.int .i64 0)) (fun _ hk => hk.2) (.int .u8 0)) (fun _ hk => hk.2) (.slice Ao37 t241.length co37)) (fun _ hk => hk.2) (.int .i64 0)) (fun _ hk => hk.2) (.bool true)) (fun _ hk => hk.1)⟩, ⟨by (with_reducible repeat (first | refine blk_drewN ?_ _ | refine blk_drew ?_ | refine blk_alloc ?_ _)); refine blk_far ?_ NB229_230.out _; (with_reducible repeat (first | refine blk_drewN ?_ _ | refine blk_drew ?_ | refine blk_alloc ?_ _)); refine blk_far ?_ NB229_230.out _; (with_reducible repeat (first | refine blk_drewN ?_ _ | refine blk_drew ?_ | refine blk_alloc ?_ _)); refine blk_far ?_ NB229_230.out _; (with_reducible repeat (first | refine blk_drewN ?_ _ | refine blk_drew ?_ | refine blk_alloc ?_ _)); refine blk_far ?_ NB229_230.out _; (with_reducible repeat (first | refine blk_drewN ?_ _ | refine blk_drew ?_ | refine blk_alloc ?_ _)); refine blk_far ?_ NB229_230.out _; (with_reducible repeat (first | refine blk_drewN ?_ _ | refine blk_drew ?_ | refine blk_alloc ?_ _)); refine blk_far ?_ NB229_230.out _; (with_reducible repeat (first | refine blk_drewN ?_ _ | refine blk_drew ?_ | refine blk_alloc ?_ _)); exact BK229.out⟩, ⟨by (with_reducible repeat (first | refine blk_drewN ?_ _ | refine blk_drew ?_ | refine blk_alloc ?_ _)); refine blk_put (cs := #[.int .u8 (rd l0 0), .int .i64 0, .int .u8 0, .slice Ao37 t241.length co37, .int .i64 0, .bool false]) ?_ 5 _ rfl; (with_reducible repeat (first | refine blk_drewN ?_ _ | refine blk_drew ?_ | refine blk_alloc ?_ _)); refine blk_put (cs := #[.int .u8 (rd l0 0), .int .i64 0, .int .u8 0, .slice Ao37 t241.length co37, .int .i64 0, .bool false]) ?_ 4 _ rfl; (with_reducible repeat (first | refine blk_drewN ?_ _ | refine blk_drew ?_ | refine blk_alloc ?_ _)); refine blk_put (cs := #[.int .u8 (rd l0 0), .int .i64 0, .int .u8 0, .slice none 0 0, .int .i64 0, .bool false]) ?_ 3 _ rfl; (with_reducible repeat (first | refine blk_drewN ?_ _ | refine blk_drew ?_ | refine blk_alloc ?_ _)); refine blk_put (cs := #[.int .u8 (rd l0 0), .int .i64 0, .int .u8 0, .slice none 0 0, .int .i64 0, .bool false]) ?_ 2 _ rfl; (with_reducible repeat (first | refine blk_drewN ?_ _ | refine blk_drew ?_ | refine blk_alloc ?_ _)); refine blk_put (cs := #[.int .u8 (rd l0 0), .int .i64 0, .int .u8 0, .slice none 0 0, .int .i64 0, .bool false]) ?_ 1 _ rfl; (with_reducible repeat (first | refine blk_drewN ?_ _ | refine blk_drew ?_ | refine blk_alloc ?_ _)); refine blk_put (cs := #[.int .u8 0, .int .i64 0, .int .u8 0, .slice none 0 0, .int .i64 0, .bool false]) ?_ 0 _ rfl; (with_reducible repeat (first | refine blk_drewN ?_ _ | refine blk_drew ?_ | refine blk_alloc ?_ _)); exact BK230.out⟩, ⟨by repeat (first | (with_reducible first | exact HB.out | apply below_alloc | apply pw_below_drewN | apply below_drew1 | refine below_set ?_ GE229.out | refine below_set ?_ GE230.out) | exact HB.out)⟩⟩
                              · replace c34 := Bool.eq_false_iff.mpr c34
                                subst c34
                                have H1 : (some (0, 0, 0, ([] : List Int), 0, false, 0, 230)) = some (r1, r2, r3, r4, r5, r6, r7, r8) := by rw [if_neg (show ¬ (false = true) by decide)] at H; exact H
                                clear H
                                have H := H1
                                clear H1
                                simp only [Option.some.injEq, Prod.mk.injEq] at H
                                obtain ⟨rfl, rfl, rfl, rfl, rfl, rfl, rfl, rfl⟩ := H
                                have q40 : (1 : Int) ≤ ((l0.length : Int) : Int) := of_decide_eq_true (by first | (with_reducible assumption) | assumption)
                                obtain ⟨i040, hi040, _, hsz40, _⟩ := info_parts info5
                                have hroom40 : l0.length ≤ c0 := (Kd.V_reads' HO_0.out).2.1
                                have hC40 : Kd.F (Kd.int .u8) _ _ (some ad231) l0.length l0 := (Kd.V_at (base := w.heap.size) HO_0.out).2.2
                                have hcut40 := cut_from (P := Tryd.prog) 22 5 .i64 Tryd.underlying22 hi040 1 hsz40 (some ad231) l0.length c0 1 (by omega) q40
                                have hr40 := Kd.F_cut (m := (1 : Int).toNat) (c := c0) hC40 (by omega) hroom40
                                obtain ⟨A40, hA40⟩ : ∃ A1, A1 = (if c0 = (1 : Int).toNat then (some ad231) else ((some ad231) : Option Addr).map (·.add ((1 : Int).toNat * 1))) := ⟨_, rfl⟩
                                obtain ⟨c40, hc40⟩ : ∃ c1, c1 = c0 - (1 : Int).toNat := ⟨_, rfl⟩
                                have hy40 : y236.length = l0.length - (1 : Int).toNat := (by rw [Ny236.out, List.length_drop] <;> omega)
                                rw [show (l0).drop (1 : Int).toNat = y236 from Ny236.out.symm] at hr40
                                replace hr40 : Kd.F (Kd.int .u8) _ _ A40 y236.length y236 := (by rw [hA40]; exact hr40)
                                rw [← hy40, ← hA40, ← hc40] at hcut40
                                have HO240 := Aside0.mk (show Kd.V (Kd.int .u8) 5 _ w.heap.size _ (.slice A40 y236.length c40) y236 from Kd.V_mk (by rw [hy40, hc40]; exact Nat.sub_le_sub_right hroom40 _) hr40)
                                have HC240 := Aside0.mk (show y236.length ≤ c40 from by rw [hy40, hc40]; exact Nat.sub_le_sub_right hroom40 _)
                                clear hr40 hC40 hroom40 hi040 hsz40 hc40
                                have KY40 := Aside0.mk hy40
                                have KA40 := Aside0.mk hA40
                                clear hy40 hA40
                                replace q40 := eq_true q40
                                go_wp2_with (first | ((with_reducible refine gate_callee (f := 23) rfl ?_); refine goesL_ (some 73) rfl rfl Tryd.func23 (by kernel_rfl) rfl #[.slice A40 y236.length c40, .int .u8 (rd l0 0)] rfl (by (try simp only [List.map_toArray, List.map_cons, List.map_nil]); first | done | rfl | (simp only [List.length_drop, List.length_take]; rfl)) ?_; (with_reducible refine (quoinref23_sought.calls kj27 _ _ y236 (rd l0 0) t241 t242 _ ?side1 ?side2 A32.out).mono ?_); (case side1 => repeat (first | exact (Kd.V_reads' HO240.out).2.2 | (with_reducible refine Kd.C_alloc ?_ _) | (with_reducible refine Kd.C_drewN ?_ _) | (with_reducible refine Kd.C_drew ?_))); (case side2 => exact (Kd.V_reads' HO240.out).2.1); rintro e w41 ⟨v243, rfl, ho0, hb⟩; refine ⟨_, rfl, ?_⟩; have n0_ := Aside0.mk (Kd.V_elder' (by (with_reducible repeat (first | apply Kd.V_alloc | apply Kd.V_drewN | apply Kd.V_drew)); exact HO_0.out) (Kd.R_base ho0) hb); have n1_ := Aside0.mk (Kd.V_elder' (by (with_reducible repeat (first | apply Kd.V_alloc | apply Kd.V_drewN | apply Kd.V_drew)); exact HO240.out) (Kd.R_base ho0) hb); have n2_ := Aside0.mk (Kd.R_lower (Kd.R_newM (M := fun k_ => (w.heap.size ≤ k_)) ho0 (below_size (by repeat (first | (with_reducible first | exact HB.out | apply below_alloc | apply pw_below_drewN | apply below_drew1 | refine below_set ?_ GE229.out | refine below_set ?_ GE230.out) | exact HB.out))) (fun k_ h_ => h_)) (below_size (by repeat (first | (with_reducible first | exact HB.out | apply below_alloc | apply pw_below_drewN | apply below_drew1 | refine below_set ?_ GE229.out | refine below_set ?_ GE230.out) | exact HB.out)))); have n3_ := Aside0.mk (blk_below (g := gb229) (o := .cells #[.int .u8 0, .int .i64 0, .int .u8 0, .slice none 0 0, .int .i64 0, .bool false] 25 (0, 0)) (by (with_reducible repeat (first | refine blk_drewN ?_ _ | refine blk_drew ?_ | refine blk_alloc ?_ _)); exact BK229.out) hb); have n4_ := Aside0.mk (blk_below (g := gb230) (o := .cells #[.int .u8 0, .int .i64 0, .int .u8 0, .slice none 0 0, .int .i64 0, .bool false] 25 (0, 0)) (by (with_reducible repeat (first | refine blk_drewN ?_ _ | refine blk_drew ?_ | refine blk_alloc ?_ _)); exact BK230.out) hb); have n5_ := Aside0.mk (below_step (by repeat (first | (with_reducible first | exact HB.out | apply below_alloc | apply pw_below_drewN | apply below_drew1 | refine below_set ?_ GE229.out | refine below_set ?_ GE230.out) | exact HB.out)) hb); clear HO_0; clear HO240; clear BK229; clear BK230; clear HB; have HO_0 := n0_; have HO240 := n1_; have HO244 := n2_; have BK229 := n3_; have BK230 := n4_; have HB := n5_; clear n0_ n1_ n2_ n3_ n4_ n5_; (try clear hb); (try clear hb2); (try clear hk); (try clear hi); (try clear ho0); obtain ⟨Ao42, co42, eo42⟩ := Kd.R_slice HO244.out; subst eo42) | ((with_reducible refine gate_callee (f := 24) rfl ?_); refine goesL_ (some 78) rfl rfl Tryd.func24 (by kernel_rfl) rfl #[.slice Ao42 t241.length co42, .int .u8 (rd l0 0)] rfl (by (try simp only [List.map_toArray, List.map_cons, List.map_nil]); first | done | rfl | (simp only [List.length_drop, List.length_take]; rfl)) ?_; (with_reducible refine (quoinref23_whole.calls kj27 _ _ t241 (rd l0 0) false _ ?side1 ?side2 A33.out).mono ?_); (case side1 => repeat (first | exact (Kd.R_reads' HO244.out).2.2 | (with_reducible refine Kd.C_alloc ?_ _) | (with_reducible refine Kd.C_drewN ?_ _) | (with_reducible refine Kd.C_drew ?_))); (case side2 => exact (Kd.R_reads' HO244.out).2.1); rintro e w' ⟨rfl, ⟨nd, rfl⟩⟩; refine ⟨_, rfl, ?_⟩; (try (rw [drewN_self w41]; generalize hq_ : World.drewN w41 _ = w41; have n0_ : Aside0 (Kd.V (Kd.int .u8) 5 w41 w.heap.size (fun k_ => (P0_ k_ ∨ w.heap.size ≤ k_) ∧ some k_ ≠ (.slice Ao42 t241.length co42 : Value).ownBlock ∧ k_ ≠ gb229 ∧ k_ ≠ gb230) (.slice A40 y236.length c40) y236) := ⟨by rw [← hq_]; exact (by (with_reducible repeat (first | apply Kd.V_alloc | apply Kd.V_drewN | apply Kd.V_drew)); exact Kd.V_mono HO240.out (fun _ hk => ⟨hk.1.1, ⟨hk.2, ⟨hk.1.2.1, hk.1.2.2⟩⟩⟩))⟩; have n1_ : Aside0 (Kd.R (Kd.int .u8) 5 w41 w.heap.size (fun k_ => (w.heap.size ≤ k_)) (.slice Ao42 t241.length co42) t241) := ⟨by rw [← hq_]; exact (by (with_reducible repeat (first | apply Kd.R_alloc | apply Kd.R_drewN | apply Kd.R_drew)); exact Kd.R_mono HO244.out (fun _ hk => hk.1))⟩; have n2_ : Aside0 (Kd.V (Kd.int .u8) 5 w41 w.heap.size (fun k_ => (P0_ k_ ∨ w.heap.size ≤ k_) ∧ some k_ ≠ (.slice Ao42 t241.length co42 : Value).ownBlock ∧ k_ ≠ gb229 ∧ k_ ≠ gb230) (.slice (some ad231) l0.length c0) l0) := ⟨by rw [← hq_]; exact (by (with_reducible repeat (first | apply Kd.V_alloc | apply Kd.V_drewN | apply Kd.V_drew)); exact Kd.V_mono HO_0.out (fun _ hk => ⟨hk.1.1, ⟨hk.2, ⟨hk.1.2.1, hk.1.2.2⟩⟩⟩))⟩; have n3_ : Aside0 (w41.heap[gb229]? = some (.cells #[.int .u8 0, .int .i64 0, .int .u8 0, .slice none 0 0, .int .i64 0, .bool false] 25 (0, 0))) := ⟨by rw [← hq_]; exact (by (with_reducible repeat (first | refine blk_drewN ?_ _ | refine blk_drew ?_ | refine blk_alloc ?_ _)); exact BK229.out)⟩; have n4_ : Aside0 (w41.heap[gb230]? = some (.cells #[.int .u8 0, .int .i64 0, .int .u8 0, .slice none 0 0, .int .i64 0, .bool false] 25 (0, 0))) := ⟨by rw [← hq_]; exact (by (with_reducible repeat (first | refine blk_drewN ?_ _ | refine blk_drew ?_ | refine blk_alloc ?_ _)); exact BK230.out)⟩; have n5_ : Aside0 (Below w.heap.size w w41) := ⟨by rw [← hq_]; exact (by repeat (first | (with_reducible first | exact HB.out | apply below_alloc | apply pw_below_drewN | apply below_drew1 | refine below_set ?_ GE229.out | refine below_set ?_ GE230.out) | exact HB.out))⟩; clear HO240 HO244 HO_0 BK229 BK230 HB hq_; have HO240 := n0_; have HO244 := n1_; have HO_0 := n2_; have BK229 := n3_; have BK230 := n4_; have HB := n5_; clear n0_ n1_ n2_ n3_ n4_ n5_)); (try have hcy229_0 : w41.cell? ⟨gb229, 0, none⟩ = some (.int .u8 0) := (blk_cell BK229.out 0).trans rfl); (try have hfy229_0 := blk_frozen BK229.out 0); (try have hcy229_1 : w41.cell? ⟨gb229, 1, none⟩ = some (.int .i64 0) := (blk_cell BK229.out 1).trans rfl); (try have hfy229_1 := blk_frozen BK229.out 1); (try have hcy229_2 : w41.cell? ⟨gb229, 2, none⟩ = some (.int .u8 0) := (blk_cell BK229.out 2).trans rfl); (try have hfy229_2 := blk_frozen BK229.out 2); (try have hcy229_3 : w41.cell? ⟨gb229, 3, none⟩ = some (.slice none 0 0) := (blk_cell BK229.out 3).trans rfl); (try have hfy229_3 := blk_frozen BK229.out 3); (try have hcy229_4 : w41.cell? ⟨gb229, 4, none⟩ = some (.int .i64 0) := (blk_cell BK229.out 4).trans rfl); (try have hfy229_4 := blk_frozen BK229.out 4); (try have hcy229_5 : w41.cell? ⟨gb229, 5, none⟩ = some (.bool false) := (blk_cell BK229.out 5).trans rfl); (try have hfy229_5 := blk_frozen BK229.out 5); (try have hcy230_0 : w41.cell? ⟨gb230, 0, none⟩ = some (.int .u8 0) := (blk_cell BK230.out 0).trans rfl); (try have hfy230_0 := blk_frozen BK230.out 0); (try have hcy230_1 : w41.cell? ⟨gb230, 1, none⟩ = some (.int .i64 0) := (blk_cell BK230.out 1).trans rfl); (try have hfy230_1 := blk_frozen BK230.out 1); (try have hcy230_2 : w41.cell? ⟨gb230, 2, none⟩ = some (.int .u8 0) := (blk_cell BK230.out 2).trans rfl); (try have hfy230_2 := blk_frozen BK230.out 2); (try have hcy230_3 : w41.cell? ⟨gb230, 3, none⟩ = some (.slice none 0 0) := (blk_cell BK230.out 3).trans rfl); (try have hfy230_3 := blk_frozen BK230.out 3); (try have hcy230_4 : w41.cell? ⟨gb230, 4, none⟩ = some (.int .i64 0) := (blk_cell BK230.out 4).trans rfl); (try have hfy230_4 := blk_frozen BK230.out 4); (try have hcy230_5 : w41.cell? ⟨gb230, 5, none⟩ = some (.bool false) := (blk_cell BK230.out 5).trans rfl); (try have hfy230_5 := blk_frozen BK230.out 5); have hnb43 := NB229_230.out; have hnc43 := NB230_229.out; have hcz44_0 : w41.cell? ⟨gb229, 0, none⟩ = some (.int .u8 0) := (blk_cell BK229.out 0).trans rfl; have hcz44_1 : w41.cell? ⟨gb229, 1, none⟩ = some (.int .i64 0) := (blk_cell BK229.out 1).trans rfl; have hcz44_2 : w41.cell? ⟨gb229, 2, none⟩ = some (.int .u8 0) := (blk_cell BK229.out 2).trans rfl; have hcz44_3 : w41.cell? ⟨gb229, 3, none⟩ = some (.slice none 0 0) := (blk_cell BK229.out 3).trans rfl; have hcz44_4 : w41.cell? ⟨gb229, 4, none⟩ = some (.int .i64 0) := (blk_cell BK229.out 4).trans rfl; have hcz44_5 : w41.cell? ⟨gb229, 5, none⟩ = some (.bool false) := (blk_cell BK229.out 5).trans rfl; have hfz44_0 := blk_frozen BK229.out 0; have hfz44_1 := blk_frozen BK229.out 1; have hfz44_2 := blk_frozen BK229.out 2; have hfz44_3 := blk_frozen BK229.out 3; have hfz44_4 := blk_frozen BK229.out 4; have hfz44_5 := blk_frozen BK229.out 5))
                                refine bodyPost_ret (results_ctt rfl _ _ gb229 25 #[.int .u8 0, .int .i64 0, .int .u8 0, .slice none 0 0, .int .i64 0, .bool false] (0, 0) _ rfl (by (with_reducible repeat (first | refine blk_drewN ?_ _ | refine blk_drew ?_ | refine blk_alloc ?_ _)); refine blk_put (cs := #[.int .u8 0, .int .i64 0, .int .u8 0, .slice none 0 0, .int .i64 0, .bool false]) ?_ 5 _ rfl; (with_reducible repeat (first | refine blk_drewN ?_ _ | refine blk_drew ?_ | refine blk_alloc ?_ _)); refine blk_put (cs := #[.int .u8 0, .int .i64 0, .int .u8 0, .slice none 0 0, .int .i64 0, .bool false]) ?_ 4 _ rfl; (with_reducible repeat (first | refine blk_drewN ?_ _ | refine blk_drew ?_ | refine blk_alloc ?_ _)); refine blk_put (cs := #[.int .u8 0, .int .i64 0, .int .u8 0, .slice none 0 0, .int .i64 0, .bool false]) ?_ 3 _ rfl; (with_reducible repeat (first | refine blk_drewN ?_ _ | refine blk_drew ?_ | refine blk_alloc ?_ _)); refine blk_put (cs := #[.int .u8 0, .int .i64 0, .int .u8 0, .slice none 0 0, .int .i64 0, .bool false]) ?_ 2 _ rfl; (with_reducible repeat (first | refine blk_drewN ?_ _ | refine blk_drew ?_ | refine blk_alloc ?_ _)); refine blk_put (cs := #[.int .u8 0, .int .i64 0, .int .u8 0, .slice none 0 0, .int .i64 0, .bool false]) ?_ 1 _ rfl; (with_reducible repeat (first | refine blk_drewN ?_ _ | refine blk_drew ?_ | refine blk_alloc ?_ _)); refine blk_put (cs := #[.int .u8 0, .int .i64 0, .int .u8 0, .slice none 0 0, .int .i64 0, .bool false]) ?_ 0 _ rfl; (with_reducible repeat (first | refine blk_drewN ?_ _ | refine blk_drew ?_ | refine blk_alloc ?_ _)); exact BK229.out) Tryd.underlying25 rfl (by kernel_rfl)) rfl ?_
                                exact ⟨_, by first | rfl | (simp [errW_none, errW_some] <;> rfl) | (simp [*, errW_none, errW_some] <;> rfl), by first | exact Kd.R_nil _ _ _ _ _ | exact Kd.N_nil _ _ _ _ _ | exact Kd.V_nil _ _ _ _ _ | exact Kd.Q_nil _ _ _ _ _ | exact Kd.S_nil _ _ _ _ _, by repeat (first | (with_reducible first | exact HB.out | apply below_alloc | apply pw_below_drewN | apply below_drew1 | refine below_set ?_ GE229.out | refine below_set ?_ GE230.out) | exact HB.out)⟩
                            · rw [if_neg c31] at H
                              exact absurd H (by simp)
                          · replace c30 := Bool.eq_false_iff.mpr c30
                            subst c30
                            have H1 : (quoinref23_Parse.j3 kj27 l0 0 0 0 0 ([] : List Int) 0 false) = some (r1, r2, r3, r4, r5, r6, r7, r8) := by rw [if_neg (show ¬ (false = true) by decide)] at H; exact H
                            clear H
                            have H := H1
                            clear H1
                            have H' := Aside0.mk H
                            clear H
                            go_wp2
                            go_meet
                            case rel => exact ⟨_, (0), (0), (0), (0), (0), (false), (0), (0), (0), (([] : List Int)), (0), (false), (.slice none 0 0), (by first | rfl | (simp; done) | (simp [*]; done)), H', ⟨by have := HJ6.out; have := HJ15.out; have := HJ27.out; first | omega | exact Nat.le_refl _⟩, ⟨by (with_reducible repeat (first | apply Kd.V_alloc | apply Kd.V_drewN | apply Kd.V_drew)); exact Kd.V_mono HO_0.out (fun _ hk => ⟨hk.1, ⟨(by simp [Value.ownBlock]), ⟨hk.2.1, hk.2.2⟩⟩⟩)⟩, ⟨by first | exact Kd.R_nil _ _ _ _ _ | exact Kd.N_nil _ _ _ _ _ | exact Kd.V_nil _ _ _ _ _ | exact Kd.Q_nil _ _ _ _ _ | exact Kd.S_nil _ _ _ _ _⟩, ⟨by (with_reducible repeat (first | refine blk_drewN ?_ _ | refine blk_drew ?_ | refine blk_alloc ?_ _)); exact BK229.out⟩, ⟨by (with_reducible repeat (first | refine blk_drewN ?_ _ | refine blk_drew ?_ | refine blk_alloc ?_ _)); exact BK230.out⟩, ⟨by repeat (first | (with_reducible first | exact HB.out | apply below_alloc | apply pw_below_drewN | apply below_drew1 | refine below_set ?_ GE229.out | refine below_set ?_ GE230.out) | exact HB.out)⟩⟩
      · rw [if_neg c6] at H
        exact absurd H (by simp)
    · rw [if_neg c5] at H
      have c5b0 : decide (0 < (l0.length : Int)) = false := decide_eq_false c5
      have c5b1 : decide (0 < l0.length) = false := decide_eq_false (by omega)
      clear c5
      (first | rw [c5b0] | rw [c5b1] | (simp only [i64_w, i32_w]; first | rw [c5b0] | rw [c5b1]) | skip)
      have H' := Aside0.mk H
      clear H
      go_wp2
      go_meet
      case rel => exact ⟨_, (0), (0), (0), (0), (0), (false), (0), (0), (0), (([] : List Int)), (0), (false), (.slice none 0 0), (by first | rfl | (simp; done) | (simp [*]; done)), H', ⟨by first | omega | exact Nat.le_refl _⟩, ⟨by (with_reducible repeat (first | apply Kd.V_alloc | apply Kd.V_drewN | apply Kd.V_drew)); exact Kd.V_mono HO0.out (fun _ hk => ⟨hk.1.1, ⟨(by simp [Value.ownBlock]), ⟨hk.1.2, hk.2⟩⟩⟩)⟩, ⟨by first | exact Kd.R_nil _ _ _ _ _ | exact Kd.N_nil _ _ _ _ _ | exact Kd.V_nil _ _ _ _ _ | exact Kd.Q_nil _ _ _ _ _ | exact Kd.S_nil _ _ _ _ _⟩, ⟨by (with_reducible repeat (first | refine blk_drewN ?_ _ | refine blk_drew ?_ | refine blk_alloc ?_ _)); exact BK229.out⟩, ⟨by (with_reducible repeat (first | refine blk_drewN ?_ _ | refine blk_drew ?_ | refine blk_alloc ?_ _)); exact BK230.out⟩, ⟨by repeat (first | (with_reducible first | exact HB.out | apply below_alloc | apply pw_below_drewN | apply below_drew1 | refine below_set ?_ GE229.out | refine below_set ?_ GE230.out) | exact HB.out)⟩⟩
  case rest =>
    clear HC2
    try clear c1
    try clear c2
    try clear p2
    try clear q2
    try clear hx2
    try clear qi2
    try clear c3
    try clear q3
    try clear c4
    try clear q4
    try clear c5
    try clear c5b0
    try clear c5b1
    try clear c6
    try clear c6b0
    try clear c6b1
    try clear p6
    try clear c8
    try clear c8b0
    try clear c9
    try clear c11
    try clear c12
    try clear c14
    try clear c17
    try clear c17b0
    try clear c17b1
    try clear c18
    try clear c19
    try clear c21
    try clear c21b0
    try clear c21b1
    try clear c22
    try clear c22b0
    try clear c22b1
    try clear c23
    try clear p23
    try clear q23
    try clear hx23
    try clear qi23
    try clear c24
    try clear c25
    try clear c25b0
    try clear c25b1
    try clear c26
    try clear c29
    try clear c29b0
    try clear c29b1
    try clear c30
    try clear c31
    try clear c31b0
    try clear c31b1
    try clear c34
    try clear c35
    try clear q35
    try clear c38
    try clear c40
    try clear q40
    try clear c43
    try clear hcz13_0
    try clear hcz13_1
    try clear hcz13_2
    try clear hcz13_3
    try clear hcz13_4
    try clear hcz13_5
    try clear hcz15_0
    try clear hcz15_1
    try clear hcz15_2
    try clear hcz15_3
    try clear hcz15_4
    try clear hcz15_5
    try clear hcz20_0
    try clear hcz20_1
    try clear hcz20_2
    try clear hcz20_3
    try clear hcz20_4
    try clear hcz20_5
    try clear hcz24_0
    try clear hcz24_1
    try clear hcz24_2
    try clear hcz24_3
    try clear hcz24_4
    try clear hcz24_5
    try clear hcz27_0
    try clear hcz27_1
    try clear hcz27_2
    try clear hcz27_3
    try clear hcz27_4
    try clear hcz27_5
    try clear hcz39_0
    try clear hcz39_1
    try clear hcz39_2
    try clear hcz39_3
    try clear hcz39_4
    try clear hcz39_5
    try clear hcz44_0
    try clear hcz44_1
    try clear hcz44_2
    try clear hcz44_3
    try clear hcz44_4
    try clear hcz44_5
    try clear hfz13_0
    try clear hfz13_1
    try clear hfz13_2
    try clear hfz13_3
    try clear hfz13_4
    try clear hfz13_5
    try clear hfz15_0
    try clear hfz15_1
    try clear hfz15_2
    try clear hfz15_3
    try clear hfz15_4
    try clear hfz15_5
    try clear hfz20_0
    try clear hfz20_1
    try clear hfz20_2
    try clear hfz20_3
    try clear hfz20_4
    try clear hfz20_5
    try clear hfz24_0
    try clear hfz24_1
    try clear hfz24_2
    try clear hfz24_3
    try clear hfz24_4
    try clear hfz24_5
    try clear hfz27_0
    try clear hfz27_1
    try clear hfz27_2
    try clear hfz27_3
    try clear hfz27_4
    try clear hfz27_5
    try clear hfz39_0
    try clear hfz39_1
    try clear hfz39_2
    try clear hfz39_3
    try clear hfz39_4
    try clear hfz39_5
    try clear hfz44_0
    try clear hfz44_1
    try clear hfz44_2
    try clear hfz44_3
    try clear hfz44_4
    try clear hfz44_5
    try clear hx231_0
    try clear hx235_0
    try clear p2
    try clear p23
    try clear p231
    try clear p235
    try clear q2
    try clear q23
    try clear q231
    try clear q235
    try clear q35
    try clear q40
    obtain ⟨kq, x6_1, x230000_1, x230001_1, x230002_1, x230004_1, x230005_1, x231000_1, x231001_1, x231002_1, x231003_1, x231004_1, x231005_1, u231003, rfl, HA, HJ1, HO_0, HO_231003, BK229, BK230, HB⟩ := hcut
    cases kq with
    | zero => exact absurd HA.out (by simp [quoinref23_Parse.j3])
    | succ kj1 =>
      have H := HA.out
      clear HA
      simp only [quoinref23_Parse.j3] at H
      have H' := Aside0.mk H
      clear H
      go_wp2
      go_loopg [6] kj1 (fun kq v6 w' => ∃ (x6_2 : Int) (x230000_2 : Int) (x230001_2 : Int) (x230002_2 : Int) (x230004_2 : Int) (x230005_2 : Bool) (x231004_2 : Int) (x231005_2 : Bool), v6 = .int .i64 x6_2 ∧ Aside0 (quoinref23_Parse.l0 kq l0 x6_2 x231000_1 x231001_1 x231002_1 x231003_1 x231004_2 x231005_2 = some (r1, r2, r3, r4, r5, r6, r7, r8)) ∧ Aside0 (kq ≤ kj1) ∧ Aside0 (Kd.V (Kd.int .u8) 5 w' w.heap.size (fun k_ => (P0_ k_ ∨ w.heap.size ≤ k_) ∧ some k_ ≠ (u231003 : Value).ownBlock ∧ k_ ≠ gb229 ∧ k_ ≠ gb230) (.slice A0 l0.length c0) l0) ∧ Aside0 (Kd.R (Kd.int .u8) 5 w' w.heap.size (fun k_ => (w.heap.size ≤ k_)) u231003 x231003_1) ∧ Aside0 (w'.heap[gb229]? = some (.cells #[.int .u8 x230000_2, .int .i64 x230001_2, .int .u8 x230002_2, (.slice none 0 0), .int .i64 x230004_2, .bool x230005_2] 25 (0, 0))) ∧ Aside0 (w'.heap[gb230]? = some (.cells #[.int .u8 x231000_1, .int .i64 x231001_1, .int .u8 x231002_1, u231003, .int .i64 x231004_2, .bool x231005_2] 25 (0, 0))) ∧ Aside0 (Below w.heap.size w w'))
      case atStart => exact ⟨(x6_1), (x230000_1), (x230001_1), (x230002_1), (x230004_1), (x230005_1), (x231004_1), (x231005_1), (by first | rfl | (simp; done) | (simp [*]; done)), H', ⟨Nat.le_refl _⟩, ⟨by (with_reducible repeat (first | apply Kd.V_alloc | apply Kd.V_drewN | apply Kd.V_drew)); exact HO_0.out⟩, ⟨by (with_reducible repeat (first | apply Kd.R_alloc | apply Kd.R_drewN | apply Kd.R_drew)); exact HO_231003.out⟩, ⟨by (with_reducible repeat (first | refine blk_drewN ?_ _ | refine blk_drew ?_ | refine blk_alloc ?_ _)); exact BK229.out⟩, ⟨by (with_reducible repeat (first | refine blk_drewN ?_ _ | refine blk_drew ?_ | refine blk_alloc ?_ _)); exact BK230.out⟩, ⟨by repeat (first | (with_reducible first | exact HB.out | apply below_alloc | apply pw_below_drewN | apply below_drew1 | refine below_set ?_ GE229.out | refine below_set ?_ GE230.out) | exact HB.out)⟩⟩
      case round =>
        clear H'
        try clear c1
        try clear c2
        try clear p2
        try clear q2
        try clear hx2
        try clear qi2
        try clear c3
        try clear q3
        try clear c4
        try clear q4
        try clear c5
        try clear c5b0
        try clear c5b1
        try clear c6
        try clear c6b0
        try clear c6b1
        try clear p6
        try clear c8
        try clear c8b0
        try clear c9
        try clear c11
        try clear c12
        try clear c14
        try clear c17
        try clear c17b0
        try clear c17b1
        try clear c18
        try clear c19
        try clear c21
        try clear c21b0
        try clear c21b1
        try clear c22
        try clear c22b0
        try clear c22b1
        try clear c23
        try clear p23
        try clear q23
        try clear hx23
        try clear qi23
        try clear c24
        try clear c25
        try clear c25b0
        try clear c25b1
        try clear c26
        try clear c29
        try clear c29b0
        try clear c29b1
        try clear c30
        try clear c31
        try clear c31b0
        try clear c31b1
        try clear c34
        try clear c35
        try clear q35
        try clear c38
        try clear c40
        try clear q40
        try clear c43
        try clear hcz13_0
        try clear hcz13_1
        try clear hcz13_2
        try clear hcz13_3
        try clear hcz13_4
        try clear hcz13_5
        try clear hcz15_0
        try clear hcz15_1
        try clear hcz15_2
        try clear hcz15_3
        try clear hcz15_4
        try clear hcz15_5
        try clear hcz20_0
        try clear hcz20_1
        try clear hcz20_2
        try clear hcz20_3
        try clear hcz20_4
        try clear hcz20_5
        try clear hcz24_0
        try clear hcz24_1
        try clear hcz24_2
        try clear hcz24_3
        try clear hcz24_4
        try clear hcz24_5
        try clear hcz27_0
        try clear hcz27_1
        try clear hcz27_2
        try clear hcz27_3
        try clear hcz27_4
        try clear hcz27_5
        try clear hcz39_0
        try clear hcz39_1
        try clear hcz39_2
        try clear hcz39_3
        try clear hcz39_4
        try clear hcz39_5
        try clear hcz44_0
        try clear hcz44_1
        try clear hcz44_2
        try clear hcz44_3
        try clear hcz44_4
        try clear hcz44_5
        try clear hfz13_0
        try clear hfz13_1
        try clear hfz13_2
        try clear hfz13_3
        try clear hfz13_4
        try clear hfz13_5
        try clear hfz15_0
        try clear hfz15_1
        try clear hfz15_2
        try clear hfz15_3
        try clear hfz15_4
        try clear hfz15_5
        try clear hfz20_0
        try clear hfz20_1
        try clear hfz20_2
        try clear hfz20_3
        try clear hfz20_4
        try clear hfz20_5
        try clear hfz24_0
        try clear hfz24_1
        try clear hfz24_2
        try clear hfz24_3
        try clear hfz24_4
        try clear hfz24_5
        try clear hfz27_0
        try clear hfz27_1
        try clear hfz27_2
        try clear hfz27_3
        try clear hfz27_4
        try clear hfz27_5
        try clear hfz39_0
        try clear hfz39_1
        try clear hfz39_2
        try clear hfz39_3
        try clear hfz39_4
        try clear hfz39_5
        try clear hfz44_0
        try clear hfz44_1
        try clear hfz44_2
        try clear hfz44_3
        try clear hfz44_4
        try clear hfz44_5
        try clear hx231_0
        try clear hx235_0
        try clear p2
        try clear p23
        try clear p231
        try clear p235
        try clear p6
        try clear q2
        try clear q23
        try clear q231
        try clear q235
        try clear q3
        try clear q35
        try clear q4
        try clear q40
        obtain ⟨x6_2, x230000_2, x230001_2, x230002_2, x230004_2, x230005_2, x231004_2, x231005_2, rfl, HA, HK2, HO_0, HO_231003, BK229, BK230, HB⟩ := hrel
        cases gk with
        | zero => exact absurd HA.out (by simp [quoinref23_Parse.l0])
        | succ k2 =>
          have H := HA.out
          clear HA
          simp only [quoinref23_Parse.l0] at H
          have HC45 := Aside0.mk H
          clear H
          go_upto_region 25 with (fail)
          go_cut [103] (fun v103 wc => ∃ (kq : Nat) (x103_44 : Bool), v103 = .bool x103_44 ∧ Aside0 (quoinref23_Parse.j5 kq l0 x6_2 x103_44 x231000_1 x231001_1 x231002_1 x231003_1 x231004_2 x231005_2 = some (r1, r2, r3, r4, r5, r6, r7, r8)) ∧ Aside0 (kq ≤ k2) ∧ Aside0 (Kd.V (Kd.int .u8) 5 wc w.heap.size (fun k_ => (P0_ k_ ∨ w.heap.size ≤ k_) ∧ some k_ ≠ (u231003 : Value).ownBlock ∧ k_ ≠ gb229 ∧ k_ ≠ gb230) (.slice A0 l0.length c0) l0) ∧ Aside0 (Kd.R (Kd.int .u8) 5 wc w.heap.size (fun k_ => (w.heap.size ≤ k_)) u231003 x231003_1) ∧ Aside0 (wc.heap[gb229]? = some (.cells #[.int .u8 x230000_2, .int .i64 x230001_2, .int .u8 x230002_2, (.slice none 0 0), .int .i64 x230004_2, .bool x230005_2] 25 (0, 0))) ∧ Aside0 (wc.heap[gb230]? = some (.cells #[.int .u8 x231000_1, .int .i64 x231001_1, .int .u8 x231002_1, u231003, .int .i64 x231004_2, .bool x231005_2] 25 (0, 0))) ∧ Aside0 (Below w.heap.size w wc))
          case first =>
            have H := HC45.out
            clear HC45
            by_cases c46 : x6_2 < (l0.length : Int)
            · rw [if_pos c46] at H
              have c46b0 : decide (x6_2 < (l0.length : Int)) = true := decide_eq_true c46
              clear c46
              (first | rw [c46b0] | rw [c46b1] | (simp only [i64_w, i32_w]; first | rw [c46b0] | rw [c46b1]) | skip)
              by_cases c47 : 0 ≤ x6_2
              · rw [if_pos c47] at H
                have c47b0 : decide (0 ≤ x6_2) = true := decide_eq_true c47
                clear c47
                by_cases c48 : (rd l0 x6_2) = 43
                · rw [if_pos c48] at H
                  have c48b0 : ((rd l0 x6_2) == 43) = true := beq_iff_eq.mpr c48
                  have c48b1 : ((rd l0 x6_2) != 43) = false := bne_eq_false_iff_eq.mpr c48
                  clear c48
                  have H' := Aside0.mk H
                  clear H
                  have p246 : 0 ≤ (x6_2 : Int) := of_decide_eq_true (by first | (with_reducible assumption) | assumption)
                  have q246 : x6_2 < (l0.length : Int) := of_decide_eq_true (by first | (with_reducible assumption) | assumption)
                  obtain ⟨ad246, e246, hx246_0⟩ := Kd.at_int (Kd.V_reads' HO_0.out).2.2 x6_2 p246 q246
                  cases e246
                  replace p246 := eq_true p246
                  replace q246 := eq_true q246
                  go_wp2
                  go_meet
                  case rel => exact ⟨_, (true), (by first | rfl | (simp; done) | (simp [*]; done)), H', ⟨by have := HJ1.out; have := HK2.out; first | omega | exact Nat.le_refl _⟩, ⟨by (with_reducible repeat (first | apply Kd.V_alloc | apply Kd.V_drewN | apply Kd.V_drew)); exact HO_0.out⟩, ⟨by (with_reducible repeat (first | apply Kd.R_alloc | apply Kd.R_drewN | apply Kd.R_drew)); exact HO_231003.out⟩, ⟨by (with_reducible repeat (first | refine blk_drewN ?_ _ | refine blk_drew ?_ | refine blk_alloc ?_ _)); exact BK229.out⟩, ⟨by (with_reducible repeat (first | refine blk_drewN ?_ _ | refine blk_drew ?_ | refine blk_alloc ?_ _)); exact BK230.out⟩, ⟨by repeat (first | (with_reducible first | exact HB.out | apply below_alloc | apply pw_below_drewN | apply below_drew1 | refine below_set ?_ GE229.out | refine below_set ?_ GE230.out) | exact HB.out)⟩⟩
                · rw [if_neg c48] at H
                  have c48b0 : ((rd l0 x6_2) == 43) = false := beq_eq_false_iff_ne.mpr c48
                  have c48b1 : ((rd l0 x6_2) != 43) = true := bne_iff_ne.mpr c48
                  have H' := Aside0.mk H
                  clear H
                  have p246 : 0 ≤ (x6_2 : Int) := of_decide_eq_true (by first | (with_reducible assumption) | assumption)
                  have q246 : x6_2 < (l0.length : Int) := of_decide_eq_true (by first | (with_reducible assumption) | assumption)
                  obtain ⟨ad246, e246, hx246_0⟩ := Kd.at_int (Kd.V_reads' HO_0.out).2.2 x6_2 p246 q246
                  cases e246
                  replace p246 := eq_true p246
                  replace q246 := eq_true q246
                  have p247 : 0 ≤ (x6_2 : Int) := of_decide_eq_true (by first | (with_reducible assumption) | assumption)
                  have q247 : x6_2 < (l0.length : Int) := of_decide_eq_true (by first | (with_reducible assumption) | assumption)
                  obtain ⟨ad247, e247, hx247_0⟩ := Kd.at_int (Kd.V_reads' HO_0.out).2.2 x6_2 p247 q247
                  obtain rfl : ad246 = ad247 := (by injection e247)
                  replace p247 := eq_true p247
                  replace q247 := eq_true q247
                  go_wp2
                  go_meet
                  case rel => exact ⟨_, (((rd l0 x6_2) == 45)), (by first | rfl | (simp; done) | (simp [*]; done)), H', ⟨by have := HJ1.out; have := HK2.out; first | omega | exact Nat.le_refl _⟩, ⟨by (with_reducible repeat (first | apply Kd.V_alloc | apply Kd.V_drewN | apply Kd.V_drew)); exact HO_0.out⟩, ⟨by (with_reducible repeat (first | apply Kd.R_alloc | apply Kd.R_drewN | apply Kd.R_drew)); exact HO_231003.out⟩, ⟨by (with_reducible repeat (first | refine blk_drewN ?_ _ | refine blk_drew ?_ | refine blk_alloc ?_ _)); exact BK229.out⟩, ⟨by (with_reducible repeat (first | refine blk_drewN ?_ _ | refine blk_drew ?_ | refine blk_alloc ?_ _)); exact BK230.out⟩, ⟨by repeat (first | (with_reducible first | exact HB.out | apply below_alloc | apply pw_below_drewN | apply below_drew1 | refine below_set ?_ GE229.out | refine below_set ?_ GE230.out) | exact HB.out)⟩⟩
              · rw [if_neg c47] at H
                exact absurd H (by simp)
            · rw [if_neg c46] at H
              have c46b0 : decide (x6_2 < (l0.length : Int)) = false := decide_eq_false c46
              clear c46
              (first | rw [c46b0] | rw [c46b1] | (simp only [i64_w, i32_w]; first | rw [c46b0] | rw [c46b1]) | skip)
              have H' := Aside0.mk H
              clear H
              go_wp2
              go_meet
              case rel => exact ⟨_, (false), (by first | rfl | (simp; done) | (simp [*]; done)), H', ⟨by have := HJ1.out; have := HK2.out; first | omega | exact Nat.le_refl _⟩, ⟨by (with_reducible repeat (first | apply Kd.V_alloc | apply Kd.V_drewN | apply Kd.V_drew)); exact HO_0.out⟩, ⟨by (with_reducible repeat (first | apply Kd.R_alloc | apply Kd.R_drewN | apply Kd.R_drew)); exact HO_231003.out⟩, ⟨by (with_reducible repeat (first | refine blk_drewN ?_ _ | refine blk_drew ?_ | refine blk_alloc ?_ _)); exact BK229.out⟩, ⟨by (with_reducible repeat (first | refine blk_drewN ?_ _ | refine blk_drew ?_ | refine blk_alloc ?_ _)); exact BK230.out⟩, ⟨by repeat (first | (with_reducible first | exact HB.out | apply below_alloc | apply pw_below_drewN | apply below_drew1 | refine below_set ?_ GE229.out | refine below_set ?_ GE230.out) | exact HB.out)⟩⟩
          case rest =>
            clear HC45
            try clear c1
            try clear c2
            try clear p2
            try clear q2
            try clear hx2
            try clear qi2
            try clear c3
            try clear q3
            try clear c4
            try clear q4
            try clear c5
            try clear c5b0
            try clear c5b1
            try clear c6
            try clear c6b0
            try clear c6b1
            try clear p6
            try clear c8
            try clear c8b0
            try clear c9
            try clear c11
            try clear c12
            try clear c14
            try clear c17
            try clear c17b0
            try clear c17b1
            try clear c18
            try clear c19
            try clear c21
            try clear c21b0
            try clear c21b1
            try clear c22
            try clear c22b0
            try clear c22b1
            try clear c23
            try clear p23
            try clear q23
            try clear hx23
            try clear qi23
            try clear c24
            try clear p24
            try clear q24
            try clear hx24
            try clear c25
            try clear c25b0
            try clear c25b1
            try clear c26
            try clear c29
            try clear c29b0
            try clear c29b1
            try clear c30
            try clear c31
            try clear c31b0
            try clear c31b1
            try clear c34
            try clear c35
            try clear q35
            try clear c38
            try clear c40
            try clear q40
            try clear c43
            try clear c46
            try clear c46b0
            try clear c47
            try clear c47b0
            try clear c48
            try clear c48b0
            try clear c48b1
            try clear hcz13_0
            try clear hcz13_1
            try clear hcz13_2
            try clear hcz13_3
            try clear hcz13_4
            try clear hcz13_5
            try clear hcz15_0
            try clear hcz15_1
            try clear hcz15_2
            try clear hcz15_3
            try clear hcz15_4
            try clear hcz15_5
            try clear hcz20_0
            try clear hcz20_1
            try clear hcz20_2
            try clear hcz20_3
            try clear hcz20_4
            try clear hcz20_5
            try clear hcz24_0
            try clear hcz24_1
            try clear hcz24_2
            try clear hcz24_3
            try clear hcz24_4
            try clear hcz24_5
            try clear hcz27_0
            try clear hcz27_1
            try clear hcz27_2
            try clear hcz27_3
            try clear hcz27_4
            try clear hcz27_5
            try clear hcz39_0
            try clear hcz39_1
            try clear hcz39_2
            try clear hcz39_3
            try clear hcz39_4
            try clear hcz39_5
            try clear hcz44_0
            try clear hcz44_1
            try clear hcz44_2
            try clear hcz44_3
            try clear hcz44_4
            try clear hcz44_5
            try clear hfz13_0
            try clear hfz13_1
            try clear hfz13_2
            try clear hfz13_3
            try clear hfz13_4
            try clear hfz13_5
            try clear hfz15_0
            try clear hfz15_1
            try clear hfz15_2
            try clear hfz15_3
            try clear hfz15_4
            try clear hfz15_5
            try clear hfz20_0
            try clear hfz20_1
            try clear hfz20_2
            try clear hfz20_3
            try clear hfz20_4
            try clear hfz20_5
            try clear hfz24_0
            try clear hfz24_1
            try clear hfz24_2
            try clear hfz24_3
            try clear hfz24_4
            try clear hfz24_5
            try clear hfz27_0
            try clear hfz27_1
            try clear hfz27_2
            try clear hfz27_3
            try clear hfz27_4
            try clear hfz27_5
            try clear hfz39_0
            try clear hfz39_1
            try clear hfz39_2
            try clear hfz39_3
            try clear hfz39_4
            try clear hfz39_5
            try clear hfz44_0
            try clear hfz44_1
            try clear hfz44_2
            try clear hfz44_3
            try clear hfz44_4
            try clear hfz44_5
            try clear hx231_0
            try clear hx235_0
            try clear hx246_0
            try clear hx247_0
            try clear p2
            try clear p23
            try clear p231
            try clear p235
            try clear p246
            try clear p247
            try clear p6
            try clear q2
            try clear q23
            try clear q231
            try clear q235
            try clear q246
            try clear q247
            try clear q3
            try clear q35
            try clear q4
            try clear q40
            obtain ⟨kq, x103_44, rfl, HA, HJ44, HO_0, HO_231003, BK229, BK230, HB⟩ := hcut
            cases kq with
            | zero => exact absurd HA.out (by simp [quoinref23_Parse.j5])
            | succ kj44 =>
              have H := HA.out
              clear HA
              simp only [quoinref23_Parse.j5] at H
              by_cases c49 : x103_44 = true
              · subst c49
                have H1 : (if 0 ≤ (wrap64 (x6_2 + 1)) then (if (wrap64 (x6_2 + 1)) ≤ (l0.length : Int) then ((quoinref23_number.f kj44 (l0.drop ((wrap64 (x6_2 + 1)) : Int).toNat)).bind fun bt253 => (if bt253.2.2 = true then (if bt253.2.1 = 0 then (if 0 ≤ x6_2 then (if x6_2 < (l0.length : Int) then (if (rd l0 x6_2) = 45 then (quoinref23_Parse.l0 kj44 l0 (wrap64 (x6_2 + (wrap64 (1 + bt253.2.1)))) x231000_1 x231001_1 x231002_1 x231003_1 (wrap64 (x231004_2 + (-1))) true) else (quoinref23_Parse.l0 kj44 l0 (wrap64 (x6_2 + (wrap64 (1 + bt253.2.1)))) x231000_1 x231001_1 x231002_1 x231003_1 (wrap64 (x231004_2 + 1)) true)) else (none)) else (none)) else (if 0 ≤ x6_2 then (if x6_2 < (l0.length : Int) then (if (rd l0 x6_2) = 45 then (quoinref23_Parse.l0 kj44 l0 (wrap64 (x6_2 + (wrap64 (1 + bt253.2.1)))) x231000_1 x231001_1 x231002_1 x231003_1 (wrap64 (x231004_2 + (wrap64 (-bt253.1)))) true) else (quoinref23_Parse.l0 kj44 l0 (wrap64 (x6_2 + (wrap64 (1 + bt253.2.1)))) x231000_1 x231001_1 x231002_1 x231003_1 (wrap64 (x231004_2 + bt253.1)) true)) else (none)) else (none))) else (some (0, 0, 0, ([] : List Int), 0, false, 0, 230)))) else (none)) else (none)) = some (r1, r2, r3, r4, r5, r6, r7, r8) := by rw [if_pos rfl] at H; exact H
                clear H
                have H := H1
                clear H1
                obtain ⟨ji50, hji50⟩ : ∃ j_ : Int, (wrap64 (x6_2 + 1)) = j_ := ⟨_, rfl⟩
                replace H : (if 0 ≤ (ji50) then (if (ji50) ≤ (l0.length : Int) then ((quoinref23_number.f kj44 (l0.drop ((ji50) : Int).toNat)).bind fun bt253 => (if bt253.2.2 = true then (if bt253.2.1 = 0 then (if 0 ≤ x6_2 then (if x6_2 < (l0.length : Int) then (if (rd l0 x6_2) = 45 then (quoinref23_Parse.l0 kj44 l0 (wrap64 (x6_2 + (wrap64 (1 + bt253.2.1)))) x231000_1 x231001_1 x231002_1 x231003_1 (wrap64 (x231004_2 + (-1))) true) else (quoinref23_Parse.l0 kj44 l0 (wrap64 (x6_2 + (wrap64 (1 + bt253.2.1)))) x231000_1 x231001_1 x231002_1 x231003_1 (wrap64 (x231004_2 + 1)) true)) else (none)) else (none)) else (if 0 ≤ x6_2 then (if x6_2 < (l0.length : Int) then (if (rd l0 x6_2) = 45 then (quoinref23_Parse.l0 kj44 l0 (wrap64 (x6_2 + (wrap64 (1 + bt253.2.1)))) x231000_1 x231001_1 x231002_1 x231003_1 (wrap64 (x231004_2 + (wrap64 (-bt253.1)))) true) else (quoinref23_Parse.l0 kj44 l0 (wrap64 (x6_2 + (wrap64 (1 + bt253.2.1)))) x231000_1 x231001_1 x231002_1 x231003_1 (wrap64 (x231004_2 + bt253.1)) true)) else (none)) else (none))) else (some (0, 0, 0, ([] : List Int), 0, false, 0, 230)))) else (none)) else (none)) = some (r1, r2, r3, r4, r5, r6, r7, r8) := by first | (rw [hji50] at H; exact H) | (simp only [hji50] at H ⊢; exact H)
                have hji50w : (IntKind.i64.wrap (x6_2 + 1)) = ji50 := (i64_w _).trans hji50
                by_cases c51 : 0 ≤ (ji50)
                · rw [if_pos c51] at H
                  have c51b0 := eq_true c51
                  have c51b1 : decide (0 ≤ (ji50)) = true := decide_eq_true c51
                  clear c51
                  by_cases c52 : (ji50) ≤ (l0.length : Int)
                  · rw [if_pos c52] at H
                    have c52b0 := eq_true c52
                    have c52b1 : decide ((ji50) ≤ (l0.length : Int)) = true := decide_eq_true c52
                    clear c52
                    obtain ⟨y248, hy248⟩ : ∃ y_ : List Int, y_ = (l0.drop ((ji50) : Int).toNat) := ⟨_, rfl⟩
                    replace H : ((quoinref23_number.f kj44 y248).bind fun bt253 => (if bt253.2.2 = true then (if bt253.2.1 = 0 then (if 0 ≤ x6_2 then (if x6_2 < (l0.length : Int) then (if (rd l0 x6_2) = 45 then (quoinref23_Parse.l0 kj44 l0 (wrap64 (x6_2 + (wrap64 (1 + bt253.2.1)))) x231000_1 x231001_1 x231002_1 x231003_1 (wrap64 (x231004_2 + (-1))) true) else (quoinref23_Parse.l0 kj44 l0 (wrap64 (x6_2 + (wrap64 (1 + bt253.2.1)))) x231000_1 x231001_1 x231002_1 x231003_1 (wrap64 (x231004_2 + 1)) true)) else (none)) else (none)) else (if 0 ≤ x6_2 then (if x6_2 < (l0.length : Int) then (if (rd l0 x6_2) = 45 then (quoinref23_Parse.l0 kj44 l0 (wrap64 (x6_2 + (wrap64 (1 + bt253.2.1)))) x231000_1 x231001_1 x231002_1 x231003_1 (wrap64 (x231004_2 + (wrap64 (-bt253.1)))) true) else (quoinref23_Parse.l0 kj44 l0 (wrap64 (x6_2 + (wrap64 (1 + bt253.2.1)))) x231000_1 x231001_1 x231002_1 x231003_1 (wrap64 (x231004_2 + bt253.1)) true)) else (none)) else (none))) else (some (0, 0, 0, ([] : List Int), 0, false, 0, 230)))) = some (r1, r2, r3, r4, r5, r6, r7, r8) := by first | (rw [hy248]; with_reducible exact H) | (have H2_ := (Option.bind_some _ _).symm.trans H; rw [hy248]; with_reducible exact H2_) | (have H2_ := (Option.bind_some _ _).symm.trans H; with_reducible exact H2_) | with_reducible exact H | (rw [hy248]; exact H) | exact H
                    have Ny248 := Aside0.mk hy248
                    clear hy248
                    replace H := Option.bind_eq_some_iff.mp H
                    obtain ⟨⟨t253, t254, t255⟩, A530, H⟩ := H
                    replace H : (if t255 = true then (if t254 = 0 then (if 0 ≤ x6_2 then (if x6_2 < (l0.length : Int) then (if (rd l0 x6_2) = 45 then (quoinref23_Parse.l0 kj44 l0 (wrap64 (x6_2 + (wrap64 (1 + t254)))) x231000_1 x231001_1 x231002_1 x231003_1 (wrap64 (x231004_2 + (-1))) true) else (quoinref23_Parse.l0 kj44 l0 (wrap64 (x6_2 + (wrap64 (1 + t254)))) x231000_1 x231001_1 x231002_1 x231003_1 (wrap64 (x231004_2 + 1)) true)) else (none)) else (none)) else (if 0 ≤ x6_2 then (if x6_2 < (l0.length : Int) then (if (rd l0 x6_2) = 45 then (quoinref23_Parse.l0 kj44 l0 (wrap64 (x6_2 + (wrap64 (1 + t254)))) x231000_1 x231001_1 x231002_1 x231003_1 (wrap64 (x231004_2 + (wrap64 (-t253)))) true) else (quoinref23_Parse.l0 kj44 l0 (wrap64 (x6_2 + (wrap64 (1 + t254)))) x231000_1 x231001_1 x231002_1 x231003_1 (wrap64 (x231004_2 + t253)) true)) else (none)) else (none))) else (some (0, 0, 0, ([] : List Int), 0, false, 0, 230))) = some (r1, r2, r3, r4, r5, r6, r7, r8) := H
                    have A53 := Aside0.mk A530
                    clear A530
                    by_cases c54 : t255 = true
                    · subst c54
                      have H1 : (if t254 = 0 then (if 0 ≤ x6_2 then (if x6_2 < (l0.length : Int) then (if (rd l0 x6_2) = 45 then (quoinref23_Parse.l0 kj44 l0 (wrap64 (x6_2 + (wrap64 (1 + t254)))) x231000_1 x231001_1 x231002_1 x231003_1 (wrap64 (x231004_2 + (-1))) true) else (quoinref23_Parse.l0 kj44 l0 (wrap64 (x6_2 + (wrap64 (1 + t254)))) x231000_1 x231001_1 x231002_1 x231003_1 (wrap64 (x231004_2 + 1)) true)) else (none)) else (none)) else (if 0 ≤ x6_2 then (if x6_2 < (l0.length : Int) then (if (rd l0 x6_2) = 45 then (quoinref23_Parse.l0 kj44 l0 (wrap64 (x6_2 + (wrap64 (1 + t254)))) x231000_1 x231001_1 x231002_1 x231003_1 (wrap64 (x231004_2 + (wrap64 (-t253)))) true) else (quoinref23_Parse.l0 kj44 l0 (wrap64 (x6_2 + (wrap64 (1 + t254)))) x231000_1 x231001_1 x231002_1 x231003_1 (wrap64 (x231004_2 + t253)) true)) else (none)) else (none))) = some (r1, r2, r3, r4, r5, r6, r7, r8) := by rw [if_pos rfl] at H; exact H
                      clear H
                      have H := H1
                      clear H1
                      by_cases c55 : t254 = 0
                      · rw [if_pos c55] at H
                        have c55b0 : (t254 == 0) = true := beq_iff_eq.mpr c55
                        have c55b1 : (t254 != 0) = false := bne_eq_false_iff_eq.mpr c55
                        clear c55
                        by_cases c56 : 0 ≤ x6_2
                        · rw [if_pos c56] at H
                          have c56b0 : decide (0 ≤ x6_2) = true := decide_eq_true c56
                          clear c56
                          by_cases c57 : x6_2 < (l0.length : Int)
                          · rw [if_pos c57] at H
                            have c57b0 : decide (x6_2 < (l0.length : Int)) = true := decide_eq_true c57
                            clear c57
                            by_cases c58 : (rd l0 x6_2) = 45
                            · rw [if_pos c58] at H
                              have c58b0 : ((rd l0 x6_2) == 45) = true := beq_iff_eq.mpr c58
                              have c58b1 : ((rd l0 x6_2) != 45) = false := bne_eq_false_iff_eq.mpr c58
                              clear c58
                              have H' := Aside0.mk H
                              clear H
                              have q59 : ((ji50) : Int) ≤ ((l0.length : Int) : Int) := of_decide_eq_true (by first | (with_reducible assumption) | assumption)
                              obtain ⟨i059, hi059, _, hsz59, _⟩ := info_parts info5
                              have hroom59 : l0.length ≤ c0 := (Kd.V_reads' HO_0.out).2.1
                              have hC59 : Kd.F (Kd.int .u8) _ _ A0 l0.length l0 := (Kd.V_at (base := w.heap.size) HO_0.out).2.2
                              have q059 : (0 : Int) ≤ ((ji50) : Int) := of_decide_eq_true (by first | (with_reducible assumption) | assumption)
                              have hcut59 := cut_from (P := Tryd.prog) 22 5 .i64 Tryd.underlying22 hi059 1 hsz59 A0 l0.length c0 (ji50) q059 q59
                              have hr59 := Kd.F_cut (m := ((ji50) : Int).toNat) (c := c0) hC59 (by omega) hroom59
                              obtain ⟨A59, hA59⟩ : ∃ A1, A1 = (if c0 = ((ji50) : Int).toNat then A0 else (A0 : Option Addr).map (·.add (((ji50) : Int).toNat * 1))) := ⟨_, rfl⟩
                              obtain ⟨c59, hc59⟩ : ∃ c1, c1 = c0 - ((ji50) : Int).toNat := ⟨_, rfl⟩
                              have hy59 : y248.length = l0.length - ((ji50) : Int).toNat := (by rw [Ny248.out, List.length_drop] <;> omega)
                              rw [show (l0).drop ((ji50) : Int).toNat = y248 from Ny248.out.symm] at hr59
                              replace hr59 : Kd.F (Kd.int .u8) _ _ A59 y248.length y248 := (by rw [hA59]; exact hr59)
                              rw [← hy59, ← hA59, ← hc59] at hcut59
                              have HO252 := Aside0.mk (show Kd.V (Kd.int .u8) 5 _ w.heap.size _ (.slice A59 y248.length c59) y248 from Kd.V_mk (by rw [hy59, hc59]; exact Nat.sub_le_sub_right hroom59 _) hr59)
                              have HC252 := Aside0.mk (show y248.length ≤ c59 from by rw [hy59, hc59]; exact Nat.sub_le_sub_right hroom59 _)
                              clear hr59 hC59 hroom59 hi059 hsz59 hc59
                              have KY59 := Aside0.mk hy59
                              have KA59 := Aside0.mk hA59
                              clear hy59 hA59
                              replace q59 := eq_true q59
                              go_wp2_with (first | ((with_reducible refine gate_callee (f := 22) rfl ?_); refine goesL_ (some 109) rfl rfl Tryd.func22 (by kernel_rfl) rfl #[.slice A59 y248.length c59] rfl (by (try simp only [List.map_toArray, List.map_cons, List.map_nil]); first | done | rfl | (simp only [List.length_drop, List.length_take]; rfl)) ?_; (with_reducible refine (quoinref23_number.calls kj44 _ _ y248 t253 t254 true _ ?side1 ?side2 A53.out).mono ?_); (case side1 => repeat (first | exact (Kd.V_reads' HO252.out).2.2 | (with_reducible refine Kd.C_alloc ?_ _) | (with_reducible refine Kd.C_drewN ?_ _) | (with_reducible refine Kd.C_drew ?_))); (case side2 => exact (Kd.V_reads' HO252.out).2.1); rintro e w' ⟨rfl, ⟨nd, rfl⟩⟩; refine ⟨_, rfl, ?_⟩; (try (rw [drewN_self wc]; generalize hq_ : World.drewN wc _ = wc; have n0_ : Aside0 (Kd.V (Kd.int .u8) 5 wc w.heap.size (fun k_ => (P0_ k_ ∨ w.heap.size ≤ k_) ∧ some k_ ≠ (u231003 : Value).ownBlock ∧ k_ ≠ gb229 ∧ k_ ≠ gb230) (.slice A59 y248.length c59) y248) := ⟨by rw [← hq_]; exact (by (with_reducible repeat (first | apply Kd.V_alloc | apply Kd.V_drewN | apply Kd.V_drew)); exact HO252.out)⟩; have n1_ : Aside0 (Kd.V (Kd.int .u8) 5 wc w.heap.size (fun k_ => (P0_ k_ ∨ w.heap.size ≤ k_) ∧ some k_ ≠ (u231003 : Value).ownBlock ∧ k_ ≠ gb229 ∧ k_ ≠ gb230) (.slice A0 l0.length c0) l0) := ⟨by rw [← hq_]; exact (by (with_reducible repeat (first | apply Kd.V_alloc | apply Kd.V_drewN | apply Kd.V_drew)); exact HO_0.out)⟩; have n2_ : Aside0 (Kd.R (Kd.int .u8) 5 wc w.heap.size (fun k_ => (w.heap.size ≤ k_)) u231003 x231003_1) := ⟨by rw [← hq_]; exact (by (with_reducible repeat (first | apply Kd.R_alloc | apply Kd.R_drewN | apply Kd.R_drew)); exact HO_231003.out)⟩; have n3_ : Aside0 (wc.heap[gb229]? = some (.cells #[.int .u8 x230000_2, .int .i64 x230001_2, .int .u8 x230002_2, .slice none 0 0, .int .i64 x230004_2, .bool x230005_2] 25 (0, 0))) := ⟨by rw [← hq_]; exact (by (with_reducible repeat (first | refine blk_drewN ?_ _ | refine blk_drew ?_ | refine blk_alloc ?_ _)); exact BK229.out)⟩; have n4_ : Aside0 (wc.heap[gb230]? = some (.cells #[.int .u8 x231000_1, .int .i64 x231001_1, .int .u8 x231002_1, u231003, .int .i64 x231004_2, .bool x231005_2] 25 (0, 0))) := ⟨by rw [← hq_]; exact (by (with_reducible repeat (first | refine blk_drewN ?_ _ | refine blk_drew ?_ | refine blk_alloc ?_ _)); exact BK230.out)⟩; have n5_ : Aside0 (Below w.heap.size w wc) := ⟨by rw [← hq_]; exact (by repeat (first | (with_reducible first | exact HB.out | apply below_alloc | apply pw_below_drewN | apply below_drew1 | refine below_set ?_ GE229.out | refine below_set ?_ GE230.out) | exact HB.out))⟩; clear HO252 HO_0 HO_231003 BK229 BK230 HB hq_; have HO252 := n0_; have HO_0 := n1_; have HO_231003 := n2_; have BK229 := n3_; have BK230 := n4_; have HB := n5_; clear n0_ n1_ n2_ n3_ n4_ n5_)); (try have hcy229_0 : wc.cell? ⟨gb229, 0, none⟩ = some (.int .u8 x230000_2) := (blk_cell BK229.out 0).trans rfl); (try have hfy229_0 := blk_frozen BK229.out 0); (try have hcy229_1 : wc.cell? ⟨gb229, 1, none⟩ = some (.int .i64 x230001_2) := (blk_cell BK229.out 1).trans rfl); (try have hfy229_1 := blk_frozen BK229.out 1); (try have hcy229_2 : wc.cell? ⟨gb229, 2, none⟩ = some (.int .u8 x230002_2) := (blk_cell BK229.out 2).trans rfl); (try have hfy229_2 := blk_frozen BK229.out 2); (try have hcy229_3 : wc.cell? ⟨gb229, 3, none⟩ = some (.slice none 0 0) := (blk_cell BK229.out 3).trans rfl); (try have hfy229_3 := blk_frozen BK229.out 3); (try have hcy229_4 : wc.cell? ⟨gb229, 4, none⟩ = some (.int .i64 x230004_2) := (blk_cell BK229.out 4).trans rfl); (try have hfy229_4 := blk_frozen BK229.out 4); (try have hcy229_5 : wc.cell? ⟨gb229, 5, none⟩ = some (.bool x230005_2) := (blk_cell BK229.out 5).trans rfl); (try have hfy229_5 := blk_frozen BK229.out 5); (try have hcy230_0 : wc.cell? ⟨gb230, 0, none⟩ = some (.int .u8 x231000_1) := (blk_cell BK230.out 0).trans rfl); (try have hfy230_0 := blk_frozen BK230.out 0); (try have hcy230_1 : wc.cell? ⟨gb230, 1, none⟩ = some (.int .i64 x231001_1) := (blk_cell BK230.out 1).trans rfl); (try have hfy230_1 := blk_frozen BK230.out 1); (try have hcy230_2 : wc.cell? ⟨gb230, 2, none⟩ = some (.int .u8 x231002_1) := (blk_cell BK230.out 2).trans rfl); (try have hfy230_2 := blk_frozen BK230.out 2); (try have hcy230_3 : wc.cell? ⟨gb230, 3, none⟩ = some (u231003) := (blk_cell BK230.out 3).trans rfl); (try have hfy230_3 := blk_frozen BK230.out 3); (try have hcy230_4 : wc.cell? ⟨gb230, 4, none⟩ = some (.int .i64 x231004_2) := (blk_cell BK230.out 4).trans rfl); (try have hfy230_4 := blk_frozen BK230.out 4); (try have hcy230_5 : wc.cell? ⟨gb230, 5, none⟩ = some (.bool x231005_2) := (blk_cell BK230.out 5).trans rfl); (try have hfy230_5 := blk_frozen BK230.out 5); have p256 : 0 ≤ (x6_2 : Int) := of_decide_eq_true (by first | (with_reducible assumption) | assumption); have q256 : x6_2 < (l0.length : Int) := of_decide_eq_true (by first | (with_reducible assumption) | assumption); obtain ⟨ad256, e256, hx256_0⟩ := Kd.at_int (Kd.V_reads' HO_0.out).2.2 x6_2 p256 q256; cases e256; replace p256 := eq_true p256; replace q256 := eq_true q256; have hnb60 := NB230_229.out; have hnc60 := NB229_230.out; have hcz61_0 : wc.cell? ⟨gb230, 0, none⟩ = some (.int .u8 x231000_1) := (blk_cell BK230.out 0).trans rfl; have hcz61_1 : wc.cell? ⟨gb230, 1, none⟩ = some (.int .i64 x231001_1) := (blk_cell BK230.out 1).trans rfl; have hcz61_2 : wc.cell? ⟨gb230, 2, none⟩ = some (.int .u8 x231002_1) := (blk_cell BK230.out 2).trans rfl; have hcz61_3 : wc.cell? ⟨gb230, 3, none⟩ = some (u231003) := (blk_cell BK230.out 3).trans rfl; have hcz61_4 : wc.cell? ⟨gb230, 4, none⟩ = some (.int .i64 x231004_2) := (blk_cell BK230.out 4).trans rfl; have hcz61_5 : wc.cell? ⟨gb230, 5, none⟩ = some (.bool x231005_2) := (blk_cell BK230.out 5).trans rfl; have hfz61_0 := blk_frozen BK230.out 0; have hfz61_1 := blk_frozen BK230.out 1; have hfz61_2 := blk_frozen BK230.out 2; have hfz61_3 := blk_frozen BK230.out 3; have hfz61_4 := blk_frozen BK230.out 4; have hfz61_5 := blk_frozen BK230.out 5))
                              go_roundg kj44
                              case measure => have := HJ1.out; have := HK2.out; have := HJ44.out; omega
                              case rel => exact ⟨(wrap64 (x6_2 + (wrap64 (1 + t254)))), (x230000_2), (x230001_2), (x230002_2), (x230004_2), (x230005_2), (wrap64 (x231004_2 + (-1))), (true), (by first | rfl | (simp; done) | (simp [*]; done)), H', ⟨by have := HJ1.out; have := HK2.out; have := HJ44.out; omega⟩, ⟨by (with_reducible repeat (first | apply Kd.V_alloc | apply Kd.V_drewN | apply Kd.V_drew)); exact Kd.V_mono (Kd.V_far (p := ⟨gb230, 5, none⟩) (Kd.V_far (p := ⟨gb230, 4, none⟩) (Kd.V_mono HO_0.out (fun k_ hk => (⟨hk, hk.2.2.2⟩ : _ ∧ k_ ≠ gb230))) (fun _ hk => hk.2) (.int .i64 (wrap64 (x231004_2 + (-1))))) (fun _ hk => hk.2) (.bool true)) (fun _ hk => ⟨hk.1.1, ⟨hk.1.2.1, ⟨hk.1.2.2.1, hk.1.2.2.2⟩⟩⟩)⟩, ⟨by (with_reducible repeat (first | apply Kd.R_alloc | apply Kd.R_drewN | apply Kd.R_drew)); exact Kd.R_mono (Kd.R_far (p := ⟨gb230, 5, none⟩) (Kd.R_far (p := ⟨gb230, 4, none⟩) (Kd.R_types HO_231003.out BK230.out (by decide)) (fun _ hk => hk.2) (.int .i64 (wrap64 (x231004_2 + (-1))))) (fun _ hk => hk.2) (.bool true)) (fun _ hk => hk.1)⟩, ⟨by (with_reducible repeat (first | refine blk_drewN ?_ _ | refine blk_drew ?_ | refine blk_alloc ?_ _)); refine blk_far ?_ NB229_230.out _; (with_reducible repeat (first | refine blk_drewN ?_ _ | refine blk_drew ?_ | refine blk_alloc ?_ _)); refine blk_far ?_ NB229_230.out _; (with_reducible repeat (first | refine blk_drewN ?_ _ | refine blk_drew ?_ | refine blk_alloc ?_ _)); exact BK229.out⟩, ⟨by (with_reducible repeat (first | refine blk_drewN ?_ _ | refine blk_drew ?_ | refine blk_alloc ?_ _)); refine blk_put (cs := #[.int .u8 x231000_1, .int .i64 x231001_1, .int .u8 x231002_1, u231003, .int .i64 (wrap64 (x231004_2 + (-1))), .bool x231005_2]) ?_ 5 _ rfl; (with_reducible repeat (first | refine blk_drewN ?_ _ | refine blk_drew ?_ | refine blk_alloc ?_ _)); refine blk_put (cs := #[.int .u8 x231000_1, .int .i64 x231001_1, .int .u8 x231002_1, u231003, .int .i64 x231004_2, .bool x231005_2]) ?_ 4 _ rfl; (with_reducible repeat (first | refine blk_drewN ?_ _ | refine blk_drew ?_ | refine blk_alloc ?_ _)); exact BK230.out⟩, ⟨by repeat (first | (with_reducible first | exact HB.out | apply below_alloc | apply pw_below_drewN | apply below_drew1 | refine below_set ?_ GE229.out | refine below_set ?_ GE230.out) | exact HB.out)⟩⟩
                            · rw [if_neg c58] at H
                              have c58b0 : ((rd l0 x6_2) == 45) = false := beq_eq_false_iff_ne.mpr c58
                              have c58b1 : ((rd l0 x6_2) != 45) = true := bne_iff_ne.mpr c58
                              have H' := Aside0.mk H
                              clear H
                              have q62 : ((ji50) : Int) ≤ ((l0.length : Int) : Int) := of_decide_eq_true (by first | (with_reducible assumption) | assumption)
                              obtain ⟨i062, hi062, _, hsz62, _⟩ := info_parts info5
                              have hroom62 : l0.length ≤ c0 := (Kd.V_reads' HO_0.out).2.1
                              have hC62 : Kd.F (Kd.int .u8) _ _ A0 l0.length l0 := (Kd.V_at (base := w.heap.size) HO_0.out).2.2
                              have q062 : (0 : Int) ≤ ((ji50) : Int) := of_decide_eq_true (by first | (with_reducible assumption) | assumption)
                              have hcut62 := cut_from (P := Tryd.prog) 22 5 .i64 Tryd.underlying22 hi062 1 hsz62 A0 l0.length c0 (ji50) q062 q62
                              have hr62 := Kd.F_cut (m := ((ji50) : Int).toNat) (c := c0) hC62 (by omega) hroom62
                              obtain ⟨A62, hA62⟩ : ∃ A1, A1 = (if c0 = ((ji50) : Int).toNat then A0 else (A0 : Option Addr).map (·.add (((ji50) : Int).toNat * 1))) := ⟨_, rfl⟩
                              obtain ⟨c62, hc62⟩ : ∃ c1, c1 = c0 - ((ji50) : Int).toNat := ⟨_, rfl⟩
                              have hy62 : y248.length = l0.length - ((ji50) : Int).toNat := (by rw [Ny248.out, List.length_drop] <;> omega)
                              rw [show (l0).drop ((ji50) : Int).toNat = y248 from Ny248.out.symm] at hr62
                              replace hr62 : Kd.F (Kd.int .u8) _ _ A62 y248.length y248 := (by rw [hA62]; exact hr62)
                              rw [← hy62, ← hA62, ← hc62] at hcut62
                              have HO252 := Aside0.mk (show Kd.V (Kd.int .u8) 5 _ w.heap.size _ (.slice A62 y248.length c62) y248 from Kd.V_mk (by rw [hy62, hc62]; exact Nat.sub_le_sub_right hroom62 _) hr62)
                              have HC252 := Aside0.mk (show y248.length ≤ c62 from by rw [hy62, hc62]; exact Nat.sub_le_sub_right hroom62 _)
                              clear hr62 hC62 hroom62 hi062 hsz62 hc62
                              have KY62 := Aside0.mk hy62
                              have KA62 := Aside0.mk hA62
                              clear hy62 hA62
                              replace q62 := eq_true q62
                              go_wp2_with (first | ((with_reducible refine gate_callee (f := 22) rfl ?_); refine goesL_ (some 109) rfl rfl Tryd.func22 (by kernel_rfl) rfl #[.slice A62 y248.length c62] rfl (by (try simp only [List.map_toArray, List.map_cons, List.map_nil]); first | done | rfl | (simp only [List.length_drop, List.length_take]; rfl)) ?_; (with_reducible refine (quoinref23_number.calls kj44 _ _ y248 t253 t254 true _ ?side1 ?side2 A53.out).mono ?_); (case side1 => repeat (first | exact (Kd.V_reads' HO252.out).2.2 | (with_reducible refine Kd.C_alloc ?_ _) | (with_reducible refine Kd.C_drewN ?_ _) | (with_reducible refine Kd.C_drew ?_))); (case side2 => exact (Kd.V_reads' HO252.out).2.1); rintro e w' ⟨rfl, ⟨nd, rfl⟩⟩; refine ⟨_, rfl, ?_⟩; (try (rw [drewN_self wc]; generalize hq_ : World.drewN wc _ = wc; have n0_ : Aside0 (Kd.V (Kd.int .u8) 5 wc w.heap.size (fun k_ => (P0_ k_ ∨ w.heap.size ≤ k_) ∧ some k_ ≠ (u231003 : Value).ownBlock ∧ k_ ≠ gb229 ∧ k_ ≠ gb230) (.slice A62 y248.length c62) y248) := ⟨by rw [← hq_]; exact (by (with_reducible repeat (first | apply Kd.V_alloc | apply Kd.V_drewN | apply Kd.V_drew)); exact HO252.out)⟩; have n1_ : Aside0 (Kd.V (Kd.int .u8) 5 wc w.heap.size (fun k_ => (P0_ k_ ∨ w.heap.size ≤ k_) ∧ some k_ ≠ (u231003 : Value).ownBlock ∧ k_ ≠ gb229 ∧ k_ ≠ gb230) (.slice A0 l0.length c0) l0) := ⟨by rw [← hq_]; exact (by (with_reducible repeat (first | apply Kd.V_alloc | apply Kd.V_drewN | apply Kd.V_drew)); exact HO_0.out)⟩; have n2_ : Aside0 (Kd.R (Kd.int .u8) 5 wc w.heap.size (fun k_ => (w.heap.size ≤ k_)) u231003 x231003_1) := ⟨by rw [← hq_]; exact (by (with_reducible repeat (first | apply Kd.R_alloc | apply Kd.R_drewN | apply Kd.R_drew)); exact HO_231003.out)⟩; have n3_ : Aside0 (wc.heap[gb229]? = some (.cells #[.int .u8 x230000_2, .int .i64 x230001_2, .int .u8 x230002_2, .slice none 0 0, .int .i64 x230004_2, .bool x230005_2] 25 (0, 0))) := ⟨by rw [← hq_]; exact (by (with_reducible repeat (first | refine blk_drewN ?_ _ | refine blk_drew ?_ | refine blk_alloc ?_ _)); exact BK229.out)⟩; have n4_ : Aside0 (wc.heap[gb230]? = some (.cells #[.int .u8 x231000_1, .int .i64 x231001_1, .int .u8 x231002_1, u231003, .int .i64 x231004_2, .bool x231005_2] 25 (0, 0))) := ⟨by rw [← hq_]; exact (by (with_reducible repeat (first | refine blk_drewN ?_ _ | refine blk_drew ?_ | refine blk_alloc ?_ _)); exact BK230.out)⟩; have n5_ : Aside0 (Below w.heap.size w wc) := ⟨by rw [← hq_]; exact (by repeat (first | (with_reducible first | exact HB.out | apply below_alloc | apply pw_below_drewN | apply below_drew1 | refine below_set ?_ GE229.out | refine below_set ?_ GE230.out) | exact HB.out))⟩; clear HO252 HO_0 HO_231003 BK229 BK230 HB hq_; have HO252 := n0_; have HO_0 := n1_; have HO_231003 := n2_; have BK229 := n3_; have BK230 := n4_; have HB := n5_; clear n0_ n1_ n2_ n3_ n4_ n5_)); (try have hcy229_0 : wc.cell? ⟨gb229, 0, none⟩ = some (.int .u8 x230000_2) := (blk_cell BK229.out 0).trans rfl); (try have hfy229_0 := blk_frozen BK229.out 0); (try have hcy229_1 : wc.cell? ⟨gb229, 1, none⟩ = some (.int .i64 x230001_2) := (blk_cell BK229.out 1).trans rfl); (try have hfy229_1 := blk_frozen BK229.out 1); (try have hcy229_2 : wc.cell? ⟨gb229, 2, none⟩ = some (.int .u8 x230002_2) := (blk_cell BK229.out 2).trans rfl); (try have hfy229_2 := blk_frozen BK229.out 2); (try have hcy229_3 : wc.cell? ⟨gb229, 3, none⟩ = some (.slice none 0 0) := (blk_cell BK229.out 3).trans rfl); (try have hfy229_3 := blk_frozen BK229.out 3); (try have hcy229_4 : wc.cell? ⟨gb229, 4, none⟩ = some (.int .i64 x230004_2) := (blk_cell BK229.out 4).trans rfl); (try have hfy229_4 := blk_frozen BK229.out 4); (try have hcy229_5 : wc.cell? ⟨gb229, 5, none⟩ = some (.bool x230005_2) := (blk_cell BK229.out 5).trans rfl); (try have hfy229_5 := blk_frozen BK229.out 5); (try have hcy230_0 : wc.cell? ⟨gb230, 0, none⟩ = some (.int .u8 x231000_1) := (blk_cell BK230.out 0).trans rfl); (try have hfy230_0 := blk_frozen BK230.out 0); (try have hcy230_1 : wc.cell? ⟨gb230, 1, none⟩ = some (.int .i64 x231001_1) := (blk_cell BK230.out 1).trans rfl); (try have hfy230_1 := blk_frozen BK230.out 1); (try have hcy230_2 : wc.cell? ⟨gb230, 2, none⟩ = some (.int .u8 x231002_1) := (blk_cell BK230.out 2).trans rfl); (try have hfy230_2 := blk_frozen BK230.out 2); (try have hcy230_3 : wc.cell? ⟨gb230, 3, none⟩ = some (u231003) := (blk_cell BK230.out 3).trans rfl); (try have hfy230_3 := blk_frozen BK230.out 3); (try have hcy230_4 : wc.cell? ⟨gb230, 4, none⟩ = some (.int .i64 x231004_2) := (blk_cell BK230.out 4).trans rfl); (try have hfy230_4 := blk_frozen BK230.out 4); (try have hcy230_5 : wc.cell? ⟨gb230, 5, none⟩ = some (.bool x231005_2) := (blk_cell BK230.out 5).trans rfl); (try have hfy230_5 := blk_frozen BK230.out 5); have p256 : 0 ≤ (x6_2 : Int) := of_decide_eq_true (by first | (with_reducible assumption) | assumption); have q256 : x6_2 < (l0.length : Int) := of_decide_eq_true (by first | (with_reducible assumption) | assumption); obtain ⟨ad256, e256, hx256_0⟩ := Kd.at_int (Kd.V_reads' HO_0.out).2.2 x6_2 p256 q256; cases e256; replace p256 := eq_true p256; replace q256 := eq_true q256; have hnb63 := NB230_229.out; have hnc63 := NB229_230.out; have hcz64_0 : wc.cell? ⟨gb230, 0, none⟩ = some (.int .u8 x231000_1) := (blk_cell BK230.out 0).trans rfl; have hcz64_1 : wc.cell? ⟨gb230, 1, none⟩ = some (.int .i64 x231001_1) := (blk_cell BK230.out 1).trans rfl; have hcz64_2 : wc.cell? ⟨gb230, 2, none⟩ = some (.int .u8 x231002_1) := (blk_cell BK230.out 2).trans rfl; have hcz64_3 : wc.cell? ⟨gb230, 3, none⟩ = some (u231003) := (blk_cell BK230.out 3).trans rfl; have hcz64_4 : wc.cell? ⟨gb230, 4, none⟩ = some (.int .i64 x231004_2) := (blk_cell BK230.out 4).trans rfl; have hcz64_5 : wc.cell? ⟨gb230, 5, none⟩ = some (.bool x231005_2) := (blk_cell BK230.out 5).trans rfl; have hfz64_0 := blk_frozen BK230.out 0; have hfz64_1 := blk_frozen BK230.out 1; have hfz64_2 := blk_frozen BK230.out 2; have hfz64_3 := blk_frozen BK230.out 3; have hfz64_4 := blk_frozen BK230.out 4; have hfz64_5 := blk_frozen BK230.out 5))
                              go_roundg kj44
                              case measure => have := HJ1.out; have := HK2.out; have := HJ44.out; omega
                              case rel => exact ⟨(wrap64 (x6_2 + (wrap64 (1 + t254)))), (x230000_2), (x230001_2), (x230002_2), (x230004_2), (x230005_2), (wrap64 (x231004_2 + 1)), (true), (by first | rfl | (simp; done) | (simp [*]; done)), H', ⟨by have := HJ1.out; have := HK2.out; have := HJ44.out; omega⟩, ⟨by (with_reducible repeat (first | apply Kd.V_alloc | apply Kd.V_drewN | apply Kd.V_drew)); exact Kd.V_mono (Kd.V_far (p := ⟨gb230, 5, none⟩) (Kd.V_far (p := ⟨gb230, 4, none⟩) (Kd.V_mono HO_0.out (fun k_ hk => (⟨hk, hk.2.2.2⟩ : _ ∧ k_ ≠ gb230))) (fun _ hk => hk.2) (.int .i64 (wrap64 (x231004_2 + 1)))) (fun _ hk => hk.2) (.bool true)) (fun _ hk => ⟨hk.1.1, ⟨hk.1.2.1, ⟨hk.1.2.2.1, hk.1.2.2.2⟩⟩⟩)⟩, ⟨by (with_reducible repeat (first | apply Kd.R_alloc | apply Kd.R_drewN | apply Kd.R_drew)); exact Kd.R_mono (Kd.R_far (p := ⟨gb230, 5, none⟩) (Kd.R_far (p := ⟨gb230, 4, none⟩) (Kd.R_types HO_231003.out BK230.out (by decide)) (fun _ hk => hk.2) (.int .i64 (wrap64 (x231004_2 + 1)))) (fun _ hk => hk.2) (.bool true)) (fun _ hk => hk.1)⟩, ⟨by (with_reducible repeat (first | refine blk_drewN ?_ _ | refine blk_drew ?_ | refine blk_alloc ?_ _)); refine blk_far ?_ NB229_230.out _; (with_reducible repeat (first | refine blk_drewN ?_ _ | refine blk_drew ?_ | refine blk_alloc ?_ _)); refine blk_far ?_ NB229_230.out _; (with_reducible repeat (first | refine blk_drewN ?_ _ | refine blk_drew ?_ | refine blk_alloc ?_ _)); exact BK229.out⟩, ⟨by (with_reducible repeat (first | refine blk_drewN ?_ _ | refine blk_drew ?_ | refine blk_alloc ?_ _)); refine blk_put (cs := #[.int .u8 x231000_1, .int .i64 x231001_1, .int .u8 x231002_1, u231003, .int .i64 (wrap64 (x231004_2 + 1)), .bool x231005_2]) ?_ 5 _ rfl; (with_reducible repeat (first | refine blk_drewN ?_ _ | refine blk_drew ?_ | refine blk_alloc ?_ _)); refine blk_put (cs := #[.int .u8 x231000_1, .int .i64 x231001_1, .int .u8 x231002_1, u231003, .int .i64 x231004_2, .bool x231005_2]) ?_ 4 _ rfl; (with_reducible repeat (first | refine blk_drewN ?_ _ | refine blk_drew ?_ | refine blk_alloc ?_ _)); exact BK230.out⟩, ⟨by repeat (first | (with_reducible first | exact HB.out | apply below_alloc | apply pw_below_drewN | apply below_drew1 | refine below_set ?_ GE229.out | refine below_set ?_ GE230.out) | exact HB.out)⟩⟩
                          · rw [if_neg c57] at H
                            exact absurd H (by simp)
                        · rw [if_neg c56] at H
                          exact absurd H (by simp)
                      · rw [if_neg c55] at H
                        have c55b0 : (t254 == 0) = false := beq_eq_false_iff_ne.mpr c55
                        have c55b1 : (t254 != 0) = true := bne_iff_ne.mpr c55
                        by_cases c65 : 0 ≤ x6_2
                        · rw [if_pos c65] at H
                          have c65b0 : decide (0 ≤ x6_2) = true := decide_eq_true c65
                          clear c65
                          by_cases c66 : x6_2 < (l0.length : Int)
                          · rw [if_pos c66] at H
                            have c66b0 : decide (x6_2 < (l0.length : Int)) = true := decide_eq_true c66
                            clear c66
                            by_cases c67 : (rd l0 x6_2) = 45
                            · rw [if_pos c67] at H
                              have c67b0 : ((rd l0 x6_2) == 45) = true := beq_iff_eq.mpr c67
                              have c67b1 : ((rd l0 x6_2) != 45) = false := bne_eq_false_iff_eq.mpr c67
                              clear c67
                              have H' := Aside0.mk H
                              clear H
                              have q68 : ((ji50) : Int) ≤ ((l0.length : Int) : Int) := of_decide_eq_true (by first | (with_reducible assumption) | assumption)
                              obtain ⟨i068, hi068, _, hsz68, _⟩ := info_parts info5
                              have hroom68 : l0.length ≤ c0 := (Kd.V_reads' HO_0.out).2.1
                              have hC68 : Kd.F (Kd.int .u8) _ _ A0 l0.length l0 := (Kd.V_at (base := w.heap.size) HO_0.out).2.2
                              have q068 : (0 : Int) ≤ ((ji50) : Int) := of_decide_eq_true (by first | (with_reducible assumption) | assumption)
                              have hcut68 := cut_from (P := Tryd.prog) 22 5 .i64 Tryd.underlying22 hi068 1 hsz68 A0 l0.length c0 (ji50) q068 q68
                              have hr68 := Kd.F_cut (m := ((ji50) : Int).toNat) (c := c0) hC68 (by omega) hroom68
                              obtain ⟨A68, hA68⟩ : ∃ A1, A1 = (if c0 = ((ji50) : Int).toNat then A0 else (A0 : Option Addr).map (·.add (((ji50) : Int).toNat * 1))) := ⟨_, rfl⟩
                              obtain ⟨c68, hc68⟩ : ∃ c1, c1 = c0 - ((ji50) : Int).toNat := ⟨_, rfl⟩
                              have hy68 : y248.length = l0.length - ((ji50) : Int).toNat := (by rw [Ny248.out, List.length_drop] <;> omega)
                              rw [show (l0).drop ((ji50) : Int).toNat = y248 from Ny248.out.symm] at hr68
                              replace hr68 : Kd.F (Kd.int .u8) _ _ A68 y248.length y248 := (by rw [hA68]; exact hr68)
                              rw [← hy68, ← hA68, ← hc68] at hcut68
                              have HO252 := Aside0.mk (show Kd.V (Kd.int .u8) 5 _ w.heap.size _ (.slice A68 y248.length c68) y248 from Kd.V_mk (by rw [hy68, hc68]; exact Nat.sub_le_sub_right hroom68 _) hr68)
                              have HC252 := Aside0.mk (show y248.length ≤ c68 from by rw [hy68, hc68]; exact Nat.sub_le_sub_right hroom68 _)
                              clear hr68 hC68 hroom68 hi068 hsz68 hc68
                              have KY68 := Aside0.mk hy68
                              have KA68 := Aside0.mk hA68
                              clear hy68 hA68
                              replace q68 := eq_true q68
                              go_wp2_with (first | ((with_reducible refine gate_callee (f := 22) rfl ?_); refine goesL_ (some 109) rfl rfl Tryd.func22 (by kernel_rfl) rfl #[.slice A68 y248.length c68] rfl (by (try simp only [List.map_toArray, List.map_cons, List.map_nil]); first | done | rfl | (simp only [List.length_drop, List.length_take]; rfl)) ?_; (with_reducible refine (quoinref23_number.calls kj44 _ _ y248 t253 t254 true _ ?side1 ?side2 A53.out).mono ?_); (case side1 => repeat (first | exact (Kd.V_reads' HO252.out).2.2 | (with_reducible refine Kd.C_alloc ?_ _) | (with_reducible refine Kd.C_drewN ?_ _) | (with_reducible refine Kd.C_drew ?_))); (case side2 => exact (Kd.V_reads' HO252.out).2.1); rintro e w' ⟨rfl, ⟨nd, rfl⟩⟩; refine ⟨_, rfl, ?_⟩; (try (rw [drewN_self wc]; generalize hq_ : World.drewN wc _ = wc; have n0_ : Aside0 (Kd.V (Kd.int .u8) 5 wc w.heap.size (fun k_ => (P0_ k_ ∨ w.heap.size ≤ k_) ∧ some k_ ≠ (u231003 : Value).ownBlock ∧ k_ ≠ gb229 ∧ k_ ≠ gb230) (.slice A68 y248.length c68) y248) := ⟨by rw [← hq_]; exact (by (with_reducible repeat (first | apply Kd.V_alloc | apply Kd.V_drewN | apply Kd.V_drew)); exact HO252.out)⟩; have n1_ : Aside0 (Kd.V (Kd.int .u8) 5 wc w.heap.size (fun k_ => (P0_ k_ ∨ w.heap.size ≤ k_) ∧ some k_ ≠ (u231003 : Value).ownBlock ∧ k_ ≠ gb229 ∧ k_ ≠ gb230) (.slice A0 l0.length c0) l0) := ⟨by rw [← hq_]; exact (by (with_reducible repeat (first | apply Kd.V_alloc | apply Kd.V_drewN | apply Kd.V_drew)); exact HO_0.out)⟩; have n2_ : Aside0 (Kd.R (Kd.int .u8) 5 wc w.heap.size (fun k_ => (w.heap.size ≤ k_)) u231003 x231003_1) := ⟨by rw [← hq_]; exact (by (with_reducible repeat (first | apply Kd.R_alloc | apply Kd.R_drewN | apply Kd.R_drew)); exact HO_231003.out)⟩; have n3_ : Aside0 (wc.heap[gb229]? = some (.cells #[.int .u8 x230000_2, .int .i64 x230001_2, .int .u8 x230002_2, .slice none 0 0, .int .i64 x230004_2, .bool x230005_2] 25 (0, 0))) := ⟨by rw [← hq_]; exact (by (with_reducible repeat (first | refine blk_drewN ?_ _ | refine blk_drew ?_ | refine blk_alloc ?_ _)); exact BK229.out)⟩; have n4_ : Aside0 (wc.heap[gb230]? = some (.cells #[.int .u8 x231000_1, .int .i64 x231001_1, .int .u8 x231002_1, u231003, .int .i64 x231004_2, .bool x231005_2] 25 (0, 0))) := ⟨by rw [← hq_]; exact (by (with_reducible repeat (first | refine blk_drewN ?_ _ | refine blk_drew ?_ | refine blk_alloc ?_ _)); exact BK230.out)⟩; have n5_ : Aside0 (Below w.heap.size w wc) := ⟨by rw [← hq_]; exact (by repeat (first | (with_reducible first | exact HB.out | apply below_alloc | apply pw_below_drewN | apply below_drew1 | refine below_set ?_ GE229.out | refine below_set ?_ GE230.out) | exact HB.out))⟩; clear HO252 HO_0 HO_231003 BK229 BK230 HB hq_; have HO252 := n0_; have HO_0 := n1_; have HO_231003 := n2_; have BK229 := n3_; have BK230 := n4_; have HB := n5_; clear n0_ n1_ n2_ n3_ n4_ n5_)); (try have hcy229_0 : wc.cell? ⟨gb229, 0, none⟩ = some (.int .u8 x230000_2) := (blk_cell BK229.out 0).trans rfl); (try have hfy229_0 := blk_frozen BK229.out 0); (try have hcy229_1 : wc.cell? ⟨gb229, 1, none⟩ = some (.int .i64 x230001_2) := (blk_cell BK229.out 1).trans rfl); (try have hfy229_1 := blk_frozen BK229.out 1); (try have hcy229_2 : wc.cell? ⟨gb229, 2, none⟩ = some (.int .u8 x230002_2) := (blk_cell BK229.out 2).trans rfl); (try have hfy229_2 := blk_frozen BK229.out 2); (try have hcy229_3 : wc.cell? ⟨gb229, 3, none⟩ = some (.slice none 0 0) := (blk_cell BK229.out 3).trans rfl); (try have hfy229_3 := blk_frozen BK229.out 3); (try have hcy229_4 : wc.cell? ⟨gb229, 4, none⟩ = some (.int .i64 x230004_2) := (blk_cell BK229.out 4).trans rfl); (try have hfy229_4 := blk_frozen BK229.out 4); (try have hcy229_5 : wc.cell? ⟨gb229, 5, none⟩ = some (.bool x230005_2) := (blk_cell BK229.out 5).trans rfl); (try have hfy229_5 := blk_frozen BK229.out 5); (try have hcy230_0 : wc.cell? ⟨gb230, 0, none⟩ = some (.int .u8 x231000_1) := (blk_cell BK230.out 0).trans rfl); (try have hfy230_0 := blk_frozen BK230.out 0); (try have hcy230_1 : wc.cell? ⟨gb230, 1, none⟩ = some (.int .i64 x231001_1) := (blk_cell BK230.out 1).trans rfl); (try have hfy230_1 := blk_frozen BK230.out 1); (try have hcy230_2 : wc.cell? ⟨gb230, 2, none⟩ = some (.int .u8 x231002_1) := (blk_cell BK230.out 2).trans rfl); (try have hfy230_2 := blk_frozen BK230.out 2); (try have hcy230_3 : wc.cell? ⟨gb230, 3, none⟩ = some (u231003) := (blk_cell BK230.out 3).trans rfl); (try have hfy230_3 := blk_frozen BK230.out 3); (try have hcy230_4 : wc.cell? ⟨gb230, 4, none⟩ = some (.int .i64 x231004_2) := (blk_cell BK230.out 4).trans rfl); (try have hfy230_4 := blk_frozen BK230.out 4); (try have hcy230_5 : wc.cell? ⟨gb230, 5, none⟩ = some (.bool x231005_2) := (blk_cell BK230.out 5).trans rfl); (try have hfy230_5 := blk_frozen BK230.out 5); have p257 : 0 ≤ (x6_2 : Int) := of_decide_eq_true (by first | (with_reducible assumption) | assumption); have q257 : x6_2 < (l0.length : Int) := of_decide_eq_true (by first | (with_reducible assumption) | assumption); obtain ⟨ad257, e257, hx257_0⟩ := Kd.at_int (Kd.V_reads' HO_0.out).2.2 x6_2 p257 q257; cases e257; replace p257 := eq_true p257; replace q257 := eq_true q257; have hnb69 := NB230_229.out; have hnc69 := NB229_230.out; have hcz70_0 : wc.cell? ⟨gb230, 0, none⟩ = some (.int .u8 x231000_1) := (blk_cell BK230.out 0).trans rfl; have hcz70_1 : wc.cell? ⟨gb230, 1, none⟩ = some (.int .i64 x231001_1) := (blk_cell BK230.out 1).trans rfl; have hcz70_2 : wc.cell? ⟨gb230, 2, none⟩ = some (.int .u8 x231002_1) := (blk_cell BK230.out 2).trans rfl; have hcz70_3 : wc.cell? ⟨gb230, 3, none⟩ = some (u231003) := (blk_cell BK230.out 3).trans rfl; have hcz70_4 : wc.cell? ⟨gb230, 4, none⟩ = some (.int .i64 x231004_2) := (blk_cell BK230.out 4).trans rfl; have hcz70_5 : wc.cell? ⟨gb230, 5, none⟩ = some (.bool x231005_2) := (blk_cell BK230.out 5).trans rfl; have hfz70_0 := blk_frozen BK230.out 0; have hfz70_1 := blk_frozen BK230.out 1; have hfz70_2 := blk_frozen BK230.out 2; have hfz70_3 := blk_frozen BK230.out 3; have hfz70_4 := blk_frozen BK230.out 4; have hfz70_5 := blk_frozen BK230.out 5))
                              go_roundg kj44
                              case measure => have := HJ1.out; have := HK2.out; have := HJ44.out; omega
                              case rel => exact ⟨(wrap64 (x6_2 + (wrap64 (1 + t254)))), (x230000_2), (x230001_2), (x230002_2), (x230004_2), (x230005_2), (wrap64 (x231004_2 + (wrap64 (-t253)))), (true), (by first | rfl | (simp; done) | (simp [*]; done)), H', ⟨by have := HJ1.out; have := HK2.out; have := HJ44.out; omega⟩, ⟨by (with_reducible repeat (first | apply Kd.V_alloc | apply Kd.V_drewN | apply Kd.V_drew)); exact Kd.V_mono (Kd.V_far (p := ⟨gb230, 5, none⟩) (Kd.V_far (p := ⟨gb230, 4, none⟩) (Kd.V_mono HO_0.out (fun k_ hk => (⟨hk, hk.2.2.2⟩ : _ ∧ k_ ≠ gb230))) (fun _ hk => hk.2) (.int .i64 (wrap64 (x231004_2 + (wrap64 (-t253)))))) (fun _ hk => hk.2) (.bool true)) (fun _ hk => ⟨hk.1.1, ⟨hk.1.2.1, ⟨hk.1.2.2.1, hk.1.2.2.2⟩⟩⟩)⟩, ⟨by (with_reducible repeat (first | apply Kd.R_alloc | apply Kd.R_drewN | apply Kd.R_drew)); exact Kd.R_mono (Kd.R_far (p := ⟨gb230, 5, none⟩) (Kd.R_far (p := ⟨gb230, 4, none⟩) (Kd.R_types HO_231003.out BK230.out (by decide)) (fun _ hk => hk.2) (.int .i64 (wrap64 (x231004_2 + (wrap64 (-t253)))))) (fun _ hk => hk.2) (.bool true)) (fun _ hk => hk.1)⟩, ⟨by (with_reducible repeat (first | refine blk_drewN ?_ _ | refine blk_drew ?_ | refine blk_alloc ?_ _)); refine blk_far ?_ NB229_230.out _; (with_reducible repeat (first | refine blk_drewN ?_ _ | refine blk_drew ?_ | refine blk_alloc ?_ _)); refine blk_far ?_ NB229_230.out _; (with_reducible repeat (first | refine blk_drewN ?_ _ | refine blk_drew ?_ | refine blk_alloc ?_ _)); exact BK229.out⟩, ⟨by (with_reducible repeat (first | refine blk_drewN ?_ _ | refine blk_drew ?_ | refine blk_alloc ?_ _)); refine blk_put (cs := #[.int .u8 x231000_1, .int .i64 x231001_1, .int .u8 x231002_1, u231003, .int .i64 (wrap64 (x231004_2 + (wrap64 (-t253)))), .bool x231005_2]) ?_ 5 _ rfl; (with_reducible repeat (first | refine blk_drewN ?_ _ | refine blk_drew ?_ | refine blk_alloc ?_ _)); refine blk_put (cs := #[.int .u8 x231000_1, .int .i64 x231001_1, .int .u8 x231002_1, u231003, .int .i64 x231004_2, .bool x231005_2]) ?_ 4 _ rfl; (with_reducible repeat (first | refine blk_drewN ?_ _ | refine blk_drew ?_ | refine blk_alloc ?_ _)); exact BK230.out⟩, ⟨by repeat (first | (with_reducible first | exact HB.out | apply below_alloc | apply pw_below_drewN | apply below_drew1 | refine below_set ?_ GE229.out | refine below_set ?_ GE230.out) | exact HB.out)⟩⟩
                            · rw [if_neg c67] at H
                              have c67b0 : ((rd l0 x6_2) == 45) = false := beq_eq_false_iff_ne.mpr c67
                              have c67b1 : ((rd l0 x6_2) != 45) = true := bne_iff_ne.mpr c67
                              have H' := Aside0.mk H
                              clear H
                              have q71 : ((ji50) : Int) ≤ ((l0.length : Int) : Int) := of_decide_eq_true (by first | (with_reducible assumption) | assumption)
                              obtain ⟨i071, hi071, _, hsz71, _⟩ := info_parts info5
                              have hroom71 : l0.length ≤ c0 := (Kd.V_reads' HO_0.out).2.1
                              have hC71 : Kd.F (Kd.int .u8) _ _ A0 l0.length l0 := (Kd.V_at (base := w.heap.size) HO_0.out).2.2
                              have q071 : (0 : Int) ≤ ((ji50) : Int) := of_decide_eq_true (by first | (with_reducible assumption) | assumption)
                              have hcut71 := cut_from (P := Tryd.prog) 22 5 .i64 Tryd.underlying22 hi071 1 hsz71 A0 l0.length c0 (ji50) q071 q71
                              have hr71 := Kd.F_cut (m := ((ji50) : Int).toNat) (c := c0) hC71 (by omega) hroom71
                              obtain ⟨A71, hA71⟩ : ∃ A1, A1 = (if c0 = ((ji50) : Int).toNat then A0 else (A0 : Option Addr).map (·.add (((ji50) : Int).toNat * 1))) := ⟨_, rfl⟩
                              obtain ⟨c71, hc71⟩ : ∃ c1, c1 = c0 - ((ji50) : Int).toNat := ⟨_, rfl⟩
                              have hy71 : y248.length = l0.length - ((ji50) : Int).toNat := (by rw [Ny248.out, List.length_drop] <;> omega)
                              rw [show (l0).drop ((ji50) : Int).toNat = y248 from Ny248.out.symm] at hr71
                              replace hr71 : Kd.F (Kd.int .u8) _ _ A71 y248.length y248 := (by rw [hA71]; exact hr71)
                              rw [← hy71, ← hA71, ← hc71] at hcut71
                              have HO252 := Aside0.mk (show Kd.V (Kd.int .u8) 5 _ w.heap.size _ (.slice A71 y248.length c71) y248 from Kd.V_mk (by rw [hy71, hc71]; exact Nat.sub_le_sub_right hroom71 _) hr71)
                              have HC252 := Aside0.mk (show y248.length ≤ c71 from by rw [hy71, hc71]; exact Nat.sub_le_sub_right hroom71 _)
                              clear hr71 hC71 hroom71 hi071 hsz71 hc71
                              have KY71 := Aside0.mk hy71
                              have KA71 := Aside0.mk hA71
                              clear hy71 hA71
                              replace q71 := eq_true q71
                              go_wp2_with (first | ((with_reducible refine gate_callee (f := 22) rfl ?_); refine goesL_ (some 109) rfl rfl Tryd.func22 (by kernel_rfl) rfl #[.slice A71 y248.length c71] rfl (by (try simp only [List.map_toArray, List.map_cons, List.map_nil]); first | done | rfl | (simp only [List.length_drop, List.length_take]; rfl)) ?_; (with_reducible refine (quoinref23_number.calls kj44 _ _ y248 t253 t254 true _ ?side1 ?side2 A53.out).mono ?_); (case side1 => repeat (first | exact (Kd.V_reads' HO252.out).2.2 | (with_reducible refine Kd.C_alloc ?_ _) | (with_reducible refine Kd.C_drewN ?_ _) | (with_reducible refine Kd.C_drew ?_))); (case side2 => exact (Kd.V_reads' HO252.out).2.1); rintro e w' ⟨rfl, ⟨nd, rfl⟩⟩; refine ⟨_, rfl, ?_⟩; (try (rw [drewN_self wc]; generalize hq_ : World.drewN wc _ = wc; have n0_ : Aside0 (Kd.V (Kd.int .u8) 5 wc w.heap.size (fun k_ => (P0_ k_ ∨ w.heap.size ≤ k_) ∧ some k_ ≠ (u231003 : Value).ownBlock ∧ k_ ≠ gb229 ∧ k_ ≠ gb230) (.slice A71 y248.length c71) y248) := ⟨by rw [← hq_]; exact (by (with_reducible repeat (first | apply Kd.V_alloc | apply Kd.V_drewN | apply Kd.V_drew)); exact HO252.out)⟩; have n1_ : Aside0 (Kd.V (Kd.int .u8) 5 wc w.heap.size (fun k_ => (P0_ k_ ∨ w.heap.size ≤ k_) ∧ some k_ ≠ (u231003 : Value).ownBlock ∧ k_ ≠ gb229 ∧ k_ ≠ gb230) (.slice A0 l0.length c0) l0) := ⟨by rw [← hq_]; exact (by (with_reducible repeat (first | apply Kd.V_alloc | apply Kd.V_drewN | apply Kd.V_drew)); exact HO_0.out)⟩; have n2_ : Aside0 (Kd.R (Kd.int .u8) 5 wc w.heap.size (fun k_ => (w.heap.size ≤ k_)) u231003 x231003_1) := ⟨by rw [← hq_]; exact (by (with_reducible repeat (first | apply Kd.R_alloc | apply Kd.R_drewN | apply Kd.R_drew)); exact HO_231003.out)⟩; have n3_ : Aside0 (wc.heap[gb229]? = some (.cells #[.int .u8 x230000_2, .int .i64 x230001_2, .int .u8 x230002_2, .slice none 0 0, .int .i64 x230004_2, .bool x230005_2] 25 (0, 0))) := ⟨by rw [← hq_]; exact (by (with_reducible repeat (first | refine blk_drewN ?_ _ | refine blk_drew ?_ | refine blk_alloc ?_ _)); exact BK229.out)⟩; have n4_ : Aside0 (wc.heap[gb230]? = some (.cells #[.int .u8 x231000_1, .int .i64 x231001_1, .int .u8 x231002_1, u231003, .int .i64 x231004_2, .bool x231005_2] 25 (0, 0))) := ⟨by rw [← hq_]; exact (by (with_reducible repeat (first | refine blk_drewN ?_ _ | refine blk_drew ?_ | refine blk_alloc ?_ _)); exact BK230.out)⟩; have n5_ : Aside0 (Below w.heap.size w wc) := ⟨by rw [← hq_]; exact (by repeat (first | (with_reducible first | exact HB.out | apply below_alloc | apply pw_below_drewN | apply below_drew1 | refine below_set ?_ GE229.out | refine below_set ?_ GE230.out) | exact HB.out))⟩; clear HO252 HO_0 HO_231003 BK229 BK230 HB hq_; have HO252 := n0_; have HO_0 := n1_; have HO_231003 := n2_; have BK229 := n3_; have BK230 := n4_; have HB := n5_; clear n0_ n1_ n2_ n3_ n4_ n5_)); (try have hcy229_0 : wc.cell? ⟨gb229, 0, none⟩ = some (.int .u8 x230000_2) := (blk_cell BK229.out 0).trans rfl); (try have hfy229_0 := blk_frozen BK229.out 0); (try have hcy229_1 : wc.cell? ⟨gb229, 1, none⟩ = some (.int .i64 x230001_2) := (blk_cell BK229.out 1).trans rfl); (try have hfy229_1 := blk_frozen BK229.out 1); (try have hcy229_2 : wc.cell? ⟨gb229, 2, none⟩ = some (.int .u8 x230002_2) := (blk_cell BK229.out 2).trans rfl); (try have hfy229_2 := blk_frozen BK229.out 2); (try have hcy229_3 : wc.cell? ⟨gb229, 3, none⟩ = some (.slice none 0 0) := (blk_cell BK229.out 3).trans rfl); (try have hfy229_3 := blk_frozen BK229.out 3); (try have hcy229_4 : wc.cell? ⟨gb229, 4, none⟩ = some (.int .i64 x230004_2) := (blk_cell BK229.out 4).trans rfl); (try have hfy229_4 := blk_frozen BK229.out 4); (try have hcy229_5 : wc.cell? ⟨gb229, 5, none⟩ = some (.bool x230005_2) := (blk_cell BK229.out 5).trans rfl); (try have hfy229_5 := blk_frozen BK229.out 5); (try have hcy230_0 : wc.cell? ⟨gb230, 0, none⟩ = some (.int .u8 x231000_1) := (blk_cell BK230.out 0).trans rfl); (try have hfy230_0 := blk_frozen BK230.out 0); (try have hcy230_1 : wc.cell? ⟨gb230, 1, none⟩ = some (.int .i64 x231001_1) := (blk_cell BK230.out 1).trans rfl); (try have hfy230_1 := blk_frozen BK230.out 1); (try have hcy230_2 : wc.cell? ⟨gb230, 2, none⟩ = some (.int .u8 x231002_1) := (blk_cell BK230.out 2).trans rfl); (try have hfy230_2 := blk_frozen BK230.out 2); (try have hcy230_3 : wc.cell? ⟨gb230, 3, none⟩ = some (u231003) := (blk_cell BK230.out 3).trans rfl); (try have hfy230_3 := blk_frozen BK230.out 3); (try have hcy230_4 : wc.cell? ⟨gb230, 4, none⟩ = some (.int .i64 x231004_2) := (blk_cell BK230.out 4).trans rfl); (try have hfy230_4 := blk_frozen BK230.out 4); (try have hcy230_5 : wc.cell? ⟨gb230, 5, none⟩ = some (.bool x231005_2) := (blk_cell BK230.out 5).trans rfl); (try have hfy230_5 := blk_frozen BK230.out 5); have p257 : 0 ≤ (x6_2 : Int) := of_decide_eq_true (by first | (with_reducible assumption) | assumption); have q257 : x6_2 < (l0.length : Int) := of_decide_eq_true (by first | (with_reducible assumption) | assumption); obtain ⟨ad257, e257, hx257_0⟩ := Kd.at_int (Kd.V_reads' HO_0.out).2.2 x6_2 p257 q257; cases e257; replace p257 := eq_true p257; replace q257 := eq_true q257; have hnb72 := NB230_229.out; have hnc72 := NB229_230.out; have hcz73_0 : wc.cell? ⟨gb230, 0, none⟩ = some (.int .u8 x231000_1) := (blk_cell BK230.out 0).trans rfl; have hcz73_1 : wc.cell? ⟨gb230, 1, none⟩ = some (.int .i64 x231001_1) := (blk_cell BK230.out 1).trans rfl; have hcz73_2 : wc.cell? ⟨gb230, 2, none⟩ = some (.int .u8 x231002_1) := (blk_cell BK230.out 2).trans rfl; have hcz73_3 : wc.cell? ⟨gb230, 3, none⟩ = some (u231003) := (blk_cell BK230.out 3).trans rfl; have hcz73_4 : wc.cell? ⟨gb230, 4, none⟩ = some (.int .i64 x231004_2) := (blk_cell BK230.out 4).trans rfl; have hcz73_5 : wc.cell? ⟨gb230, 5, none⟩ = some (.bool x231005_2) := (blk_cell BK230.out 5).trans rfl; have hfz73_0 := blk_frozen BK230.out 0; have hfz73_1 := blk_frozen BK230.out 1; have hfz73_2 := blk_frozen BK230.out 2; have hfz73_3 := blk_frozen BK230.out 3; have hfz73_4 := blk_frozen BK230.out 4; have hfz73_5 := blk_frozen BK230.out 5))
                              go_roundg kj44
                              case measure => have := HJ1.out; have := HK2.out; have := HJ44.out; omega
                              case rel => exact ⟨(wrap64 (x6_2 + (wrap64 (1 + t254)))), (x230000_2), (x230001_2), (x230002_2), (x230004_2), (x230005_2), (wrap64 (x231004_2 + t253)), (true), (by first | rfl | (simp; done) | (simp [*]; done)), H', ⟨by have := HJ1.out; have := HK2.out; have := HJ44.out; omega⟩, ⟨by (with_reducible repeat (first | apply Kd.V_alloc | apply Kd.V_drewN | apply Kd.V_drew)); exact Kd.V_mono (Kd.V_far (p := ⟨gb230, 5, none⟩) (Kd.V_far (p := ⟨gb230, 4, none⟩) (Kd.V_mono HO_0.out (fun k_ hk => (⟨hk, hk.2.2.2⟩ : _ ∧ k_ ≠ gb230))) (fun _ hk => hk.2) (.int .i64 (wrap64 (x231004_2 + t253)))) (fun _ hk => hk.2) (.bool true)) (fun _ hk => ⟨hk.1.1, ⟨hk.1.2.1, ⟨hk.1.2.2.1, hk.1.2.2.2⟩⟩⟩)⟩, ⟨by (with_reducible repeat (first | apply Kd.R_alloc | apply Kd.R_drewN | apply Kd.R_drew)); exact Kd.R_mono (Kd.R_far (p := ⟨gb230, 5, none⟩) (Kd.R_far (p := ⟨gb230, 4, none⟩) (Kd.R_types HO_231003.out BK230.out (by decide)) (fun _ hk => hk.2) (.int .i64 (wrap64 (x231004_2 + t253)))) (fun _ hk => hk.2) (.bool true)) (fun _ hk => hk.1)⟩, ⟨by (with_reducible repeat (first | refine blk_drewN ?_ _ | refine blk_drew ?_ | refine blk_alloc ?_ _)); refine blk_far ?_ NB229_230.out _; (with_reducible repeat (first | refine blk_drewN ?_ _ | refine blk_drew ?_ | refine blk_alloc ?_ _)); refine blk_far ?_ NB229_230.out _; (with_reducible repeat (first | refine blk_drewN ?_ _ | refine blk_drew ?_ | refine blk_alloc ?_ _)); exact BK229.out⟩, ⟨by (with_reducible repeat (first | refine blk_drewN ?_ _ | refine blk_drew ?_ | refine blk_alloc ?_ _)); refine blk_put (cs := #[.int .u8 x231000_1, .int .i64 x231001_1, .int .u8 x231002_1, u231003, .int .i64 (wrap64 (x231004_2 + t253)), .bool x231005_2]) ?_ 5 _ rfl; (with_reducible repeat (first | refine blk_drewN ?_ _ | refine blk_drew ?_ | refine blk_alloc ?_ _)); refine blk_put (cs := #[.int .u8 x231000_1, .int .i64 x231001_1, .int .u8 x231002_1, u231003, .int .i64 x231004_2, .bool x231005_2]) ?_ 4 _ rfl; (with_reducible repeat (first | refine blk_drewN ?_ _ | refine blk_drew ?_ | refine blk_alloc ?_ _)); exact BK230.out⟩, ⟨by repeat (first | (with_reducible first | exact HB.out | apply below_alloc | apply pw_below_drewN | apply below_drew1 | refine below_set ?_ GE229.out | refine below_set ?_ GE230.out) | exact HB.out)⟩⟩
                          · rw [if_neg c66] at H
                            exact absurd H (by simp)
                        · rw [if_neg c65] at H
                          exact absurd H (by simp)
                    · replace c54 := Bool.eq_false_iff.mpr c54
                      subst c54
                      have H1 : (some (0, 0, 0, ([] : List Int), 0, false, 0, 230)) = some (r1, r2, r3, r4, r5, r6, r7, r8) := by rw [if_neg (show ¬ (false = true) by decide)] at H; exact H
                      clear H
                      have H := H1
                      clear H1
                      simp only [Option.some.injEq, Prod.mk.injEq] at H
                      obtain ⟨rfl, rfl, rfl, rfl, rfl, rfl, rfl, rfl⟩ := H
                      have q74 : ((ji50) : Int) ≤ ((l0.length : Int) : Int) := of_decide_eq_true (by first | (with_reducible assumption) | assumption)
                      obtain ⟨i074, hi074, _, hsz74, _⟩ := info_parts info5
                      have hroom74 : l0.length ≤ c0 := (Kd.V_reads' HO_0.out).2.1
                      have hC74 : Kd.F (Kd.int .u8) _ _ A0 l0.length l0 := (Kd.V_at (base := w.heap.size) HO_0.out).2.2
                      have q074 : (0 : Int) ≤ ((ji50) : Int) := of_decide_eq_true (by first | (with_reducible assumption) | assumption)
                      have hcut74 := cut_from (P := Tryd.prog) 22 5 .i64 Tryd.underlying22 hi074 1 hsz74 A0 l0.length c0 (ji50) q074 q74
                      have hr74 := Kd.F_cut (m := ((ji50) : Int).toNat) (c := c0) hC74 (by omega) hroom74
                      obtain ⟨A74, hA74⟩ : ∃ A1, A1 = (if c0 = ((ji50) : Int).toNat then A0 else (A0 : Option Addr).map (·.add (((ji50) : Int).toNat * 1))) := ⟨_, rfl⟩
                      obtain ⟨c74, hc74⟩ : ∃ c1, c1 = c0 - ((ji50) : Int).toNat := ⟨_, rfl⟩
                      have hy74 : y248.length = l0.length - ((ji50) : Int).toNat := (by rw [Ny248.out, List.length_drop] <;> omega)
                      rw [show (l0).drop ((ji50) : Int).toNat = y248 from Ny248.out.symm] at hr74
                      replace hr74 : Kd.F (Kd.int .u8) _ _ A74 y248.length y248 := (by rw [hA74]; exact hr74)
                      rw [← hy74, ← hA74, ← hc74] at hcut74
                      have HO252 := Aside0.mk (show Kd.V (Kd.int .u8) 5 _ w.heap.size _ (.slice A74 y248.length c74) y248 from Kd.V_mk (by rw [hy74, hc74]; exact Nat.sub_le_sub_right hroom74 _) hr74)
                      have HC252 := Aside0.mk (show y248.length ≤ c74 from by rw [hy74, hc74]; exact Nat.sub_le_sub_right hroom74 _)
                      clear hr74 hC74 hroom74 hi074 hsz74 hc74
                      have KY74 := Aside0.mk hy74
                      have KA74 := Aside0.mk hA74
                      clear hy74 hA74
                      replace q74 := eq_true q74
                      go_wp2_with (first | ((with_reducible refine gate_callee (f := 22) rfl ?_); refine goesL_ (some 109) rfl rfl Tryd.func22 (by kernel_rfl) rfl #[.slice A74 y248.length c74] rfl (by (try simp only [List.map_toArray, List.map_cons, List.map_nil]); first | done | rfl | (simp only [List.length_drop, List.length_take]; rfl)) ?_; (with_reducible refine (quoinref23_number.calls kj44 _ _ y248 t253 t254 false _ ?side1 ?side2 A53.out).mono ?_); (case side1 => repeat (first | exact (Kd.V_reads' HO252.out).2.2 | (with_reducible refine Kd.C_alloc ?_ _) | (with_reducible refine Kd.C_drewN ?_ _) | (with_reducible refine Kd.C_drew ?_))); (case side2 => exact (Kd.V_reads' HO252.out).2.1); rintro e w' ⟨rfl, ⟨nd, rfl⟩⟩; refine ⟨_, rfl, ?_⟩; (try (rw [drewN_self wc]; generalize hq_ : World.drewN wc _ = wc; have n0_ : Aside0 (Kd.V (Kd.int .u8) 5 wc w.heap.size (fun k_ => (P0_ k_ ∨ w.heap.size ≤ k_) ∧ some k_ ≠ (u231003 : Value).ownBlock ∧ k_ ≠ gb229 ∧ k_ ≠ gb230) (.slice A74 y248.length c74) y248) := ⟨by rw [← hq_]; exact (by (with_reducible repeat (first | apply Kd.V_alloc | apply Kd.V_drewN | apply Kd.V_drew)); exact HO252.out)⟩; have n1_ : Aside0 (Kd.V (Kd.int .u8) 5 wc w.heap.size (fun k_ => (P0_ k_ ∨ w.heap.size ≤ k_) ∧ some k_ ≠ (u231003 : Value).ownBlock ∧ k_ ≠ gb229 ∧ k_ ≠ gb230) (.slice A0 l0.length c0) l0) := ⟨by rw [← hq_]; exact (by (with_reducible repeat (first | apply Kd.V_alloc | apply Kd.V_drewN | apply Kd.V_drew)); exact HO_0.out)⟩; have n2_ : Aside0 (Kd.R (Kd.int .u8) 5 wc w.heap.size (fun k_ => (w.heap.size ≤ k_)) u231003 x231003_1) := ⟨by rw [← hq_]; exact (by (with_reducible repeat (first | apply Kd.R_alloc | apply Kd.R_drewN | apply Kd.R_drew)); exact HO_231003.out)⟩; have n3_ : Aside0 (wc.heap[gb229]? = some (.cells #[.int .u8 x230000_2, .int .i64 x230001_2, .int .u8 x230002_2, .slice none 0 0, .int .i64 x230004_2, .bool x230005_2] 25 (0, 0))) := ⟨by rw [← hq_]; exact (by (with_reducible repeat (first | refine blk_drewN ?_ _ | refine blk_drew ?_ | refine blk_alloc ?_ _)); exact BK229.out)⟩; have n4_ : Aside0 (wc.heap[gb230]? = some (.cells #[.int .u8 x231000_1, .int .i64 x231001_1, .int .u8 x231002_1, u231003, .int .i64 x231004_2, .bool x231005_2] 25 (0, 0))) := ⟨by rw [← hq_]; exact (by (with_reducible repeat (first | refine blk_drewN ?_ _ | refine blk_drew ?_ | refine blk_alloc ?_ _)); exact BK230.out)⟩; have n5_ : Aside0 (Below w.heap.size w wc) := ⟨by rw [← hq_]; exact (by repeat (first | (with_reducible first | exact HB.out | apply below_alloc | apply pw_below_drewN | apply below_drew1 | refine below_set ?_ GE229.out | refine below_set ?_ GE230.out) | exact HB.out))⟩; clear HO252 HO_0 HO_231003 BK229 BK230 HB hq_; have HO252 := n0_; have HO_0 := n1_; have HO_231003 := n2_; have BK229 := n3_; have BK230 := n4_; have HB := n5_; clear n0_ n1_ n2_ n3_ n4_ n5_)); (try have hcy229_0 : wc.cell? ⟨gb229, 0, none⟩ = some (.int .u8 x230000_2) := (blk_cell BK229.out 0).trans rfl); (try have hfy229_0 := blk_frozen BK229.out 0); (try have hcy229_1 : wc.cell? ⟨gb229, 1, none⟩ = some (.int .i64 x230001_2) := (blk_cell BK229.out 1).trans rfl); (try have hfy229_1 := blk_frozen BK229.out 1); (try have hcy229_2 : wc.cell? ⟨gb229, 2, none⟩ = some (.int .u8 x230002_2) := (blk_cell BK229.out 2).trans rfl); (try have hfy229_2 := blk_frozen BK229.out 2); (try have hcy229_3 : wc.cell? ⟨gb229, 3, none⟩ = some (.slice none 0 0) := (blk_cell BK229.out 3).trans rfl); (try have hfy229_3 := blk_frozen BK229.out 3); (try have hcy229_4 : wc.cell? ⟨gb229, 4, none⟩ = some (.int .i64 x230004_2) := (blk_cell BK229.out 4).trans rfl); (try have hfy229_4 := blk_frozen BK229.out 4); (try have hcy229_5 : wc.cell? ⟨gb229, 5, none⟩ = some (.bool x230005_2) := (blk_cell BK229.out 5).trans rfl); (try have hfy229_5 := blk_frozen BK229.out 5); (try have hcy230_0 : wc.cell? ⟨gb230, 0, none⟩ = some (.int .u8 x231000_1) := (blk_cell BK230.out 0).trans rfl); (try have hfy230_0 := blk_frozen BK230.out 0); (try have hcy230_1 : wc.cell? ⟨gb230, 1, none⟩ = some (.int .i64 x231001_1) := (blk_cell BK230.out 1).trans rfl); (try have hfy230_1 := blk_frozen BK230.out 1); (try have hcy230_2 : wc.cell? ⟨gb230, 2, none⟩ = some (.int .u8 x231002_1) := (blk_cell BK230.out 2).trans rfl); (try have hfy230_2 := blk_frozen BK230.out 2); (try have hcy230_3 : wc.cell? ⟨gb230, 3, none⟩ = some (u231003) := (blk_cell BK230.out 3).trans rfl); (try have hfy230_3 := blk_frozen BK230.out 3); (try have hcy230_4 : wc.cell? ⟨gb230, 4, none⟩ = some (.int .i64 x231004_2) := (blk_cell BK230.out 4).trans rfl); (try have hfy230_4 := blk_frozen BK230.out 4); (try have hcy230_5 : wc.cell? ⟨gb230, 5, none⟩ = some (.bool x231005_2) := (blk_cell BK230.out 5).trans rfl); (try have hfy230_5 := blk_frozen BK230.out 5); have hnb75 := NB229_230.out; have hnc75 := NB230_229.out; have hcz76_0 : wc.cell? ⟨gb229, 0, none⟩ = some (.int .u8 x230000_2) := (blk_cell BK229.out 0).trans rfl; have hcz76_1 : wc.cell? ⟨gb229, 1, none⟩ = some (.int .i64 x230001_2) := (blk_cell BK229.out 1).trans rfl; have hcz76_2 : wc.cell? ⟨gb229, 2, none⟩ = some (.int .u8 x230002_2) := (blk_cell BK229.out 2).trans rfl; have hcz76_3 : wc.cell? ⟨gb229, 3, none⟩ = some (.slice none 0 0) := (blk_cell BK229.out 3).trans rfl; have hcz76_4 : wc.cell? ⟨gb229, 4, none⟩ = some (.int .i64 x230004_2) := (blk_cell BK229.out 4).trans rfl; have hcz76_5 : wc.cell? ⟨gb229, 5, none⟩ = some (.bool x230005_2) := (blk_cell BK229.out 5).trans rfl; have hfz76_0 := blk_frozen BK229.out 0; have hfz76_1 := blk_frozen BK229.out 1; have hfz76_2 := blk_frozen BK229.out 2; have hfz76_3 := blk_frozen BK229.out 3; have hfz76_4 := blk_frozen BK229.out 4; have hfz76_5 := blk_frozen BK229.out 5))
                      refine bodyPost_ret (results_ctt rfl _ _ gb229 25 #[.int .u8 0, .int .i64 0, .int .u8 0, .slice none 0 0, .int .i64 0, .bool false] (0, 0) _ rfl (by (with_reducible repeat (first | refine blk_drewN ?_ _ | refine blk_drew ?_ | refine blk_alloc ?_ _)); refine blk_put (cs := #[.int .u8 0, .int .i64 0, .int .u8 0, .slice none 0 0, .int .i64 0, .bool x230005_2]) ?_ 5 _ rfl; (with_reducible repeat (first | refine blk_drewN ?_ _ | refine blk_drew ?_ | refine blk_alloc ?_ _)); refine blk_put (cs := #[.int .u8 0, .int .i64 0, .int .u8 0, .slice none 0 0, .int .i64 x230004_2, .bool x230005_2]) ?_ 4 _ rfl; (with_reducible repeat (first | refine blk_drewN ?_ _ | refine blk_drew ?_ | refine blk_alloc ?_ _)); refine blk_put (cs := #[.int .u8 0, .int .i64 0, .int .u8 0, .slice none 0 0, .int .i64 x230004_2, .bool x230005_2]) ?_ 3 _ rfl; (with_reducible repeat (first | refine blk_drewN ?_ _ | refine blk_drew ?_ | refine blk_alloc ?_ _)); refine blk_put (cs := #[.int .u8 0, .int .i64 0, .int .u8 x230002_2, .slice none 0 0, .int .i64 x230004_2, .bool x230005_2]) ?_ 2 _ rfl; (with_reducible repeat (first | refine blk_drewN ?_ _ | refine blk_drew ?_ | refine blk_alloc ?_ _)); refine blk_put (cs := #[.int .u8 0, .int .i64 x230001_2, .int .u8 x230002_2, .slice none 0 0, .int .i64 x230004_2, .bool x230005_2]) ?_ 1 _ rfl; (with_reducible repeat (first | refine blk_drewN ?_ _ | refine blk_drew ?_ | refine blk_alloc ?_ _)); refine blk_put (cs := #[.int .u8 x230000_2, .int .i64 x230001_2, .int .u8 x230002_2, .slice none 0 0, .int .i64 x230004_2, .bool x230005_2]) ?_ 0 _ rfl; (with_reducible repeat (first | refine blk_drewN ?_ _ | refine blk_drew ?_ | refine blk_alloc ?_ _)); exact BK229.out) Tryd.underlying25 rfl (by kernel_rfl)) rfl ?_
                      exact ⟨_, by first | rfl | (simp [errW_none, errW_some] <;> rfl) | (simp only [← hji50]; first | rfl | (simp [errW_none, errW_some] <;> rfl)) | (simp [*, errW_none, errW_some] <;> rfl), by first | exact Kd.R_nil _ _ _ _ _ | exact Kd.N_nil _ _ _ _ _ | exact Kd.V_nil _ _ _ _ _ | exact Kd.Q_nil _ _ _ _ _ | exact Kd.S_nil _ _ _ _ _, by repeat (first | (with_reducible first | exact HB.out | apply below_alloc | apply pw_below_drewN | apply below_drew1 | refine below_set ?_ GE229.out | refine below_set ?_ GE230.out) | exact HB.out)⟩
                  · rw [if_neg c52] at H
                    exact absurd H (by simp)
                · rw [if_neg c51] at H
                  exact absurd H (by simp)
              · replace c49 := Bool.eq_false_iff.mpr c49
                subst c49
                have H1 : (if x231004_2 < (-999999999) then (some (0, 0, 0, ([] : List Int), 0, false, 0, 230)) else (if x231004_2 > 999999999 then (some (0, 0, 0, ([] : List Int), 0, false, 0, 230)) else (some (x231000_1, x231001_1, x231002_1, x231003_1, x231004_2, x231005_2, x6_2, 0)))) = some (r1, r2, r3, r4, r5, r6, r7, r8) := by rw [if_neg (show ¬ (false = true) by decide)] at H; exact H
                clear H
                have H := H1
                clear H1
                by_cases c77 : x231004_2 < (-999999999)
                · rw [if_pos c77] at H
                  have c77b0 : decide (x231004_2 < (-999999999)) = true := decide_eq_true c77
                  clear c77
                  simp only [Option.some.injEq, Prod.mk.injEq] at H
                  obtain ⟨rfl, rfl, rfl, rfl, rfl, rfl, rfl, rfl⟩ := H
                  have hnb78 := NB230_229.out
                  have hnc78 := NB229_230.out
                  have hcz79_0 : wc.cell? ⟨gb230, 0, none⟩ = some (.int .u8 x231000_1) := (blk_cell BK230.out 0).trans rfl
                  have hcz79_1 : wc.cell? ⟨gb230, 1, none⟩ = some (.int .i64 x231001_1) := (blk_cell BK230.out 1).trans rfl
                  have hcz79_2 : wc.cell? ⟨gb230, 2, none⟩ = some (.int .u8 x231002_1) := (blk_cell BK230.out 2).trans rfl
                  have hcz79_3 : wc.cell? ⟨gb230, 3, none⟩ = some (u231003) := (blk_cell BK230.out 3).trans rfl
                  have hcz79_4 : wc.cell? ⟨gb230, 4, none⟩ = some (.int .i64 x231004_2) := (blk_cell BK230.out 4).trans rfl
                  have hcz79_5 : wc.cell? ⟨gb230, 5, none⟩ = some (.bool x231005_2) := (blk_cell BK230.out 5).trans rfl
                  have hfz79_0 := blk_frozen BK230.out 0
                  have hfz79_1 := blk_frozen BK230.out 1
                  have hfz79_2 := blk_frozen BK230.out 2
                  have hfz79_3 := blk_frozen BK230.out 3
                  have hfz79_4 := blk_frozen BK230.out 4
                  have hfz79_5 := blk_frozen BK230.out 5
                  have hcz80_0 : wc.cell? ⟨gb229, 0, none⟩ = some (.int .u8 x230000_2) := (blk_cell BK229.out 0).trans rfl
                  have hcz80_1 : wc.cell? ⟨gb229, 1, none⟩ = some (.int .i64 x230001_2) := (blk_cell BK229.out 1).trans rfl
                  have hcz80_2 : wc.cell? ⟨gb229, 2, none⟩ = some (.int .u8 x230002_2) := (blk_cell BK229.out 2).trans rfl
                  have hcz80_3 : wc.cell? ⟨gb229, 3, none⟩ = some (.slice none 0 0) := (blk_cell BK229.out 3).trans rfl
                  have hcz80_4 : wc.cell? ⟨gb229, 4, none⟩ = some (.int .i64 x230004_2) := (blk_cell BK229.out 4).trans rfl
                  have hcz80_5 : wc.cell? ⟨gb229, 5, none⟩ = some (.bool x230005_2) := (blk_cell BK229.out 5).trans rfl
                  have hfz80_0 := blk_frozen BK229.out 0
                  have hfz80_1 := blk_frozen BK229.out 1
                  have hfz80_2 := blk_frozen BK229.out 2
                  have hfz80_3 := blk_frozen BK229.out 3
                  have hfz80_4 := blk_frozen BK229.out 4
                  have hfz80_5 := blk_frozen BK229.out 5
                  go_wp2
                  refine bodyPost_ret (results_ctt rfl _ _ gb229 25 #[.int .u8 0, .int .i64 0, .int .u8 0, .slice none 0 0, .int .i64 0, .bool false] (0, 0) _ rfl (by (with_reducible repeat (first | refine blk_drewN ?_ _ | refine blk_drew ?_ | refine blk_alloc ?_ _)); refine blk_put (cs := #[.int .u8 0, .int .i64 0, .int .u8 0, .slice none 0 0, .int .i64 0, .bool x230005_2]) ?_ 5 _ rfl; (with_reducible repeat (first | refine blk_drewN ?_ _ | refine blk_drew ?_ | refine blk_alloc ?_ _)); refine blk_put (cs := #[.int .u8 0, .int .i64 0, .int .u8 0, .slice none 0 0, .int .i64 x230004_2, .bool x230005_2]) ?_ 4 _ rfl; (with_reducible repeat (first | refine blk_drewN ?_ _ | refine blk_drew ?_ | refine blk_alloc ?_ _)); refine blk_put (cs := #[.int .u8 0, .int .i64 0, .int .u8 0, .slice none 0 0, .int .i64 x230004_2, .bool x230005_2]) ?_ 3 _ rfl; (with_reducible repeat (first | refine blk_drewN ?_ _ | refine blk_drew ?_ | refine blk_alloc ?_ _)); refine blk_put (cs := #[.int .u8 0, .int .i64 0, .int .u8 x230002_2, .slice none 0 0, .int .i64 x230004_2, .bool x230005_2]) ?_ 2 _ rfl; (with_reducible repeat (first | refine blk_drewN ?_ _ | refine blk_drew ?_ | refine blk_alloc ?_ _)); refine blk_put (cs := #[.int .u8 0, .int .i64 x230001_2, .int .u8 x230002_2, .slice none 0 0, .int .i64 x230004_2, .bool x230005_2]) ?_ 1 _ rfl; (with_reducible repeat (first | refine blk_drewN ?_ _ | refine blk_drew ?_ | refine blk_alloc ?_ _)); refine blk_put (cs := #[.int .u8 x230000_2, .int .i64 x230001_2, .int .u8 x230002_2, .slice none 0 0, .int .i64 x230004_2, .bool x230005_2]) ?_ 0 _ rfl; (with_reducible repeat (first | refine blk_drewN ?_ _ | refine blk_drew ?_ | refine blk_alloc ?_ _)); exact BK229.out) Tryd.underlying25 rfl (by kernel_rfl)) rfl ?_
                  exact ⟨_, by first | rfl | (simp [errW_none, errW_some] <;> rfl) | (simp [*, errW_none, errW_some] <;> rfl), by first | exact Kd.R_nil _ _ _ _ _ | exact Kd.N_nil _ _ _ _ _ | exact Kd.V_nil _ _ _ _ _ | exact Kd.Q_nil _ _ _ _ _ | exact Kd.S_nil _ _ _ _ _, by repeat (first | (with_reducible first | exact HB.out | apply below_alloc | apply pw_below_drewN | apply below_drew1 | refine below_set ?_ GE229.out | refine below_set ?_ GE230.out) | exact HB.out)⟩
                · rw [if_neg c77] at H
                  have c77b0 : decide (x231004_2 < (-999999999)) = false := decide_eq_false c77
                  clear c77
                  by_cases c81 : x231004_2 > 999999999
                  · rw [if_pos c81] at H
                    have c81b0 : decide (999999999 < x231004_2) = true := decide_eq_true c81
                    clear c81
                    simp only [Option.some.injEq, Prod.mk.injEq] at H
                    obtain ⟨rfl, rfl, rfl, rfl, rfl, rfl, rfl, rfl⟩ := H
                    have hnb82 := NB230_229.out
                    have hnc82 := NB229_230.out
                    have hcz83_0 : wc.cell? ⟨gb230, 0, none⟩ = some (.int .u8 x231000_1) := (blk_cell BK230.out 0).trans rfl
                    have hcz83_1 : wc.cell? ⟨gb230, 1, none⟩ = some (.int .i64 x231001_1) := (blk_cell BK230.out 1).trans rfl
                    have hcz83_2 : wc.cell? ⟨gb230, 2, none⟩ = some (.int .u8 x231002_1) := (blk_cell BK230.out 2).trans rfl
                    have hcz83_3 : wc.cell? ⟨gb230, 3, none⟩ = some (u231003) := (blk_cell BK230.out 3).trans rfl
                    have hcz83_4 : wc.cell? ⟨gb230, 4, none⟩ = some (.int .i64 x231004_2) := (blk_cell BK230.out 4).trans rfl
                    have hcz83_5 : wc.cell? ⟨gb230, 5, none⟩ = some (.bool x231005_2) := (blk_cell BK230.out 5).trans rfl
                    have hfz83_0 := blk_frozen BK230.out 0
                    have hfz83_1 := blk_frozen BK230.out 1
                    have hfz83_2 := blk_frozen BK230.out 2
                    have hfz83_3 := blk_frozen BK230.out 3
                    have hfz83_4 := blk_frozen BK230.out 4
                    have hfz83_5 := blk_frozen BK230.out 5
                    have hcz84_0 : wc.cell? ⟨gb229, 0, none⟩ = some (.int .u8 x230000_2) := (blk_cell BK229.out 0).trans rfl
                    have hcz84_1 : wc.cell? ⟨gb229, 1, none⟩ = some (.int .i64 x230001_2) := (blk_cell BK229.out 1).trans rfl
                    have hcz84_2 : wc.cell? ⟨gb229, 2, none⟩ = some (.int .u8 x230002_2) := (blk_cell BK229.out 2).trans rfl
                    have hcz84_3 : wc.cell? ⟨gb229, 3, none⟩ = some (.slice none 0 0) := (blk_cell BK229.out 3).trans rfl
                    have hcz84_4 : wc.cell? ⟨gb229, 4, none⟩ = some (.int .i64 x230004_2) := (blk_cell BK229.out 4).trans rfl
                    have hcz84_5 : wc.cell? ⟨gb229, 5, none⟩ = some (.bool x230005_2) := (blk_cell BK229.out 5).trans rfl
                    have hfz84_0 := blk_frozen BK229.out 0
                    have hfz84_1 := blk_frozen BK229.out 1
                    have hfz84_2 := blk_frozen BK229.out 2
                    have hfz84_3 := blk_frozen BK229.out 3
                    have hfz84_4 := blk_frozen BK229.out 4
                    have hfz84_5 := blk_frozen BK229.out 5
                    go_wp2
                    refine bodyPost_ret (results_ctt rfl _ _ gb229 25 #[.int .u8 0, .int .i64 0, .int .u8 0, .slice none 0 0, .int .i64 0, .bool false] (0, 0) _ rfl (by (with_reducible repeat (first | refine blk_drewN ?_ _ | refine blk_drew ?_ | refine blk_alloc ?_ _)); refine blk_put (cs := #[.int .u8 0, .int .i64 0, .int .u8 0, .slice none 0 0, .int .i64 0, .bool x230005_2]) ?_ 5 _ rfl; (with_reducible repeat (first | refine blk_drewN ?_ _ | refine blk_drew ?_ | refine blk_alloc ?_ _)); refine blk_put (cs := #[.int .u8 0, .int .i64 0, .int .u8 0, .slice none 0 0, .int .i64 x230004_2, .bool x230005_2]) ?_ 4 _ rfl; (with_reducible repeat (first | refine blk_drewN ?_ _ | refine blk_drew ?_ | refine blk_alloc ?_ _)); refine blk_put (cs := #[.int .u8 0, .int .i64 0, .int .u8 0, .slice none 0 0, .int .i64 x230004_2, .bool x230005_2]) ?_ 3 _ rfl; (with_reducible repeat (first | refine blk_drewN ?_ _ | refine blk_drew ?_ | refine blk_alloc ?_ _)); refine blk_put (cs := #[.int .u8 0, .int .i64 0, .int .u8 x230002_2, .slice none 0 0, .int .i64 x230004_2, .bool x230005_2]) ?_ 2 _ rfl; (with_reducible repeat (first | refine blk_drewN ?_ _ | refine blk_drew ?_ | refine blk_alloc ?_ _)); refine blk_put (cs := #[.int .u8 0, .int .i64 x230001_2, .int .u8 x230002_2, .slice none 0 0, .int .i64 x230004_2, .bool x230005_2]) ?_ 1 _ rfl; (with_reducible repeat (first | refine blk_drewN ?_ _ | refine blk_drew ?_ | refine blk_alloc ?_ _)); refine blk_put (cs := #[.int .u8 x230000_2, .int .i64 x230001_2, .int .u8 x230002_2, .slice none 0 0, .int .i64 x230004_2, .bool x230005_2]) ?_ 0 _ rfl; (with_reducible repeat (first | refine blk_drewN ?_ _ | refine blk_drew ?_ | refine blk_alloc ?_ _)); exact BK229.out) Tryd.underlying25 rfl (by kernel_rfl)) rfl ?_
                    exact ⟨_, by first | rfl | (simp [errW_none, errW_some] <;> rfl) | (simp [*, errW_none, errW_some] <;> rfl), by first | exact Kd.R_nil _ _ _ _ _ | exact Kd.N_nil _ _ _ _ _ | exact Kd.V_nil _ _ _ _ _ | exact Kd.Q_nil _ _ _ _ _ | exact Kd.S_nil _ _ _ _ _, by repeat (first | (with_reducible first | exact HB.out | apply below_alloc | apply pw_below_drewN | apply below_drew1 | refine below_set ?_ GE229.out | refine below_set ?_ GE230.out) | exact HB.out)⟩
                  · rw [if_neg c81] at H
                    have c81b0 : decide (999999999 < x231004_2) = false := decide_eq_false c81
                    clear c81
                    simp only [Option.some.injEq, Prod.mk.injEq] at H
                    obtain ⟨rfl, rfl, rfl, rfl, rfl, rfl, rfl, rfl⟩ := H
                    have hnb85 := NB230_229.out
                    have hnc85 := NB229_230.out
                    have hcz86_0 : wc.cell? ⟨gb230, 0, none⟩ = some (.int .u8 x231000_1) := (blk_cell BK230.out 0).trans rfl
                    have hcz86_1 : wc.cell? ⟨gb230, 1, none⟩ = some (.int .i64 x231001_1) := (blk_cell BK230.out 1).trans rfl
                    have hcz86_2 : wc.cell? ⟨gb230, 2, none⟩ = some (.int .u8 x231002_1) := (blk_cell BK230.out 2).trans rfl
                    have hcz86_3 : wc.cell? ⟨gb230, 3, none⟩ = some (u231003) := (blk_cell BK230.out 3).trans rfl
                    have hcz86_4 : wc.cell? ⟨gb230, 4, none⟩ = some (.int .i64 x231004_2) := (blk_cell BK230.out 4).trans rfl
                    have hcz86_5 : wc.cell? ⟨gb230, 5, none⟩ = some (.bool x231005_2) := (blk_cell BK230.out 5).trans rfl
                    have hfz86_0 := blk_frozen BK230.out 0
                    have hfz86_1 := blk_frozen BK230.out 1
                    have hfz86_2 := blk_frozen BK230.out 2
                    have hfz86_3 := blk_frozen BK230.out 3
                    have hfz86_4 := blk_frozen BK230.out 4
                    have hfz86_5 := blk_frozen BK230.out 5
                    have hcz87_0 : wc.cell? ⟨gb229, 0, none⟩ = some (.int .u8 x230000_2) := (blk_cell BK229.out 0).trans rfl
                    have hcz87_1 : wc.cell? ⟨gb229, 1, none⟩ = some (.int .i64 x230001_2) := (blk_cell BK229.out 1).trans rfl
                    have hcz87_2 : wc.cell? ⟨gb229, 2, none⟩ = some (.int .u8 x230002_2) := (blk_cell BK229.out 2).trans rfl
                    have hcz87_3 : wc.cell? ⟨gb229, 3, none⟩ = some (.slice none 0 0) := (blk_cell BK229.out 3).trans rfl
                    have hcz87_4 : wc.cell? ⟨gb229, 4, none⟩ = some (.int .i64 x230004_2) := (blk_cell BK229.out 4).trans rfl
                    have hcz87_5 : wc.cell? ⟨gb229, 5, none⟩ = some (.bool x230005_2) := (blk_cell BK229.out 5).trans rfl
                    have hfz87_0 := blk_frozen BK229.out 0
                    have hfz87_1 := blk_frozen BK229.out 1
                    have hfz87_2 := blk_frozen BK229.out 2
                    have hfz87_3 := blk_frozen BK229.out 3
                    have hfz87_4 := blk_frozen BK229.out 4
                    have hfz87_5 := blk_frozen BK229.out 5
                    obtain ⟨Ao88, co88, eo88⟩ := Kd.R_slice HO_231003.out
                    subst eo88
                    go_wp2
                    refine bodyPost_ret (results_ctt rfl _ _ gb229 25 #[.int .u8 x231000_1, .int .i64 x231001_1, .int .u8 x231002_1, .slice Ao88 x231003_1.length co88, .int .i64 x231004_2, .bool x231005_2] (0, 0) _ rfl (by (with_reducible repeat (first | refine blk_drewN ?_ _ | refine blk_drew ?_ | refine blk_alloc ?_ _)); refine blk_put (cs := #[.int .u8 x231000_1, .int .i64 x231001_1, .int .u8 x231002_1, .slice Ao88 x231003_1.length co88, .int .i64 x231004_2, .bool x230005_2]) ?_ 5 _ rfl; (with_reducible repeat (first | refine blk_drewN ?_ _ | refine blk_drew ?_ | refine blk_alloc ?_ _)); refine blk_put (cs := #[.int .u8 x231000_1, .int .i64 x231001_1, .int .u8 x231002_1, .slice Ao88 x231003_1.length co88, .int .i64 x230004_2, .bool x230005_2]) ?_ 4 _ rfl; (with_reducible repeat (first | refine blk_drewN ?_ _ | refine blk_drew ?_ | refine blk_alloc ?_ _)); refine blk_put (cs := #[.int .u8 x231000_1, .int .i64 x231001_1, .int .u8 x231002_1, .slice none 0 0, .int .i64 x230004_2, .bool x230005_2]) ?_ 3 _ rfl; (with_reducible repeat (first | refine blk_drewN ?_ _ | refine blk_drew ?_ | refine blk_alloc ?_ _)); refine blk_put (cs := #[.int .u8 x231000_1, .int .i64 x231001_1, .int .u8 x230002_2, .slice none 0 0, .int .i64 x230004_2, .bool x230005_2]) ?_ 2 _ rfl; (with_reducible repeat (first | refine blk_drewN ?_ _ | refine blk_drew ?_ | refine blk_alloc ?_ _)); refine blk_put (cs := #[.int .u8 x231000_1, .int .i64 x230001_2, .int .u8 x230002_2, .slice none 0 0, .int .i64 x230004_2, .bool x230005_2]) ?_ 1 _ rfl; (with_reducible repeat (first | refine blk_drewN ?_ _ | refine blk_drew ?_ | refine blk_alloc ?_ _)); refine blk_put (cs := #[.int .u8 x230000_2, .int .i64 x230001_2, .int .u8 x230002_2, .slice none 0 0, .int .i64 x230004_2, .bool x230005_2]) ?_ 0 _ rfl; (with_reducible repeat (first | refine blk_drewN ?_ _ | refine blk_drew ?_ | refine blk_alloc ?_ _)); exact BK229.out) Tryd.underlying25 rfl (by kernel_rfl)) rfl ?_
                    exact ⟨_, by first | rfl | (simp [errW_none, errW_some] <;> rfl) | (simp [*, errW_none, errW_some] <;> rfl), by (with_reducible repeat (first | apply Kd.R_alloc | apply Kd.R_drewN | apply Kd.R_drew)); exact Kd.R_mono (Kd.R_far (p := ⟨gb229, 5, none⟩) (Kd.R_far (p := ⟨gb229, 4, none⟩) (Kd.R_far (p := ⟨gb229, 3, none⟩) (Kd.R_far (p := ⟨gb229, 2, none⟩) (Kd.R_far (p := ⟨gb229, 1, none⟩) (Kd.R_far (p := ⟨gb229, 0, none⟩) (Kd.R_types HO_231003.out BK229.out (by decide)) (fun _ hk => hk.2) (.int .u8 x231000_1)) (fun _ hk => hk.2) (.int .i64 x231001_1)) (fun _ hk => hk.2) (.int .u8 x231002_1)) (fun _ hk => hk.2) (.slice Ao88 x231003_1.length co88)) (fun _ hk => hk.2) (.int .i64 x231004_2)) (fun _ hk => hk.2) (.bool x231005_2)) (fun _ hk => hk.1), by repeat (first | (with_reducible first | exact HB.out | apply below_alloc | apply pw_below_drewN | apply below_drew1 | refine below_set ?_ GE229.out | refine below_set ?_ GE230.out) | exact HB.out)⟩

end Go.Proofs.YtdhdngoeaneanaaDoor.X
end
