/-
  Texts of one proof in one file (wip/some.py): X49, X53, X54.
  Conditions: none.
-/
import Derived.Test.YtdhdngoeaneanaaDoorX0
section
-- Written by wip/xprint.py over the kit's print.py: the Lean function of each Go function, and the proof that the Go text comes to it.
namespace Go.Proofs.YtdhdngoeaneanaaDoor.X
open Go.RowKit Go.Proofs.YtdhdngoeaneanaaDoorW.PrintWords Go.Proofs.YtdhdngoeaneanaaDoorW.PrintLast Go.Proofs.YtdhdngoeaneanaaDoorW.PrintMore
attribute [local go_sem] max2_int min2_int max_two min_two max_three min_three max_four min_four   -- for this text's walks alone
set_option linter.unusedVariables false
set_option linter.unusedSimpArgs false

/-! ### quoinref23_whole: function 24 -/
mutual
def quoinref23_whole.l0 : Nat → List Int → Int → Int → Option (Bool)
  | 0, _, _, _ => none
  | k + 1, x0, x1, x5 => if x5 < (x0.length : Int) then (if 0 ≤ x5 then (if (rd x0 x5) = x1 then (quoinref23_whole.j1 k x0 x1 x5 true) else (if (rd x0 x5) = 92 then (quoinref23_whole.j1 k x0 x1 x5 ((wrap64 (x5 + 1)) == (x0.length : Int))) else (quoinref23_whole.j1 k x0 x1 x5 false))) else (none)) else (some true)
def quoinref23_whole.j1 : Nat → List Int → Int → Int → Bool → Option (Bool)
  | 0, _, _, _, _ => none
  | k + 1, x0, x1, x5, x29 => if x29 = true then (some false) else (if 0 ≤ x5 then (if x5 < (x0.length : Int) then (if (rd x0 x5) = 92 then (quoinref23_whole.l0 k x0 x1 (wrap64 ((wrap64 (x5 + 1)) + 1))) else (quoinref23_whole.l0 k x0 x1 (wrap64 (x5 + 1)))) else (none)) else (none))
end
def quoinref23_whole.f (k : Nat) (l0 : List Int) (a1 : Int) : Option (Bool) := quoinref23_whole.l0 k l0 a1 0
theorem quoinref23_whole.mono_l : ∀ k, (∀ y0 y1 y2, LeO (quoinref23_whole.l0 k y0 y1 y2) (quoinref23_whole.l0 (k + 1) y0 y1 y2)) ∧ (∀ y0 y1 y2 y3, LeO (quoinref23_whole.j1 k y0 y1 y2 y3) (quoinref23_whole.j1 (k + 1) y0 y1 y2 y3))
  | 0 => ⟨fun _ _ _ r h => by simp [quoinref23_whole.l0] at h, fun _ _ _ _ r h => by simp [quoinref23_whole.j1] at h⟩
  | k + 1 => by
    obtain ⟨ih0, ih1⟩ := quoinref23_whole.mono_l k
    refine ⟨?_, ?_⟩
    · intro y0 y1 y2
      unfold quoinref23_whole.l0
      repeat' first
      | (with_reducible exact ih0 _ _ _)
      | (with_reducible exact ih1 _ _ _ _)
      | (with_reducible exact LeO.refl _)
      | (with_reducible exact LeO.none _)
      | (with_reducible refine LeO.ite ?_ ?_)
      | (with_reducible refine LeO.bind ?_ (fun _ => ?_))
      | exact ih0 _ _ _
      | exact ih1 _ _ _ _
      | exact LeO.none _
      | refine LeO.ite ?_ ?_
      | refine LeO.bind ?_ (fun _ => ?_)
    · intro y0 y1 y2 y3
      unfold quoinref23_whole.j1
      repeat' first
      | (with_reducible exact ih0 _ _ _)
      | (with_reducible exact ih1 _ _ _ _)
      | (with_reducible exact LeO.refl _)
      | (with_reducible exact LeO.none _)
      | (with_reducible refine LeO.ite ?_ ?_)
      | (with_reducible refine LeO.bind ?_ (fun _ => ?_))
      | exact ih0 _ _ _
      | exact ih1 _ _ _ _
      | exact LeO.none _
      | refine LeO.ite ?_ ?_
      | refine LeO.bind ?_ (fun _ => ?_)
theorem quoinref23_whole.mono : ∀ a0 a1 k, LeO (quoinref23_whole.f k a0 a1) (quoinref23_whole.f (k + 1) a0 a1) := by
  intro a0 a1 k
  obtain ⟨ih0, ih1⟩ := quoinref23_whole.mono_l k
  unfold quoinref23_whole.f
  repeat' first
      | (with_reducible exact ih0 _ _ _)
      | (with_reducible exact ih1 _ _ _ _)
      | (with_reducible exact LeO.refl _)
      | (with_reducible exact LeO.none _)
      | (with_reducible refine LeO.ite ?_ ?_)
      | (with_reducible refine LeO.bind ?_ (fun _ => ?_))
      | exact ih0 _ _ _
      | exact ih1 _ _ _ _
      | exact LeO.none _
      | refine LeO.ite ?_ ?_
      | refine LeO.bind ?_ (fun _ => ?_)
set_option maxHeartbeats 8000000 in
set_option maxRecDepth 100000 in
theorem quoinref23_whole.calls (k : Nat) (A0 : Option Addr) (c0 : Nat) (l0 : List Int) (a1 : Int) (r : Bool) (w : World) (hr0 : Kd.C (Kd.int .u8) w A0 l0.length l0) (hc0 : l0.length ≤ c0) (h : quoinref23_whole.f k l0 a1 = some r) :
    Calls Tryd.prog 24 #[.slice A0 l0.length c0, .int .u8 a1] w fun e w' => e = .returned (.bool r) ∧ Drawn0 w w' := by
  have HR0 := Aside0.mk hr0
  have HC0 := Aside0.mk hc0
  clear hr0 hc0
  have H : (quoinref23_whole.l0 k l0 a1 0) = some r := h
  clear h
  have H' := Aside0.mk H
  clear H
  go_enter Tryd.func24, Tryd.ntmps24
  go_wp2
  go_loopg [5] k (fun kq v5 w' => ∃ (x5_1 : Int), v5 = .int .i64 x5_1 ∧ Aside0 (quoinref23_whole.l0 kq l0 a1 x5_1 = some r) ∧ Aside0 (kq ≤ k) ∧ Drawn0 w w')
  case atStart => exact ⟨(0), (by first | rfl | (simp; done) | (simp [*]; done)), H', ⟨Nat.le_refl _⟩, by repeat (first | exact Drawn0.refl _ | apply Drawn0.step)⟩
  case round =>
    clear H'
    try clear c2
    try clear p2
    obtain ⟨x5_1, rfl, HA, HK1, ⟨m1, rfl⟩⟩ := hrel
    cases gk with
    | zero => exact absurd HA.out (by simp [quoinref23_whole.l0])
    | succ k1 =>
      have H := HA.out
      clear HA
      simp only [quoinref23_whole.l0] at H
      by_cases c3 : x5_1 < (l0.length : Int)
      · rw [if_pos c3] at H
        have c3b0 : decide (x5_1 < (l0.length : Int)) = true := decide_eq_true c3
        clear c3
        have HC4 := Aside0.mk H
        clear H
        go_upto_region 3 with (fail)
        go_cut [29] (fun v29 wc => ∃ (kq : Nat) (x29_3 : Bool), v29 = .bool x29_3 ∧ Aside0 (quoinref23_whole.j1 kq l0 a1 x5_1 x29_3 = some r) ∧ Aside0 (kq ≤ k1) ∧ Drawn0 w wc)
        case first =>
          have H := HC4.out
          clear HC4
          by_cases c5 : 0 ≤ x5_1
          · rw [if_pos c5] at H
            have c5b0 : decide (0 ≤ x5_1) = true := decide_eq_true c5
            clear c5
            (first | rw [c5b0] | (simp only [i64_w, i32_w]; rw [c5b0]) | skip)
            by_cases c6 : (rd l0 x5_1) = a1
            · rw [if_pos c6] at H
              have c6b0 : ((rd l0 x5_1) == a1) = true := beq_iff_eq.mpr c6
              have c6b1 : ((rd l0 x5_1) != a1) = false := bne_eq_false_iff_eq.mpr c6
              clear c6
              have H' := Aside0.mk H
              clear H
              have p226 : 0 ≤ (x5_1 : Int) := of_decide_eq_true (by first | (with_reducible assumption) | assumption)
              have q226 : x5_1 < (l0.length : Int) := of_decide_eq_true (by first | (with_reducible assumption) | assumption)
              obtain ⟨ad226, e226, hx226_0⟩ := Kd.at_int HR0.out x5_1 p226 q226
              cases e226
              replace p226 := eq_true p226
              replace q226 := eq_true q226
              go_wp2
              go_meet
              case rel => exact ⟨_, (true), (by first | rfl | (simp; done) | (simp [*]; done)), H', ⟨by have := HK1.out; first | omega | exact Nat.le_refl _⟩, by repeat (first | exact Drawn0.refl _ | apply Drawn0.step)⟩
            · rw [if_neg c6] at H
              have c6b0 : ((rd l0 x5_1) == a1) = false := beq_eq_false_iff_ne.mpr c6
              have c6b1 : ((rd l0 x5_1) != a1) = true := bne_iff_ne.mpr c6
              by_cases c7 : (rd l0 x5_1) = 92
              · rw [if_pos c7] at H
                have c7b0 : ((rd l0 x5_1) == 92) = true := beq_iff_eq.mpr c7
                have c7b1 : ((rd l0 x5_1) != 92) = false := bne_eq_false_iff_eq.mpr c7
                clear c7
                have H' := Aside0.mk H
                clear H
                have p226 : 0 ≤ (x5_1 : Int) := of_decide_eq_true (by first | (with_reducible assumption) | assumption)
                have q226 : x5_1 < (l0.length : Int) := of_decide_eq_true (by first | (with_reducible assumption) | assumption)
                obtain ⟨ad226, e226, hx226_0⟩ := Kd.at_int HR0.out x5_1 p226 q226
                cases e226
                replace p226 := eq_true p226
                replace q226 := eq_true q226
                have p227 : 0 ≤ (x5_1 : Int) := of_decide_eq_true (by first | (with_reducible assumption) | assumption)
                have q227 : x5_1 < (l0.length : Int) := of_decide_eq_true (by first | (with_reducible assumption) | assumption)
                obtain ⟨ad227, e227, hx227_0⟩ := Kd.at_int HR0.out x5_1 p227 q227
                obtain rfl : ad226 = ad227 := (by injection e227)
                replace p227 := eq_true p227
                replace q227 := eq_true q227
                go_wp2
                go_meet
                case rel => exact ⟨_, (((wrap64 (x5_1 + 1)) == (l0.length : Int))), (by first | rfl | (simp; done) | (simp [*]; done)), H', ⟨by have := HK1.out; first | omega | exact Nat.le_refl _⟩, by repeat (first | exact Drawn0.refl _ | apply Drawn0.step)⟩
              · rw [if_neg c7] at H
                have c7b0 : ((rd l0 x5_1) == 92) = false := beq_eq_false_iff_ne.mpr c7
                have c7b1 : ((rd l0 x5_1) != 92) = true := bne_iff_ne.mpr c7
                have H' := Aside0.mk H
                clear H
                have p226 : 0 ≤ (x5_1 : Int) := of_decide_eq_true (by first | (with_reducible assumption) | assumption)
                have q226 : x5_1 < (l0.length : Int) := of_decide_eq_true (by first | (with_reducible assumption) | assumption)
                obtain ⟨ad226, e226, hx226_0⟩ := Kd.at_int HR0.out x5_1 p226 q226
                cases e226
                replace p226 := eq_true p226
                replace q226 := eq_true q226
                have p227 : 0 ≤ (x5_1 : Int) := of_decide_eq_true (by first | (with_reducible assumption) | assumption)
                have q227 : x5_1 < (l0.length : Int) := of_decide_eq_true (by first | (with_reducible assumption) | assumption)
                obtain ⟨ad227, e227, hx227_0⟩ := Kd.at_int HR0.out x5_1 p227 q227
                obtain rfl : ad226 = ad227 := (by injection e227)
                replace p227 := eq_true p227
                replace q227 := eq_true q227
                go_wp2
                go_meet
                case rel => exact ⟨_, (false), (by first | rfl | (simp; done) | (simp [*]; done)), H', ⟨by have := HK1.out; first | omega | exact Nat.le_refl _⟩, by repeat (first | exact Drawn0.refl _ | apply Drawn0.step)⟩
          · rw [if_neg c5] at H
            exact absurd H (by simp)
        case rest =>
          clear HC4
          try clear c2
          try clear p2
          try clear q2
          try clear hx2
          try clear c3
          try clear c3b0
          try clear c5
          try clear c5b0
          try clear c6
          try clear c6b0
          try clear c6b1
          try clear p6
          try clear c7
          try clear c7b0
          try clear c7b1
          try clear hx226_0
          try clear hx227_0
          try clear p2
          try clear p226
          try clear p227
          try clear q226
          try clear q227
          obtain ⟨kq, x29_3, rfl, HA, HJ3, ⟨mc3, rfl⟩⟩ := hcut
          cases kq with
          | zero => exact absurd HA.out (by simp [quoinref23_whole.j1])
          | succ kj3 =>
            have H := HA.out
            clear HA
            simp only [quoinref23_whole.j1] at H
            by_cases c8 : x29_3 = true
            · subst c8
              have H1 : (some false) = some r := by rw [if_pos rfl] at H; exact H
              clear H
              have H := H1
              clear H1
              obtain rfl := Option.some.inj H
              go_wp2
              go_ret
              exact ⟨by first | rfl | (simp; done) | (simp [*]; done), by repeat (first | exact Drawn0.refl _ | apply Drawn0.step)⟩
            · replace c8 := Bool.eq_false_iff.mpr c8
              subst c8
              have H1 : (if 0 ≤ x5_1 then (if x5_1 < (l0.length : Int) then (if (rd l0 x5_1) = 92 then (quoinref23_whole.l0 kj3 l0 a1 (wrap64 ((wrap64 (x5_1 + 1)) + 1))) else (quoinref23_whole.l0 kj3 l0 a1 (wrap64 (x5_1 + 1)))) else (none)) else (none)) = some r := by rw [if_neg (show ¬ (false = true) by decide)] at H; exact H
              clear H
              have H := H1
              clear H1
              by_cases c9 : 0 ≤ x5_1
              · rw [if_pos c9] at H
                have c9b0 : decide (0 ≤ x5_1) = true := decide_eq_true c9
                clear c9
                by_cases c10 : x5_1 < (l0.length : Int)
                · rw [if_pos c10] at H
                  have c10b0 : decide (x5_1 < (l0.length : Int)) = true := decide_eq_true c10
                  clear c10
                  by_cases c11 : (rd l0 x5_1) = 92
                  · rw [if_pos c11] at H
                    have c11b0 : ((rd l0 x5_1) == 92) = true := beq_iff_eq.mpr c11
                    have c11b1 : ((rd l0 x5_1) != 92) = false := bne_eq_false_iff_eq.mpr c11
                    clear c11
                    have H' := Aside0.mk H
                    clear H
                    have p228 : 0 ≤ (x5_1 : Int) := of_decide_eq_true (by first | (with_reducible assumption) | assumption)
                    have q228 : x5_1 < (l0.length : Int) := of_decide_eq_true (by first | (with_reducible assumption) | assumption)
                    obtain ⟨ad228, e228, hx228_0⟩ := Kd.at_int HR0.out x5_1 p228 q228
                    cases e228
                    replace p228 := eq_true p228
                    replace q228 := eq_true q228
                    go_wp2
                    go_roundg kj3
                    case measure => have := HK1.out; have := HJ3.out; omega
                    case rel => exact ⟨(wrap64 ((wrap64 (x5_1 + 1)) + 1)), (by first | rfl | (simp; done) | (simp [*]; done)), H', ⟨by have := HK1.out; have := HJ3.out; omega⟩, by repeat (first | exact Drawn0.refl _ | apply Drawn0.step)⟩
                  · rw [if_neg c11] at H
                    have c11b0 : ((rd l0 x5_1) == 92) = false := beq_eq_false_iff_ne.mpr c11
                    have c11b1 : ((rd l0 x5_1) != 92) = true := bne_iff_ne.mpr c11
                    have H' := Aside0.mk H
                    clear H
                    have p228 : 0 ≤ (x5_1 : Int) := of_decide_eq_true (by first | (with_reducible assumption) | assumption)
                    have q228 : x5_1 < (l0.length : Int) := of_decide_eq_true (by first | (with_reducible assumption) | assumption)
                    obtain ⟨ad228, e228, hx228_0⟩ := Kd.at_int HR0.out x5_1 p228 q228
                    cases e228
                    replace p228 := eq_true p228
                    replace q228 := eq_true q228
                    go_wp2
                    go_roundg kj3
                    case measure => have := HK1.out; have := HJ3.out; omega
                    case rel => exact ⟨(wrap64 (x5_1 + 1)), (by first | rfl | (simp; done) | (simp [*]; done)), H', ⟨by have := HK1.out; have := HJ3.out; omega⟩, by repeat (first | exact Drawn0.refl _ | apply Drawn0.step)⟩
                · rw [if_neg c10] at H
                  exact absurd H (by simp)
              · rw [if_neg c9] at H
                exact absurd H (by simp)
      · rw [if_neg c3] at H
        have c3b0 : decide (x5_1 < (l0.length : Int)) = false := decide_eq_false c3
        clear c3
        obtain rfl := Option.some.inj H
        go_wp2
        go_ret
        exact ⟨by first | rfl | (simp; done) | (simp [*]; done), by repeat (first | exact Drawn0.refl _ | apply Drawn0.step)⟩

end Go.Proofs.YtdhdngoeaneanaaDoor.X
end
section
-- Written by wip/xprint.py over the kit's print.py: the Lean function of each Go function, and the proof that the Go text comes to it.
namespace Go.Proofs.YtdhdngoeaneanaaDoor.X
open Go.RowKit Go.Proofs.YtdhdngoeaneanaaDoorW.PrintWords Go.Proofs.YtdhdngoeaneanaaDoorW.PrintLast Go.Proofs.YtdhdngoeaneanaaDoorW.PrintMore
attribute [local go_sem] max2_int min2_int max_two min_two max_three min_three max_four min_four   -- for this text's walks alone
set_option linter.unusedVariables false
set_option linter.unusedSimpArgs false

/-! ### quoinref23_digits: function 27 -/
def quoinref23_digits.f : Nat → Int → Option (List Int)
  | 0, _ => none
  | k + 1, a0 => if a0 < 10 then (some (([(wrap64 (48 + a0)) % 256] : List Int))) else ((quoinref23_digits.f k (wrap64 (Int.tdiv a0 10))).bind fun t263 => (if t263.length < 140737488355328 then (some (t263 ++ [(wrap64 (48 + (Int.tmod a0 10))) % 256])) else (none)))
theorem quoinref23_digits.mono_l : ∀ k, (∀ y0, LeO (quoinref23_digits.f k y0) (quoinref23_digits.f (k + 1) y0))
  | 0 => fun _ r h => by simp [quoinref23_digits.f] at h
  | k + 1 => by
    have ih0 := quoinref23_digits.mono_l k
    · intro y0
      unfold quoinref23_digits.f
      repeat' first
      | (with_reducible exact ih0 _)
      | (with_reducible exact LeO.refl _)
      | (with_reducible exact LeO.none _)
      | (with_reducible refine LeO.ite ?_ ?_)
      | (with_reducible refine LeO.bind ?_ (fun _ => ?_))
      | exact ih0 _
      | exact LeO.none _
      | refine LeO.ite ?_ ?_
      | refine LeO.bind ?_ (fun _ => ?_)
theorem quoinref23_digits.mono : ∀ a0 k, LeO (quoinref23_digits.f k a0) (quoinref23_digits.f (k + 1) a0) := by
  intro a0 k
  have ih0 := quoinref23_digits.mono_l k
  exact ih0 a0
set_option maxHeartbeats 8000000 in
set_option maxRecDepth 100000 in
theorem quoinref23_digits.calls (k : Nat) : ∀ (a0 : Int) (r : List Int) (w : World) (h : quoinref23_digits.f k a0 = some r),
    Calls Tryd.prog 27 #[.int .i64 a0] w fun e w' => ∃ v0_ : Value, e = .returned (v0_) ∧ Kd.R (Kd.int .u8) 5 w' w.heap.size (fun _ => True) v0_ r ∧ Below w.heap.size w w' := by
  induction k using Nat.strongRecOn with
  | _ k ih =>
  intro a0 r w h
  cases k with
  | zero => exact absurd h (by simp [quoinref23_digits.f])
  | succ k =>
  simp only [quoinref23_digits.f] at h
  have HB := Aside0.mk (Below.refl w.heap.size w)
  have H : (if a0 < 10 then (some (([(wrap64 (48 + a0)) % 256] : List Int))) else ((quoinref23_digits.f k (wrap64 (Int.tdiv a0 10))).bind fun t263 => (if t263.length < 140737488355328 then (some (t263 ++ [(wrap64 (48 + (Int.tmod a0 10))) % 256])) else (none)))) = some r := h
  clear h
  by_cases c2 : a0 < 10
  · rw [if_pos c2] at H
    have c2b0 : decide (a0 < 10) = true := decide_eq_true c2
    clear c2
    obtain ⟨y260, hy260⟩ : ∃ y_ : List Int, y_ = (([(wrap64 (48 + a0)) % 256] : List Int)) := ⟨_, rfl⟩
    replace H : (some y260) = some r := by first | (rw [hy260]; with_reducible exact H) | (have H2_ := (Option.bind_some _ _).symm.trans H; rw [hy260]; with_reducible exact H2_) | (have H2_ := (Option.bind_some _ _).symm.trans H; with_reducible exact H2_) | with_reducible exact H | (rw [hy260]; exact H) | exact H
    have Ny260 := Aside0.mk hy260
    clear hy260
    obtain rfl := Option.some.inj H
    go_enter Tryd.func27, Tryd.ntmps27
    go_wp2_with (first | ((with_reducible refine gate_dst (N := 9) rfl ?_); refine Kd.R_lit (Kd.int .u8) _ 5 ?hg (N := 9) ?hd (xs := ([(wrap64 (48 + a0)) % 256] : List Int)) (inner := [.int .u8 ((wrap64 (48 + a0)) % 256)]) (ok := fun _ => True) (okp := fun _ => True) ?hr ?hp (fun _ hk => hk) trivial (Below.refl _ _) (Nat.le_refl _) (by simp) ?_; (case hd => rfl); (case hg => rfl); (case hr => first | (go_simp; done) | (go_simp; rfl)); (case hp => exact (Reps.one (show Kd.M (Kd.int .u8) _ _ _ ((wrap64 (48 + a0)) % 256) [.int .u8 ((wrap64 (48 + a0)) % 256)] from rfl) (Reps.none _ _))); intro v261 w3 ho4 hb hg_ hnew_; clear hg_ hnew_; (first | rw [← Ny260.out] at ho4 | (simp only [Int.reduceToNat] at ho4; rw [← Ny260.out] at ho4)); have n0_ := Aside0.mk (Kd.R_lower ho4 (below_size (by repeat (first | (with_reducible first | exact HB.out | apply below_alloc | apply pw_below_drewN | apply below_drew1) | exact HB.out)))); have n1_ := Aside0.mk (below_step (by repeat (first | (with_reducible first | exact HB.out | apply below_alloc | apply pw_below_drewN | apply below_drew1) | exact HB.out)) hb); clear HB; have HO262 := n0_; have HB := n1_; clear n0_ n1_; clear hb ho4))
    go_ret
    exact ⟨_, by first | rfl | (simp [errW_none, errW_some] <;> rfl) | (simp [*, errW_none, errW_some] <;> rfl), by (with_reducible repeat (first | apply Kd.R_alloc | apply Kd.R_drewN | apply Kd.R_drew)); exact HO262.out, by repeat (first | (with_reducible first | exact HB.out | apply below_alloc | apply pw_below_drewN | apply below_drew1) | exact HB.out)⟩
  · rw [if_neg c2] at H
    have c2b0 : decide (a0 < 10) = false := decide_eq_false c2
    clear c2
    replace H := Option.bind_eq_some_iff.mp H
    obtain ⟨t263, A50, H⟩ := H
    replace H : (if t263.length < 140737488355328 then (some (t263 ++ [(wrap64 (48 + (Int.tmod a0 10))) % 256])) else (none)) = some r := H
    have A5 := Aside0.mk A50
    clear A50
    by_cases c6 : t263.length < 140737488355328
    · rw [if_pos c6] at H
      have LMc6 := Aside0.mk c6
      clear c6
      obtain ⟨y266, hy266⟩ : ∃ y_ : List Int, y_ = (t263 ++ [(wrap64 (48 + (Int.tmod a0 10))) % 256]) := ⟨_, rfl⟩
      replace H : (some y266) = some r := by first | (rw [hy266]; with_reducible exact H) | (have H2_ := (Option.bind_some _ _).symm.trans H; rw [hy266]; with_reducible exact H2_) | (have H2_ := (Option.bind_some _ _).symm.trans H; with_reducible exact H2_) | with_reducible exact H | (rw [hy266]; exact H) | exact H
      have Ny266 := Aside0.mk hy266
      clear hy266
      obtain rfl := Option.some.inj H
      go_enter Tryd.func27, Tryd.ntmps27
      go_wp2_with (first | ((with_reducible refine gate_callee (f := 27) rfl ?_); refine goesL_ (some 12) rfl rfl Tryd.func27 (by kernel_rfl) rfl #[.int .i64 (wrap64 (Int.tdiv a0 10))] rfl (by (try simp only [List.map_toArray, List.map_cons, List.map_nil]); first | done | rfl | (simp only [List.length_drop, List.length_take]; rfl)) ?_; (with_reducible refine (ih k (by omega) (wrap64 (Int.tdiv a0 10)) t263 _ A5.out).mono ?_); rintro e w7 ⟨v264, rfl, ho0, hb⟩; refine ⟨_, rfl, ?_⟩; have n0_ := Aside0.mk (Kd.R_lower ho0 (below_size (by repeat (first | (with_reducible first | exact HB.out | apply below_alloc | apply pw_below_drewN | apply below_drew1) | exact HB.out)))); have n1_ := Aside0.mk (below_step (by repeat (first | (with_reducible first | exact HB.out | apply below_alloc | apply pw_below_drewN | apply below_drew1) | exact HB.out)) hb); clear HB; have HO265 := n0_; have HB := n1_; clear n0_ n1_; (try clear hb); (try clear hb2); (try clear hk); (try clear hi); (try clear ho0)) | ((with_reducible refine gate_builtin (b := .append) (xs := #[.tmp 13, .tmp 18]) rfl ?_); at_builtin; refine Kd.R_append (Kd.int .u8) (w0 := w) w.heap.size rfl (.tmp 13) (.tmp 18) 22 5 (.int .u8 0) 1 rfl Tryd.underlying22 info5 rfl (by decide) (by omega) v264 t263 ((wrap64 (48 + (Int.tmod a0 10))) % 256) [.int .u8 ((wrap64 (48 + (Int.tmod a0 10))) % 256)] (fun _ => True) (fun _ => False) rfl rfl ?aP (fun _ hk => hk.elim) ?aF ?aO ?aB ?aS ?aL ?_; (case aP => exact rfl); (case aB => exact (by repeat (first | (with_reducible first | exact HB.out | apply below_alloc | apply pw_below_drewN | apply below_drew1) | exact HB.out))); (case aF => exact (fun _ _ => trivial)); (case aO => exact (by (with_reducible repeat (first | apply Kd.R_alloc | apply Kd.R_drewN | apply Kd.R_drew)); exact HO265.out)); (case aS => exact (below_size (by repeat (first | (with_reducible first | exact HB.out | apply below_alloc | apply pw_below_drewN | apply below_drew1) | exact HB.out)))); (case aL => have := LMc6.out; omega); intro v267 w8 ho hb hg hat; rw [← Ny266.out] at ho; have n0_ := Aside0.mk (hb); have n1_ := Aside0.mk (ho); clear HB; clear HO265; have HB := n0_; have HO268 := n1_; clear n0_ n1_; clear ho hb hg hat))
      go_ret
      exact ⟨_, by first | rfl | (simp [errW_none, errW_some] <;> rfl) | (simp [*, errW_none, errW_some] <;> rfl), by (with_reducible repeat (first | apply Kd.R_alloc | apply Kd.R_drewN | apply Kd.R_drew)); exact HO268.out, by repeat (first | (with_reducible first | exact HB.out | apply below_alloc | apply pw_below_drewN | apply below_drew1) | exact HB.out)⟩
    · rw [if_neg c6] at H
      exact absurd H (by simp)

end Go.Proofs.YtdhdngoeaneanaaDoor.X
end
section
-- Written by wip/xprint.py over the kit's print.py: the Lean function of each Go function, and the proof that the Go text comes to it.
namespace Go.Proofs.YtdhdngoeaneanaaDoor.X
open Go.RowKit Go.Proofs.YtdhdngoeaneanaaDoorW.PrintWords Go.Proofs.YtdhdngoeaneanaaDoorW.PrintLast Go.Proofs.YtdhdngoeaneanaaDoorW.PrintMore
attribute [local go_sem] max2_int min2_int max_two min_two max_three min_three max_four min_four   -- for this text's walks alone
set_option linter.unusedVariables false
set_option linter.unusedSimpArgs false

/-! ### quoinref23_Spell: function 14 -/
mutual
def quoinref23_Spell.j0 : Nat → Bool → Int → Int → Int → List Int → Int → Bool → Option (List Int)
  | 0, _, _, _, _, _, _, _ => none
  | k + 1, x16, x270000, x270001, x270002, x270003, x270004, x270005 => if x16 = true then (some ([] : List Int)) else (if x270000 = 110 then (if x270001 < 0 then (some ([] : List Int)) else (if x270001 > 999999999 then (some ([] : List Int)) else ((quoinref23_digits.f k x270001).bind fun t270 => (quoinref23_Spell.j3 k t270 x270000 x270001 x270002 x270003 x270004 x270005)))) else (if x270000 = 46 then (quoinref23_Spell.j1 k ([] : List Int) x270000 (x270000 == 46) x270000 x270001 x270002 x270003 x270004 x270005) else (quoinref23_Spell.j1 k ([] : List Int) x270000 (x270000 == 36) x270000 x270001 x270002 x270003 x270004 x270005)))
def quoinref23_Spell.j3 : Nat → List Int → Int → Int → Int → List Int → Int → Bool → Option (List Int)
  | 0, _, _, _, _, _, _, _ => none
  | k + 1, x3, x270000, x270001, x270002, x270003, x270004, x270005 => if x270004 = 0 then (quoinref23_Spell.j4 k x3 (x270000 != 0) x270000 x270001 x270002 x270003 x270004 x270005) else (quoinref23_Spell.j4 k x3 false x270000 x270001 x270002 x270003 x270004 x270005)
def quoinref23_Spell.j4 : Nat → List Int → Bool → Int → Int → Int → List Int → Int → Bool → Option (List Int)
  | 0, _, _, _, _, _, _, _, _ => none
  | k + 1, x3, x81, x270000, x270001, x270002, x270003, x270004, x270005 => if x81 = true then (some x3) else (if x270004 < 0 then (if x3.length < 140737488355328 then ((some (x3 ++ [45] : List Int)).bind fun y292 => ((quoinref23_digits.f k (wrap64 (-x270004))).bind fun t295 => (if y292.length + t295.length < 140737488355328 then (some (y292 ++ t295)) else (none)))) else (none)) else (if x3.length < 140737488355328 then ((some (x3 ++ [43] : List Int)).bind fun y301 => ((quoinref23_digits.f k x270004).bind fun t304 => (if y301.length + t304.length < 140737488355328 then (some (y301 ++ t304)) else (none)))) else (none)))
def quoinref23_Spell.j1 : Nat → List Int → Int → Bool → Int → Int → Int → List Int → Int → Bool → Option (List Int)
  | 0, _, _, _, _, _, _, _, _, _ => none
  | k + 1, x3, x18, x32, x270000, x270001, x270002, x270003, x270004, x270005 => if x32 = true then (if x3.length < 140737488355328 then (quoinref23_Spell.j3 k (x3 ++ [x270000]) x270000 x270001 x270002 x270003 x270004 x270005) else (none)) else (if x18 = 39 then ((some (([x270000, x270002] : List Int) : List Int)).bind fun y276 => (if x3.length + y276.length < 140737488355328 then (quoinref23_Spell.j3 k (x3 ++ y276) x270000 x270001 x270002 x270003 x270004 x270005) else (none))) else (if x18 = 47 then (quoinref23_Spell.j2 k x3 x18 (x18 == 47) x270000 x270001 x270002 x270003 x270004 x270005) else (quoinref23_Spell.j2 k x3 x18 (x18 == 63) x270000 x270001 x270002 x270003 x270004 x270005)))
def quoinref23_Spell.j2 : Nat → List Int → Int → Bool → Int → Int → Int → List Int → Int → Bool → Option (List Int)
  | 0, _, _, _, _, _, _, _, _, _ => none
  | k + 1, x3, x18, x49, x270000, x270001, x270002, x270003, x270004, x270005 => if x49 = true then ((quoinref23_whole.f k x270003 x270000).bind fun t282 => (if t282 = true then (if x3.length < 140737488355328 then ((some (x3 ++ [x270000] : List Int)).bind fun y283 => (if y283.length + x270003.length < 140737488355328 then ((some (y283 ++ x270003 : List Int)).bind fun y286 => (if y286.length < 140737488355328 then (quoinref23_Spell.j3 k (y286 ++ [x270000]) x270000 x270001 x270002 x270003 x270004 x270005) else (none))) else (none))) else (none)) else (some ([] : List Int)))) else (if x18 = 0 then (quoinref23_Spell.j3 k x3 x270000 x270001 x270002 x270003 x270004 x270005) else (some ([] : List Int)))
end
def quoinref23_Spell.f (k : Nat) (a0_0 : Int) (a0_1 : Int) (a0_2 : Int) (l0_3 : List Int) (a0_4 : Int) (a0_5 : Bool) : Option (List Int) := if a0_5 = true then (if a0_4 < (-999999999) then (quoinref23_Spell.j0 k true a0_0 a0_1 a0_2 l0_3 a0_4 a0_5) else (quoinref23_Spell.j0 k (decide (a0_4 > 999999999)) a0_0 a0_1 a0_2 l0_3 a0_4 a0_5)) else (quoinref23_Spell.j0 k true a0_0 a0_1 a0_2 l0_3 a0_4 a0_5)
theorem quoinref23_Spell.mono_l : ∀ k, (∀ y0 y1 y2 y3 y4 y5 y6, LeO (quoinref23_Spell.j0 k y0 y1 y2 y3 y4 y5 y6) (quoinref23_Spell.j0 (k + 1) y0 y1 y2 y3 y4 y5 y6)) ∧ (∀ y0 y1 y2 y3 y4 y5 y6, LeO (quoinref23_Spell.j3 k y0 y1 y2 y3 y4 y5 y6) (quoinref23_Spell.j3 (k + 1) y0 y1 y2 y3 y4 y5 y6)) ∧ (∀ y0 y1 y2 y3 y4 y5 y6 y7, LeO (quoinref23_Spell.j4 k y0 y1 y2 y3 y4 y5 y6 y7) (quoinref23_Spell.j4 (k + 1) y0 y1 y2 y3 y4 y5 y6 y7)) ∧ (∀ y0 y1 y2 y3 y4 y5 y6 y7 y8, LeO (quoinref23_Spell.j1 k y0 y1 y2 y3 y4 y5 y6 y7 y8) (quoinref23_Spell.j1 (k + 1) y0 y1 y2 y3 y4 y5 y6 y7 y8)) ∧ (∀ y0 y1 y2 y3 y4 y5 y6 y7 y8, LeO (quoinref23_Spell.j2 k y0 y1 y2 y3 y4 y5 y6 y7 y8) (quoinref23_Spell.j2 (k + 1) y0 y1 y2 y3 y4 y5 y6 y7 y8))
  | 0 => ⟨fun _ _ _ _ _ _ _ r h => by simp [quoinref23_Spell.j0] at h, fun _ _ _ _ _ _ _ r h => by simp [quoinref23_Spell.j3] at h, fun _ _ _ _ _ _ _ _ r h => by simp [quoinref23_Spell.j4] at h, fun _ _ _ _ _ _ _ _ _ r h => by simp [quoinref23_Spell.j1] at h, fun _ _ _ _ _ _ _ _ _ r h => by simp [quoinref23_Spell.j2] at h⟩
  | k + 1 => by
    obtain ⟨ih0, ih1, ih2, ih3, ih4⟩ := quoinref23_Spell.mono_l k
    refine ⟨?_, ?_, ?_, ?_, ?_⟩
    · intro y0 y1 y2 y3 y4 y5 y6
      unfold quoinref23_Spell.j0
      repeat' first
      | (with_reducible exact ih0 _ _ _ _ _ _ _)
      | (with_reducible exact ih1 _ _ _ _ _ _ _)
      | (with_reducible exact ih2 _ _ _ _ _ _ _ _)
      | (with_reducible exact ih3 _ _ _ _ _ _ _ _ _)
      | (with_reducible exact ih4 _ _ _ _ _ _ _ _ _)
      | (with_reducible exact quoinref23_digits.mono _ _)
      | (with_reducible exact quoinref23_whole.mono _ _ _)
      | (with_reducible exact LeO.refl _)
      | (with_reducible exact LeO.none _)
      | (with_reducible refine LeO.ite ?_ ?_)
      | (with_reducible refine LeO.bind ?_ (fun _ => ?_))
      | exact ih0 _ _ _ _ _ _ _
      | exact ih1 _ _ _ _ _ _ _
      | exact ih2 _ _ _ _ _ _ _ _
      | exact ih3 _ _ _ _ _ _ _ _ _
      | exact ih4 _ _ _ _ _ _ _ _ _
      | exact quoinref23_digits.mono _ _
      | exact quoinref23_whole.mono _ _ _
      | exact LeO.none _
      | refine LeO.ite ?_ ?_
      | refine LeO.bind ?_ (fun _ => ?_)
    · intro y0 y1 y2 y3 y4 y5 y6
      unfold quoinref23_Spell.j3
      repeat' first
      | (with_reducible exact ih0 _ _ _ _ _ _ _)
      | (with_reducible exact ih1 _ _ _ _ _ _ _)
      | (with_reducible exact ih2 _ _ _ _ _ _ _ _)
      | (with_reducible exact ih3 _ _ _ _ _ _ _ _ _)
      | (with_reducible exact ih4 _ _ _ _ _ _ _ _ _)
      | (with_reducible exact quoinref23_digits.mono _ _)
      | (with_reducible exact quoinref23_whole.mono _ _ _)
      | (with_reducible exact LeO.refl _)
      | (with_reducible exact LeO.none _)
      | (with_reducible refine LeO.ite ?_ ?_)
      | (with_reducible refine LeO.bind ?_ (fun _ => ?_))
      | exact ih0 _ _ _ _ _ _ _
      | exact ih1 _ _ _ _ _ _ _
      | exact ih2 _ _ _ _ _ _ _ _
      | exact ih3 _ _ _ _ _ _ _ _ _
      | exact ih4 _ _ _ _ _ _ _ _ _
      | exact quoinref23_digits.mono _ _
      | exact quoinref23_whole.mono _ _ _
      | exact LeO.none _
      | refine LeO.ite ?_ ?_
      | refine LeO.bind ?_ (fun _ => ?_)
    · intro y0 y1 y2 y3 y4 y5 y6 y7
      unfold quoinref23_Spell.j4
      repeat' first
      | (with_reducible exact ih0 _ _ _ _ _ _ _)
      | (with_reducible exact ih1 _ _ _ _ _ _ _)
      | (with_reducible exact ih2 _ _ _ _ _ _ _ _)
      | (with_reducible exact ih3 _ _ _ _ _ _ _ _ _)
      | (with_reducible exact ih4 _ _ _ _ _ _ _ _ _)
      | (with_reducible exact quoinref23_digits.mono _ _)
      | (with_reducible exact quoinref23_whole.mono _ _ _)
      | (with_reducible exact LeO.refl _)
      | (with_reducible exact LeO.none _)
      | (with_reducible refine LeO.ite ?_ ?_)
      | (with_reducible refine LeO.bind ?_ (fun _ => ?_))
      | exact ih0 _ _ _ _ _ _ _
      | exact ih1 _ _ _ _ _ _ _
      | exact ih2 _ _ _ _ _ _ _ _
      | exact ih3 _ _ _ _ _ _ _ _ _
      | exact ih4 _ _ _ _ _ _ _ _ _
      | exact quoinref23_digits.mono _ _
      | exact quoinref23_whole.mono _ _ _
      | exact LeO.none _
      | refine LeO.ite ?_ ?_
      | refine LeO.bind ?_ (fun _ => ?_)
    · intro y0 y1 y2 y3 y4 y5 y6 y7 y8
      unfold quoinref23_Spell.j1
      repeat' first
      | (with_reducible exact ih0 _ _ _ _ _ _ _)
      | (with_reducible exact ih1 _ _ _ _ _ _ _)
      | (with_reducible exact ih2 _ _ _ _ _ _ _ _)
      | (with_reducible exact ih3 _ _ _ _ _ _ _ _ _)
      | (with_reducible exact ih4 _ _ _ _ _ _ _ _ _)
      | (with_reducible exact quoinref23_digits.mono _ _)
      | (with_reducible exact quoinref23_whole.mono _ _ _)
      | (with_reducible exact LeO.refl _)
      | (with_reducible exact LeO.none _)
      | (with_reducible refine LeO.ite ?_ ?_)
      | (with_reducible refine LeO.bind ?_ (fun _ => ?_))
      | exact ih0 _ _ _ _ _ _ _
      | exact ih1 _ _ _ _ _ _ _
      | exact ih2 _ _ _ _ _ _ _ _
      | exact ih3 _ _ _ _ _ _ _ _ _
      | exact ih4 _ _ _ _ _ _ _ _ _
      | exact quoinref23_digits.mono _ _
      | exact quoinref23_whole.mono _ _ _
      | exact LeO.none _
      | refine LeO.ite ?_ ?_
      | refine LeO.bind ?_ (fun _ => ?_)
    · intro y0 y1 y2 y3 y4 y5 y6 y7 y8
      unfold quoinref23_Spell.j2
      repeat' first
      | (with_reducible exact ih0 _ _ _ _ _ _ _)
      | (with_reducible exact ih1 _ _ _ _ _ _ _)
      | (with_reducible exact ih2 _ _ _ _ _ _ _ _)
      | (with_reducible exact ih3 _ _ _ _ _ _ _ _ _)
      | (with_reducible exact ih4 _ _ _ _ _ _ _ _ _)
      | (with_reducible exact quoinref23_digits.mono _ _)
      | (with_reducible exact quoinref23_whole.mono _ _ _)
      | (with_reducible exact LeO.refl _)
      | (with_reducible exact LeO.none _)
      | (with_reducible refine LeO.ite ?_ ?_)
      | (with_reducible refine LeO.bind ?_ (fun _ => ?_))
      | exact ih0 _ _ _ _ _ _ _
      | exact ih1 _ _ _ _ _ _ _
      | exact ih2 _ _ _ _ _ _ _ _
      | exact ih3 _ _ _ _ _ _ _ _ _
      | exact ih4 _ _ _ _ _ _ _ _ _
      | exact quoinref23_digits.mono _ _
      | exact quoinref23_whole.mono _ _ _
      | exact LeO.none _
      | refine LeO.ite ?_ ?_
      | refine LeO.bind ?_ (fun _ => ?_)
theorem quoinref23_Spell.mono : ∀ a0 a1 a2 a3 a4 a5 k, LeO (quoinref23_Spell.f k a0 a1 a2 a3 a4 a5) (quoinref23_Spell.f (k + 1) a0 a1 a2 a3 a4 a5) := by
  intro a0 a1 a2 a3 a4 a5 k
  obtain ⟨ih0, ih1, ih2, ih3, ih4⟩ := quoinref23_Spell.mono_l k
  unfold quoinref23_Spell.f
  repeat' first
      | (with_reducible exact ih0 _ _ _ _ _ _ _)
      | (with_reducible exact ih1 _ _ _ _ _ _ _)
      | (with_reducible exact ih2 _ _ _ _ _ _ _ _)
      | (with_reducible exact ih3 _ _ _ _ _ _ _ _ _)
      | (with_reducible exact ih4 _ _ _ _ _ _ _ _ _)
      | (with_reducible exact quoinref23_digits.mono _ _)
      | (with_reducible exact quoinref23_whole.mono _ _ _)
      | (with_reducible exact LeO.refl _)
      | (with_reducible exact LeO.none _)
      | (with_reducible refine LeO.ite ?_ ?_)
      | (with_reducible refine LeO.bind ?_ (fun _ => ?_))
      | exact ih0 _ _ _ _ _ _ _
      | exact ih1 _ _ _ _ _ _ _
      | exact ih2 _ _ _ _ _ _ _ _
      | exact ih3 _ _ _ _ _ _ _ _ _
      | exact ih4 _ _ _ _ _ _ _ _ _
      | exact quoinref23_digits.mono _ _
      | exact quoinref23_whole.mono _ _ _
      | exact LeO.none _
      | refine LeO.ite ?_ ?_
      | refine LeO.bind ?_ (fun _ => ?_)
set_option maxHeartbeats 8000000 in
set_option maxRecDepth 100000 in
theorem quoinref23_Spell.calls (k : Nat) (a0_0 : Int) (a0_1 : Int) (a0_2 : Int) (A0_3 : Option Addr) (c0_3 : Nat) (l0_3 : List Int) (a0_4 : Int) (a0_5 : Bool) (r : List Int) (w : World) (hr0_3 : Kd.C (Kd.int .u8) w A0_3 l0_3.length l0_3) (hc0_3 : l0_3.length ≤ c0_3) (h : quoinref23_Spell.f k a0_0 a0_1 a0_2 l0_3 a0_4 a0_5 = some r) :
    Calls Tryd.prog 14 #[.agg #[.int .u8 a0_0, .int .i64 a0_1, .int .u8 a0_2, .slice A0_3 l0_3.length c0_3, .int .i64 a0_4, .bool a0_5]] w fun e w' => ∃ v0_ : Value, e = .returned (v0_) ∧ Kd.R (Kd.int .u8) 5 w' w.heap.size (fun _ => True) v0_ r ∧ Below w.heap.size w w' := by
  have hu25 := Tryd.underlying25
  have HR0_3 := Aside0.mk hr0_3
  have HC0_3 := Aside0.mk hc0_3
  clear hr0_3 hc0_3
  have HB := Aside0.mk (Below.refl w.heap.size w)
  have H : (if a0_5 = true then (if a0_4 < (-999999999) then (quoinref23_Spell.j0 k true a0_0 a0_1 a0_2 l0_3 a0_4 a0_5) else (quoinref23_Spell.j0 k (decide (a0_4 > 999999999)) a0_0 a0_1 a0_2 l0_3 a0_4 a0_5)) else (quoinref23_Spell.j0 k true a0_0 a0_1 a0_2 l0_3 a0_4 a0_5)) = some r := h
  clear h
  have HC2 := Aside0.mk H
  clear H
  go_enter Tryd.func14, Tryd.ntmps14
  go_upto_region 1 with (first | ((with_reducible refine gate_dst (N := 1) rfl ?_); refine box_event ?hg (N := 1) ?hd (cs := #[.int .u8 a0_0, .int .i64 a0_1, .int .u8 a0_2, .slice A0_3 l0_3.length c0_3, .int .i64 a0_4, .bool a0_5]) (t := 25) ?hr ?_; (case hd => rfl); (case hg => rfl); (case hr => first | (go_simp; done) | (go_simp; rfl)); intro gb269 hg w3 hbox hb; have n0_ := Aside0.mk (below_step (by repeat (first | (with_reducible first | exact HB.out | apply below_alloc | apply pw_below_drewN | apply below_drew1) | exact HB.out)) hb); have n1_ := Aside0.mk (hbox); have n2_ := Aside0.mk ((by rw [hg]; exact (below_size (by repeat (first | (with_reducible first | exact HB.out | apply below_alloc | apply pw_below_drewN | apply below_drew1) | exact HB.out))) : w.heap.size ≤ gb269)); have n3_ := Aside0.mk ((by rw [hg]; exact (below_size (by repeat (first | (with_reducible first | exact HB.out | apply below_alloc | apply pw_below_drewN | apply below_drew1) | exact HB.out))) : w.heap.size ≤ gb269)); clear HB; have HB := n0_; have BK269 := n1_; have GW269 := n2_; have GE269 := n3_; clear n0_ n1_ n2_ n3_; clear hb hbox hg))
  (try simp only [Act.put, List.setIfInBounds_toArray, List.set_cons_zero, List.set_cons_succ])
  go_cut [16] (fun v16 wc => ∃ (kq : Nat) (x16_1 : Bool), v16 = .bool x16_1 ∧ Aside0 (quoinref23_Spell.j0 kq x16_1 a0_0 a0_1 a0_2 l0_3 a0_4 a0_5 = some r) ∧ Aside0 (kq ≤ k) ∧ Aside0 (wc.heap[gb269]? = some (.cells #[.int .u8 a0_0, .int .i64 a0_1, .int .u8 a0_2, (.slice A0_3 l0_3.length c0_3), .int .i64 a0_4, .bool a0_5] 25 (0, 0))) ∧ Aside0 (Below w.heap.size w wc))
  case first =>
    have H := HC2.out
    clear HC2
    by_cases c4 : a0_5 = true
    · subst c4
      have H1 : (if a0_4 < (-999999999) then (quoinref23_Spell.j0 k true a0_0 a0_1 a0_2 l0_3 a0_4 true) else (quoinref23_Spell.j0 k (decide (a0_4 > 999999999)) a0_0 a0_1 a0_2 l0_3 a0_4 true)) = some r := by rw [if_pos rfl] at H; exact H
      clear H
      have H := H1
      clear H1
      by_cases c5 : a0_4 < (-999999999)
      · rw [if_pos c5] at H
        have c5b0 : decide (a0_4 < (-999999999)) = true := decide_eq_true c5
        clear c5
        (first | rw [c5b0] | (simp only [i64_w, i32_w]; rw [c5b0]) | skip)
        have H' := Aside0.mk H
        clear H
        have hcz6_0 : w3.cell? ⟨gb269, 0, none⟩ = some (.int .u8 a0_0) := (blk_cell BK269.out 0).trans rfl
        have hcz6_1 : w3.cell? ⟨gb269, 1, none⟩ = some (.int .i64 a0_1) := (blk_cell BK269.out 1).trans rfl
        have hcz6_2 : w3.cell? ⟨gb269, 2, none⟩ = some (.int .u8 a0_2) := (blk_cell BK269.out 2).trans rfl
        have hcz6_3 : w3.cell? ⟨gb269, 3, none⟩ = some (.slice A0_3 l0_3.length c0_3) := (blk_cell BK269.out 3).trans rfl
        have hcz6_4 : w3.cell? ⟨gb269, 4, none⟩ = some (.int .i64 a0_4) := (blk_cell BK269.out 4).trans rfl
        have hcz6_5 : w3.cell? ⟨gb269, 5, none⟩ = some (.bool true) := (blk_cell BK269.out 5).trans rfl
        have hfz6_0 := blk_frozen BK269.out 0
        have hfz6_1 := blk_frozen BK269.out 1
        have hfz6_2 := blk_frozen BK269.out 2
        have hfz6_3 := blk_frozen BK269.out 3
        have hfz6_4 := blk_frozen BK269.out 4
        have hfz6_5 := blk_frozen BK269.out 5
        go_wp2
        go_meet
        case rel => exact ⟨_, (true), (by first | rfl | (simp; done) | (simp [*]; done)), H', ⟨by first | omega | exact Nat.le_refl _⟩, ⟨by (with_reducible repeat (first | refine blk_drewN ?_ _ | refine blk_drew ?_ | refine blk_alloc ?_ _)); exact BK269.out⟩, ⟨by repeat (first | (with_reducible first | exact HB.out | apply below_alloc | apply pw_below_drewN | apply below_drew1 | refine below_set ?_ GE269.out) | exact HB.out)⟩⟩
      · rw [if_neg c5] at H
        have c5b0 : decide (a0_4 < (-999999999)) = false := decide_eq_false c5
        clear c5
        (first | rw [c5b0] | (simp only [i64_w, i32_w]; rw [c5b0]) | skip)
        have H' := Aside0.mk H
        clear H
        have hcz7_0 : w3.cell? ⟨gb269, 0, none⟩ = some (.int .u8 a0_0) := (blk_cell BK269.out 0).trans rfl
        have hcz7_1 : w3.cell? ⟨gb269, 1, none⟩ = some (.int .i64 a0_1) := (blk_cell BK269.out 1).trans rfl
        have hcz7_2 : w3.cell? ⟨gb269, 2, none⟩ = some (.int .u8 a0_2) := (blk_cell BK269.out 2).trans rfl
        have hcz7_3 : w3.cell? ⟨gb269, 3, none⟩ = some (.slice A0_3 l0_3.length c0_3) := (blk_cell BK269.out 3).trans rfl
        have hcz7_4 : w3.cell? ⟨gb269, 4, none⟩ = some (.int .i64 a0_4) := (blk_cell BK269.out 4).trans rfl
        have hcz7_5 : w3.cell? ⟨gb269, 5, none⟩ = some (.bool true) := (blk_cell BK269.out 5).trans rfl
        have hfz7_0 := blk_frozen BK269.out 0
        have hfz7_1 := blk_frozen BK269.out 1
        have hfz7_2 := blk_frozen BK269.out 2
        have hfz7_3 := blk_frozen BK269.out 3
        have hfz7_4 := blk_frozen BK269.out 4
        have hfz7_5 := blk_frozen BK269.out 5
        go_wp2
        go_meet
        case rel => exact ⟨_, (decide (a0_4 > 999999999)), (by first | rfl | (simp; done) | (simp [*]; done)), H', ⟨by first | omega | exact Nat.le_refl _⟩, ⟨by (with_reducible repeat (first | refine blk_drewN ?_ _ | refine blk_drew ?_ | refine blk_alloc ?_ _)); exact BK269.out⟩, ⟨by repeat (first | (with_reducible first | exact HB.out | apply below_alloc | apply pw_below_drewN | apply below_drew1 | refine below_set ?_ GE269.out) | exact HB.out)⟩⟩
    · replace c4 := Bool.eq_false_iff.mpr c4
      subst c4
      have H1 : (quoinref23_Spell.j0 k true a0_0 a0_1 a0_2 l0_3 a0_4 false) = some r := by rw [if_neg (show ¬ (false = true) by decide)] at H; exact H
      clear H
      have H := H1
      clear H1
      have H' := Aside0.mk H
      clear H
      have hcz8_0 : w3.cell? ⟨gb269, 0, none⟩ = some (.int .u8 a0_0) := (blk_cell BK269.out 0).trans rfl
      have hcz8_1 : w3.cell? ⟨gb269, 1, none⟩ = some (.int .i64 a0_1) := (blk_cell BK269.out 1).trans rfl
      have hcz8_2 : w3.cell? ⟨gb269, 2, none⟩ = some (.int .u8 a0_2) := (blk_cell BK269.out 2).trans rfl
      have hcz8_3 : w3.cell? ⟨gb269, 3, none⟩ = some (.slice A0_3 l0_3.length c0_3) := (blk_cell BK269.out 3).trans rfl
      have hcz8_4 : w3.cell? ⟨gb269, 4, none⟩ = some (.int .i64 a0_4) := (blk_cell BK269.out 4).trans rfl
      have hcz8_5 : w3.cell? ⟨gb269, 5, none⟩ = some (.bool false) := (blk_cell BK269.out 5).trans rfl
      have hfz8_0 := blk_frozen BK269.out 0
      have hfz8_1 := blk_frozen BK269.out 1
      have hfz8_2 := blk_frozen BK269.out 2
      have hfz8_3 := blk_frozen BK269.out 3
      have hfz8_4 := blk_frozen BK269.out 4
      have hfz8_5 := blk_frozen BK269.out 5
      go_wp2
      go_meet
      case rel => exact ⟨_, (true), (by first | rfl | (simp; done) | (simp [*]; done)), H', ⟨by first | omega | exact Nat.le_refl _⟩, ⟨by (with_reducible repeat (first | refine blk_drewN ?_ _ | refine blk_drew ?_ | refine blk_alloc ?_ _)); exact BK269.out⟩, ⟨by repeat (first | (with_reducible first | exact HB.out | apply below_alloc | apply pw_below_drewN | apply below_drew1 | refine below_set ?_ GE269.out) | exact HB.out)⟩⟩
  case rest =>
    clear HC2
    try clear c1
    try clear p2
    try clear c4
    try clear c5
    try clear c5b0
    try clear hcz6_0
    try clear hcz6_1
    try clear hcz6_2
    try clear hcz6_3
    try clear hcz6_4
    try clear hcz6_5
    try clear hcz7_0
    try clear hcz7_1
    try clear hcz7_2
    try clear hcz7_3
    try clear hcz7_4
    try clear hcz7_5
    try clear hcz8_0
    try clear hcz8_1
    try clear hcz8_2
    try clear hcz8_3
    try clear hcz8_4
    try clear hcz8_5
    try clear hfz6_0
    try clear hfz6_1
    try clear hfz6_2
    try clear hfz6_3
    try clear hfz6_4
    try clear hfz6_5
    try clear hfz7_0
    try clear hfz7_1
    try clear hfz7_2
    try clear hfz7_3
    try clear hfz7_4
    try clear hfz7_5
    try clear hfz8_0
    try clear hfz8_1
    try clear hfz8_2
    try clear hfz8_3
    try clear hfz8_4
    try clear hfz8_5
    obtain ⟨kq, x16_1, rfl, HA, HJ1, BK269, HB⟩ := hcut
    cases kq with
    | zero => exact absurd HA.out (by simp [quoinref23_Spell.j0])
    | succ kj1 =>
      have H := HA.out
      clear HA
      simp only [quoinref23_Spell.j0] at H
      by_cases c9 : x16_1 = true
      · subst c9
        have H1 : (some ([] : List Int)) = some r := by rw [if_pos rfl] at H; exact H
        clear H
        have H := H1
        clear H1
        obtain rfl := Option.some.inj H
        go_wp2
        go_ret
        exact ⟨_, by first | rfl | (simp [errW_none, errW_some] <;> rfl) | (simp [*, errW_none, errW_some] <;> rfl), by first | exact Kd.R_nil _ _ _ _ _ | exact Kd.N_nil _ _ _ _ _ | exact Kd.V_nil _ _ _ _ _ | exact Kd.Q_nil _ _ _ _ _ | exact Kd.S_nil _ _ _ _ _, by repeat (first | (with_reducible first | exact HB.out | apply below_alloc | apply pw_below_drewN | apply below_drew1 | refine below_set ?_ GE269.out) | exact HB.out)⟩
      · replace c9 := Bool.eq_false_iff.mpr c9
        subst c9
        have H1 : (if a0_0 = 110 then (if a0_1 < 0 then (some ([] : List Int)) else (if a0_1 > 999999999 then (some ([] : List Int)) else ((quoinref23_digits.f kj1 a0_1).bind fun t270 => (quoinref23_Spell.j3 kj1 t270 a0_0 a0_1 a0_2 l0_3 a0_4 a0_5)))) else (if a0_0 = 46 then (quoinref23_Spell.j1 kj1 ([] : List Int) a0_0 (a0_0 == 46) a0_0 a0_1 a0_2 l0_3 a0_4 a0_5) else (quoinref23_Spell.j1 kj1 ([] : List Int) a0_0 (a0_0 == 36) a0_0 a0_1 a0_2 l0_3 a0_4 a0_5))) = some r := by rw [if_neg (show ¬ (false = true) by decide)] at H; exact H
        clear H
        have H := H1
        clear H1
        have HC10 := Aside0.mk H
        clear H
        have hcz11_0 : wc.cell? ⟨gb269, 0, none⟩ = some (.int .u8 a0_0) := (blk_cell BK269.out 0).trans rfl
        have hcz11_1 : wc.cell? ⟨gb269, 1, none⟩ = some (.int .i64 a0_1) := (blk_cell BK269.out 1).trans rfl
        have hcz11_2 : wc.cell? ⟨gb269, 2, none⟩ = some (.int .u8 a0_2) := (blk_cell BK269.out 2).trans rfl
        have hcz11_3 : wc.cell? ⟨gb269, 3, none⟩ = some (.slice A0_3 l0_3.length c0_3) := (blk_cell BK269.out 3).trans rfl
        have hcz11_4 : wc.cell? ⟨gb269, 4, none⟩ = some (.int .i64 a0_4) := (blk_cell BK269.out 4).trans rfl
        have hcz11_5 : wc.cell? ⟨gb269, 5, none⟩ = some (.bool a0_5) := (blk_cell BK269.out 5).trans rfl
        have hfz11_0 := blk_frozen BK269.out 0
        have hfz11_1 := blk_frozen BK269.out 1
        have hfz11_2 := blk_frozen BK269.out 2
        have hfz11_3 := blk_frozen BK269.out 3
        have hfz11_4 := blk_frozen BK269.out 4
        have hfz11_5 := blk_frozen BK269.out 5
        go_upto_block 0 with (fail)
        go_cut [3] (fun v3 wc => ∃ (kq : Nat) (x3_9 : List Int), Aside0 (quoinref23_Spell.j3 kq x3_9 a0_0 a0_1 a0_2 l0_3 a0_4 a0_5 = some r) ∧ Aside0 (kq ≤ kj1) ∧ Aside0 (Kd.R (Kd.int .u8) 5 wc w.heap.size (fun _ => True) v3 x3_9) ∧ Aside0 (wc.heap[gb269]? = some (.cells #[.int .u8 a0_0, .int .i64 a0_1, .int .u8 a0_2, (.slice A0_3 l0_3.length c0_3), .int .i64 a0_4, .bool a0_5] 25 (0, 0))) ∧ Aside0 (Below w.heap.size w wc))
        case first =>
          have H := HC10.out
          clear HC10
          by_cases c12 : a0_0 = 110
          · rw [if_pos c12] at H
            have c12b0 : (a0_0 == 110) = true := beq_iff_eq.mpr c12
            have c12b1 : (a0_0 != 110) = false := bne_eq_false_iff_eq.mpr c12
            clear c12
            (first | rw [c12b0] | (simp only [i64_w, i32_w]; rw [c12b0]) | skip)
            by_cases c13 : a0_1 < 0
            · rw [if_pos c13] at H
              have c13b0 : decide (a0_1 < 0) = true := decide_eq_true c13
              clear c13
              obtain rfl := Option.some.inj H
              have hcz14_0 : wc.cell? ⟨gb269, 0, none⟩ = some (.int .u8 a0_0) := (blk_cell BK269.out 0).trans rfl
              have hcz14_1 : wc.cell? ⟨gb269, 1, none⟩ = some (.int .i64 a0_1) := (blk_cell BK269.out 1).trans rfl
              have hcz14_2 : wc.cell? ⟨gb269, 2, none⟩ = some (.int .u8 a0_2) := (blk_cell BK269.out 2).trans rfl
              have hcz14_3 : wc.cell? ⟨gb269, 3, none⟩ = some (.slice A0_3 l0_3.length c0_3) := (blk_cell BK269.out 3).trans rfl
              have hcz14_4 : wc.cell? ⟨gb269, 4, none⟩ = some (.int .i64 a0_4) := (blk_cell BK269.out 4).trans rfl
              have hcz14_5 : wc.cell? ⟨gb269, 5, none⟩ = some (.bool a0_5) := (blk_cell BK269.out 5).trans rfl
              have hfz14_0 := blk_frozen BK269.out 0
              have hfz14_1 := blk_frozen BK269.out 1
              have hfz14_2 := blk_frozen BK269.out 2
              have hfz14_3 := blk_frozen BK269.out 3
              have hfz14_4 := blk_frozen BK269.out 4
              have hfz14_5 := blk_frozen BK269.out 5
              go_wp2
              go_ret
              exact ⟨_, by first | rfl | (simp [errW_none, errW_some] <;> rfl) | (simp [*, errW_none, errW_some] <;> rfl), by first | exact Kd.R_nil _ _ _ _ _ | exact Kd.N_nil _ _ _ _ _ | exact Kd.V_nil _ _ _ _ _ | exact Kd.Q_nil _ _ _ _ _ | exact Kd.S_nil _ _ _ _ _, by repeat (first | (with_reducible first | exact HB.out | apply below_alloc | apply pw_below_drewN | apply below_drew1 | refine below_set ?_ GE269.out) | exact HB.out)⟩
            · rw [if_neg c13] at H
              have c13b0 : decide (a0_1 < 0) = false := decide_eq_false c13
              clear c13
              by_cases c15 : a0_1 > 999999999
              · rw [if_pos c15] at H
                have c15b0 : decide (999999999 < a0_1) = true := decide_eq_true c15
                clear c15
                obtain rfl := Option.some.inj H
                have hcz16_0 : wc.cell? ⟨gb269, 0, none⟩ = some (.int .u8 a0_0) := (blk_cell BK269.out 0).trans rfl
                have hcz16_1 : wc.cell? ⟨gb269, 1, none⟩ = some (.int .i64 a0_1) := (blk_cell BK269.out 1).trans rfl
                have hcz16_2 : wc.cell? ⟨gb269, 2, none⟩ = some (.int .u8 a0_2) := (blk_cell BK269.out 2).trans rfl
                have hcz16_3 : wc.cell? ⟨gb269, 3, none⟩ = some (.slice A0_3 l0_3.length c0_3) := (blk_cell BK269.out 3).trans rfl
                have hcz16_4 : wc.cell? ⟨gb269, 4, none⟩ = some (.int .i64 a0_4) := (blk_cell BK269.out 4).trans rfl
                have hcz16_5 : wc.cell? ⟨gb269, 5, none⟩ = some (.bool a0_5) := (blk_cell BK269.out 5).trans rfl
                have hfz16_0 := blk_frozen BK269.out 0
                have hfz16_1 := blk_frozen BK269.out 1
                have hfz16_2 := blk_frozen BK269.out 2
                have hfz16_3 := blk_frozen BK269.out 3
                have hfz16_4 := blk_frozen BK269.out 4
                have hfz16_5 := blk_frozen BK269.out 5
                go_wp2
                go_ret
                exact ⟨_, by first | rfl | (simp [errW_none, errW_some] <;> rfl) | (simp [*, errW_none, errW_some] <;> rfl), by first | exact Kd.R_nil _ _ _ _ _ | exact Kd.N_nil _ _ _ _ _ | exact Kd.V_nil _ _ _ _ _ | exact Kd.Q_nil _ _ _ _ _ | exact Kd.S_nil _ _ _ _ _, by repeat (first | (with_reducible first | exact HB.out | apply below_alloc | apply pw_below_drewN | apply below_drew1 | refine below_set ?_ GE269.out) | exact HB.out)⟩
              · rw [if_neg c15] at H
                have c15b0 : decide (999999999 < a0_1) = false := decide_eq_false c15
                clear c15
                replace H := Option.bind_eq_some_iff.mp H
                obtain ⟨t270, A170, H⟩ := H
                replace H : (quoinref23_Spell.j3 kj1 t270 a0_0 a0_1 a0_2 l0_3 a0_4 a0_5) = some r := H
                have A17 := Aside0.mk A170
                clear A170
                have H' := Aside0.mk H
                clear H
                have hcz18_0 : wc.cell? ⟨gb269, 0, none⟩ = some (.int .u8 a0_0) := (blk_cell BK269.out 0).trans rfl
                have hcz18_1 : wc.cell? ⟨gb269, 1, none⟩ = some (.int .i64 a0_1) := (blk_cell BK269.out 1).trans rfl
                have hcz18_2 : wc.cell? ⟨gb269, 2, none⟩ = some (.int .u8 a0_2) := (blk_cell BK269.out 2).trans rfl
                have hcz18_3 : wc.cell? ⟨gb269, 3, none⟩ = some (.slice A0_3 l0_3.length c0_3) := (blk_cell BK269.out 3).trans rfl
                have hcz18_4 : wc.cell? ⟨gb269, 4, none⟩ = some (.int .i64 a0_4) := (blk_cell BK269.out 4).trans rfl
                have hcz18_5 : wc.cell? ⟨gb269, 5, none⟩ = some (.bool a0_5) := (blk_cell BK269.out 5).trans rfl
                have hfz18_0 := blk_frozen BK269.out 0
                have hfz18_1 := blk_frozen BK269.out 1
                have hfz18_2 := blk_frozen BK269.out 2
                have hfz18_3 := blk_frozen BK269.out 3
                have hfz18_4 := blk_frozen BK269.out 4
                have hfz18_5 := blk_frozen BK269.out 5
                go_wp2_with (first | ((with_reducible refine gate_callee (f := 27) rfl ?_); refine goesL_ (some 31) rfl rfl Tryd.func27 (by kernel_rfl) rfl #[.int .i64 a0_1] rfl (by (try simp only [List.map_toArray, List.map_cons, List.map_nil]); first | done | rfl | (simp only [List.length_drop, List.length_take]; rfl)) ?_; (with_reducible refine (quoinref23_digits.calls kj1 a0_1 t270 _ A17.out).mono ?_); rintro e w19 ⟨v271, rfl, ho0, hb⟩; refine ⟨_, rfl, ?_⟩; have n0_ := Aside0.mk (Kd.R_lower ho0 (below_size (by repeat (first | (with_reducible first | exact HB.out | apply below_alloc | apply pw_below_drewN | apply below_drew1 | refine below_set ?_ GE269.out) | exact HB.out)))); have n1_ := Aside0.mk (blk_below (g := gb269) (o := .cells #[.int .u8 a0_0, .int .i64 a0_1, .int .u8 a0_2, .slice A0_3 l0_3.length c0_3, .int .i64 a0_4, .bool a0_5] 25 (0, 0)) (by (with_reducible repeat (first | refine blk_drewN ?_ _ | refine blk_drew ?_ | refine blk_alloc ?_ _)); exact BK269.out) hb); have n2_ := Aside0.mk (below_step (by repeat (first | (with_reducible first | exact HB.out | apply below_alloc | apply pw_below_drewN | apply below_drew1 | refine below_set ?_ GE269.out) | exact HB.out)) hb); clear BK269; clear HB; have HO272 := n0_; have BK269 := n1_; have HB := n2_; clear n0_ n1_ n2_; (try clear hb); (try clear hb2); (try clear hk); (try clear hi); (try clear ho0)))
                go_meet
                case rel => exact ⟨_, (t270), H', ⟨by have := HJ1.out; first | omega | exact Nat.le_refl _⟩, ⟨by (with_reducible repeat (first | apply Kd.R_alloc | apply Kd.R_drewN | apply Kd.R_drew)); exact HO272.out⟩, ⟨by (with_reducible repeat (first | refine blk_drewN ?_ _ | refine blk_drew ?_ | refine blk_alloc ?_ _)); exact BK269.out⟩, ⟨by repeat (first | (with_reducible first | exact HB.out | apply below_alloc | apply pw_below_drewN | apply below_drew1 | refine below_set ?_ GE269.out) | exact HB.out)⟩⟩
          · rw [if_neg c12] at H
            have c12b0 : (a0_0 == 110) = false := beq_eq_false_iff_ne.mpr c12
            have c12b1 : (a0_0 != 110) = true := bne_iff_ne.mpr c12
            (first | rw [c12b0] | (simp only [i64_w, i32_w]; rw [c12b0]) | skip)
            have HC20 := Aside0.mk H
            clear H
            go_upto_if 32 with (fail)
            go_cut [32] (fun v32 wc => ∃ (kq : Nat) (x32_19 : Bool), v32 = .bool x32_19 ∧ Aside0 (quoinref23_Spell.j1 kq ([] : List Int) a0_0 x32_19 a0_0 a0_1 a0_2 l0_3 a0_4 a0_5 = some r) ∧ Aside0 (kq ≤ kj1) ∧ Aside0 (Kd.R (Kd.int .u8) 5 wc w.heap.size (fun _ => True) (.slice none 0 0) ([] : List Int)) ∧ Aside0 (wc.heap[gb269]? = some (.cells #[.int .u8 a0_0, .int .i64 a0_1, .int .u8 a0_2, (.slice A0_3 l0_3.length c0_3), .int .i64 a0_4, .bool a0_5] 25 (0, 0))) ∧ Aside0 (Below w.heap.size w wc))
            case first =>
              have H := HC20.out
              clear HC20
              by_cases c21 : a0_0 = 46
              · rw [if_pos c21] at H
                have c21b0 : (a0_0 == 46) = true := beq_iff_eq.mpr c21
                have c21b1 : (a0_0 != 46) = false := bne_eq_false_iff_eq.mpr c21
                clear c21
                (first | rw [c21b0] | (simp only [i64_w, i32_w]; rw [c21b0]) | skip)
                have H' := Aside0.mk H
                clear H
                go_wp2
                go_meet
                case rel => exact ⟨_, ((a0_0 == 46)), (by first | rfl | (simp; done) | (simp [*]; done)), H', ⟨by have := HJ1.out; first | omega | exact Nat.le_refl _⟩, ⟨by first | exact Kd.R_nil _ _ _ _ _ | exact Kd.N_nil _ _ _ _ _ | exact Kd.V_nil _ _ _ _ _ | exact Kd.Q_nil _ _ _ _ _ | exact Kd.S_nil _ _ _ _ _⟩, ⟨by (with_reducible repeat (first | refine blk_drewN ?_ _ | refine blk_drew ?_ | refine blk_alloc ?_ _)); exact BK269.out⟩, ⟨by repeat (first | (with_reducible first | exact HB.out | apply below_alloc | apply pw_below_drewN | apply below_drew1 | refine below_set ?_ GE269.out) | exact HB.out)⟩⟩
              · rw [if_neg c21] at H
                have c21b0 : (a0_0 == 46) = false := beq_eq_false_iff_ne.mpr c21
                have c21b1 : (a0_0 != 46) = true := bne_iff_ne.mpr c21
                (first | rw [c21b0] | (simp only [i64_w, i32_w]; rw [c21b0]) | skip)
                have H' := Aside0.mk H
                clear H
                go_wp2
                go_meet
                case rel => exact ⟨_, ((a0_0 == 36)), (by first | rfl | (simp; done) | (simp [*]; done)), H', ⟨by have := HJ1.out; first | omega | exact Nat.le_refl _⟩, ⟨by first | exact Kd.R_nil _ _ _ _ _ | exact Kd.N_nil _ _ _ _ _ | exact Kd.V_nil _ _ _ _ _ | exact Kd.Q_nil _ _ _ _ _ | exact Kd.S_nil _ _ _ _ _⟩, ⟨by (with_reducible repeat (first | refine blk_drewN ?_ _ | refine blk_drew ?_ | refine blk_alloc ?_ _)); exact BK269.out⟩, ⟨by repeat (first | (with_reducible first | exact HB.out | apply below_alloc | apply pw_below_drewN | apply below_drew1 | refine below_set ?_ GE269.out) | exact HB.out)⟩⟩
            case rest =>
              clear HC20
              try clear c1
              try clear c2
              try clear p2
              try clear c4
              try clear c5
              try clear c5b0
              try clear c9
              try clear c12
              try clear c12b0
              try clear c12b1
              try clear c13
              try clear c13b0
              try clear c14
              try clear c15
              try clear c15b0
              try clear c21
              try clear c21b0
              try clear c21b1
              try clear hcz11_0
              try clear hcz11_1
              try clear hcz11_2
              try clear hcz11_3
              try clear hcz11_4
              try clear hcz11_5
              try clear hcz14_0
              try clear hcz14_1
              try clear hcz14_2
              try clear hcz14_3
              try clear hcz14_4
              try clear hcz14_5
              try clear hcz16_0
              try clear hcz16_1
              try clear hcz16_2
              try clear hcz16_3
              try clear hcz16_4
              try clear hcz16_5
              try clear hcz18_0
              try clear hcz18_1
              try clear hcz18_2
              try clear hcz18_3
              try clear hcz18_4
              try clear hcz18_5
              try clear hcz6_0
              try clear hcz6_1
              try clear hcz6_2
              try clear hcz6_3
              try clear hcz6_4
              try clear hcz6_5
              try clear hcz7_0
              try clear hcz7_1
              try clear hcz7_2
              try clear hcz7_3
              try clear hcz7_4
              try clear hcz7_5
              try clear hcz8_0
              try clear hcz8_1
              try clear hcz8_2
              try clear hcz8_3
              try clear hcz8_4
              try clear hcz8_5
              try clear hfz11_0
              try clear hfz11_1
              try clear hfz11_2
              try clear hfz11_3
              try clear hfz11_4
              try clear hfz11_5
              try clear hfz14_0
              try clear hfz14_1
              try clear hfz14_2
              try clear hfz14_3
              try clear hfz14_4
              try clear hfz14_5
              try clear hfz16_0
              try clear hfz16_1
              try clear hfz16_2
              try clear hfz16_3
              try clear hfz16_4
              try clear hfz16_5
              try clear hfz18_0
              try clear hfz18_1
              try clear hfz18_2
              try clear hfz18_3
              try clear hfz18_4
              try clear hfz18_5
              try clear hfz6_0
              try clear hfz6_1
              try clear hfz6_2
              try clear hfz6_3
              try clear hfz6_4
              try clear hfz6_5
              try clear hfz7_0
              try clear hfz7_1
              try clear hfz7_2
              try clear hfz7_3
              try clear hfz7_4
              try clear hfz7_5
              try clear hfz8_0
              try clear hfz8_1
              try clear hfz8_2
              try clear hfz8_3
              try clear hfz8_4
              try clear hfz8_5
              try clear p2
              obtain ⟨kq, x32_19, rfl, HA, HJ19, HO_3, BK269, HB⟩ := hcut
              cases kq with
              | zero => exact absurd HA.out (by simp [quoinref23_Spell.j1])
              | succ kj19 =>
                have H := HA.out
                clear HA
                simp only [quoinref23_Spell.j1] at H
                by_cases c22 : x32_19 = true
                · subst c22
                  have H1 : (if ([] : List Int).length < 140737488355328 then (quoinref23_Spell.j3 kj19 (([] : List Int) ++ [a0_0]) a0_0 a0_1 a0_2 l0_3 a0_4 a0_5) else (none)) = some r := by rw [if_pos rfl] at H; exact H
                  clear H
                  have H := H1
                  clear H1
                  by_cases c23 : ([] : List Int).length < 140737488355328
                  · rw [if_pos c23] at H
                    have LMc23 := Aside0.mk c23
                    clear c23
                    obtain ⟨y273, hy273⟩ : ∃ y_ : List Int, y_ = (([] : List Int) ++ [a0_0]) := ⟨_, rfl⟩
                    replace H : (quoinref23_Spell.j3 kj19 y273 a0_0 a0_1 a0_2 l0_3 a0_4 a0_5) = some r := by first | (rw [hy273]; with_reducible exact H) | (have H2_ := (Option.bind_some _ _).symm.trans H; rw [hy273]; with_reducible exact H2_) | (have H2_ := (Option.bind_some _ _).symm.trans H; with_reducible exact H2_) | with_reducible exact H | (rw [hy273]; exact H) | exact H
                    have Ny273 := Aside0.mk hy273
                    clear hy273
                    have H' := Aside0.mk H
                    clear H
                    have hcz24_0 : wc.cell? ⟨gb269, 0, none⟩ = some (.int .u8 a0_0) := (blk_cell BK269.out 0).trans rfl
                    have hcz24_1 : wc.cell? ⟨gb269, 1, none⟩ = some (.int .i64 a0_1) := (blk_cell BK269.out 1).trans rfl
                    have hcz24_2 : wc.cell? ⟨gb269, 2, none⟩ = some (.int .u8 a0_2) := (blk_cell BK269.out 2).trans rfl
                    have hcz24_3 : wc.cell? ⟨gb269, 3, none⟩ = some (.slice A0_3 l0_3.length c0_3) := (blk_cell BK269.out 3).trans rfl
                    have hcz24_4 : wc.cell? ⟨gb269, 4, none⟩ = some (.int .i64 a0_4) := (blk_cell BK269.out 4).trans rfl
                    have hcz24_5 : wc.cell? ⟨gb269, 5, none⟩ = some (.bool a0_5) := (blk_cell BK269.out 5).trans rfl
                    have hfz24_0 := blk_frozen BK269.out 0
                    have hfz24_1 := blk_frozen BK269.out 1
                    have hfz24_2 := blk_frozen BK269.out 2
                    have hfz24_3 := blk_frozen BK269.out 3
                    have hfz24_4 := blk_frozen BK269.out 4
                    have hfz24_5 := blk_frozen BK269.out 5
                    go_wp2_with (first | ((with_reducible refine gate_builtin (b := .append) (xs := #[.tmp 35, .tmp 38]) rfl ?_); at_builtin; refine Kd.R_append (Kd.int .u8) (w0 := w) w.heap.size rfl (.tmp 35) (.tmp 38) 22 5 (.int .u8 0) 1 rfl Tryd.underlying22 info5 rfl (by decide) (by omega) (.slice none 0 0) ([] : List Int) a0_0 [.int .u8 a0_0] (fun _ => True) (fun _ => False) rfl rfl ?aP (fun _ hk => hk.elim) ?aF ?aO ?aB ?aS ?aL ?_; (case aP => exact rfl); (case aB => exact (by repeat (first | (with_reducible first | exact HB.out | apply below_alloc | apply pw_below_drewN | apply below_drew1 | refine below_set ?_ GE269.out) | exact HB.out))); (case aF => exact (fun _ _ => trivial)); (case aO => exact (by (with_reducible repeat (first | apply Kd.R_alloc | apply Kd.R_drewN | apply Kd.R_drew)); exact HO_3.out)); (case aS => exact (below_size (by repeat (first | (with_reducible first | exact HB.out | apply below_alloc | apply pw_below_drewN | apply below_drew1 | refine below_set ?_ GE269.out) | exact HB.out)))); (case aL => have := LMc23.out; omega); intro v274 w25 ho hb hg hat; rw [← Ny273.out] at ho; have n0_ := Aside0.mk (blk_grown (g := gb269) (o := .cells #[.int .u8 a0_0, .int .i64 a0_1, .int .u8 a0_2, .slice A0_3 l0_3.length c0_3, .int .i64 a0_4, .bool a0_5] 25 (0, 0)) (by (with_reducible repeat (first | refine blk_drewN ?_ _ | refine blk_drew ?_ | refine blk_alloc ?_ _)); exact BK269.out) hg (Kd.R_ne HO_3.out BK269.out (by decide))); have n1_ := Aside0.mk (hb); have n2_ := Aside0.mk (ho); clear BK269; clear HB; clear HO_3; have BK269 := n0_; have HB := n1_; have HO275 := n2_; clear n0_ n1_ n2_; clear ho hb hg hat))
                    go_meet
                    case rel => exact ⟨_, (y273), H', ⟨by have := HJ1.out; have := HJ19.out; first | omega | exact Nat.le_refl _⟩, ⟨by (with_reducible repeat (first | apply Kd.R_alloc | apply Kd.R_drewN | apply Kd.R_drew)); exact HO275.out⟩, ⟨by (with_reducible repeat (first | refine blk_drewN ?_ _ | refine blk_drew ?_ | refine blk_alloc ?_ _)); exact BK269.out⟩, ⟨by repeat (first | (with_reducible first | exact HB.out | apply below_alloc | apply pw_below_drewN | apply below_drew1 | refine below_set ?_ GE269.out) | exact HB.out)⟩⟩
                  · rw [if_neg c23] at H
                    exact absurd H (by simp)
                · replace c22 := Bool.eq_false_iff.mpr c22
                  subst c22
                  have H1 : (if a0_0 = 39 then ((some (([a0_0, a0_2] : List Int) : List Int)).bind fun y276 => (if ([] : List Int).length + y276.length < 140737488355328 then (quoinref23_Spell.j3 kj19 (([] : List Int) ++ y276) a0_0 a0_1 a0_2 l0_3 a0_4 a0_5) else (none))) else (if a0_0 = 47 then (quoinref23_Spell.j2 kj19 ([] : List Int) a0_0 (a0_0 == 47) a0_0 a0_1 a0_2 l0_3 a0_4 a0_5) else (quoinref23_Spell.j2 kj19 ([] : List Int) a0_0 (a0_0 == 63) a0_0 a0_1 a0_2 l0_3 a0_4 a0_5))) = some r := by rw [if_neg (show ¬ (false = true) by decide)] at H; exact H
                  clear H
                  have H := H1
                  clear H1
                  by_cases c26 : a0_0 = 39
                  · rw [if_pos c26] at H
                    have c26b0 : (a0_0 == 39) = true := beq_iff_eq.mpr c26
                    have c26b1 : (a0_0 != 39) = false := bne_eq_false_iff_eq.mpr c26
                    clear c26
                    obtain ⟨y276, hy276⟩ : ∃ y_ : List Int, y_ = (([a0_0, a0_2] : List Int)) := ⟨_, rfl⟩
                    replace H : (if ([] : List Int).length + y276.length < 140737488355328 then (quoinref23_Spell.j3 kj19 (([] : List Int) ++ y276) a0_0 a0_1 a0_2 l0_3 a0_4 a0_5) else (none)) = some r := by first | (rw [hy276]; with_reducible exact H) | (have H2_ := (Option.bind_some _ _).symm.trans H; rw [hy276]; with_reducible exact H2_) | (have H2_ := (Option.bind_some _ _).symm.trans H; with_reducible exact H2_) | with_reducible exact H | (rw [hy276]; exact H) | exact H
                    have Ny276 := Aside0.mk hy276
                    clear hy276
                    by_cases c27 : ([] : List Int).length + y276.length < 140737488355328
                    · rw [if_pos c27] at H
                      have LMc27 := Aside0.mk c27
                      clear c27
                      obtain ⟨y279, hy279⟩ : ∃ y_ : List Int, y_ = (([] : List Int) ++ y276) := ⟨_, rfl⟩
                      replace H : (quoinref23_Spell.j3 kj19 y279 a0_0 a0_1 a0_2 l0_3 a0_4 a0_5) = some r := by first | (rw [hy279]; with_reducible exact H) | (have H2_ := (Option.bind_some _ _).symm.trans H; rw [hy279]; with_reducible exact H2_) | (have H2_ := (Option.bind_some _ _).symm.trans H; with_reducible exact H2_) | with_reducible exact H | (rw [hy279]; exact H) | exact H
                      have Ny279 := Aside0.mk hy279
                      clear hy279
                      have H' := Aside0.mk H
                      clear H
                      have hcz28_0 : wc.cell? ⟨gb269, 0, none⟩ = some (.int .u8 a0_0) := (blk_cell BK269.out 0).trans rfl
                      have hcz28_1 : wc.cell? ⟨gb269, 1, none⟩ = some (.int .i64 a0_1) := (blk_cell BK269.out 1).trans rfl
                      have hcz28_2 : wc.cell? ⟨gb269, 2, none⟩ = some (.int .u8 a0_2) := (blk_cell BK269.out 2).trans rfl
                      have hcz28_3 : wc.cell? ⟨gb269, 3, none⟩ = some (.slice A0_3 l0_3.length c0_3) := (blk_cell BK269.out 3).trans rfl
                      have hcz28_4 : wc.cell? ⟨gb269, 4, none⟩ = some (.int .i64 a0_4) := (blk_cell BK269.out 4).trans rfl
                      have hcz28_5 : wc.cell? ⟨gb269, 5, none⟩ = some (.bool a0_5) := (blk_cell BK269.out 5).trans rfl
                      have hfz28_0 := blk_frozen BK269.out 0
                      have hfz28_1 := blk_frozen BK269.out 1
                      have hfz28_2 := blk_frozen BK269.out 2
                      have hfz28_3 := blk_frozen BK269.out 3
                      have hfz28_4 := blk_frozen BK269.out 4
                      have hfz28_5 := blk_frozen BK269.out 5
                      go_wp2_with (first | ((with_reducible refine gate_dst (N := 47) rfl ?_); refine Kd.R_lit (Kd.int .u8) _ 5 ?hg (N := 47) ?hd (xs := ([a0_0, a0_2] : List Int)) (inner := [.int .u8 a0_0, .int .u8 a0_2]) (ok := fun _ => True) (okp := fun _ => True) ?hr ?hp (fun _ hk => hk) trivial (Below.refl _ _) (Nat.le_refl _) (by simp) ?_; (case hd => rfl); (case hg => rfl); (case hr => first | (go_simp; done) | (go_simp; rfl)); (case hp => exact (Reps.one (show Kd.M (Kd.int .u8) _ _ _ a0_0 [.int .u8 a0_0] from rfl) (Reps.one (show Kd.M (Kd.int .u8) _ _ _ a0_2 [.int .u8 a0_2] from rfl) (Reps.none _ _)))); intro v277 w29 ho30 hb hg_ hnew_; clear hg_ hnew_; (first | rw [← Ny276.out] at ho30 | (simp only [Int.reduceToNat] at ho30; rw [← Ny276.out] at ho30)); have n0_ := Aside0.mk (Kd.R_elder' (by (with_reducible repeat (first | apply Kd.R_alloc | apply Kd.R_drewN | apply Kd.R_drew)); exact HO_3.out) (Kd.R_base ho30) hb); have n1_ := Aside0.mk (Kd.R_lower (Kd.R_new' ho30 (Kd.R_lt (by (with_reducible repeat (first | apply Kd.R_alloc | apply Kd.R_drewN | apply Kd.R_drew)); exact HO_3.out))) (below_size (by repeat (first | (with_reducible first | exact HB.out | apply below_alloc | apply pw_below_drewN | apply below_drew1 | refine below_set ?_ GE269.out) | exact HB.out)))); have n2_ := Aside0.mk (blk_below (g := gb269) (o := .cells #[.int .u8 a0_0, .int .i64 a0_1, .int .u8 a0_2, .slice A0_3 l0_3.length c0_3, .int .i64 a0_4, .bool a0_5] 25 (0, 0)) (by (with_reducible repeat (first | refine blk_drewN ?_ _ | refine blk_drew ?_ | refine blk_alloc ?_ _)); exact BK269.out) hb); have n3_ := Aside0.mk (below_step (by repeat (first | (with_reducible first | exact HB.out | apply below_alloc | apply pw_below_drewN | apply below_drew1 | refine below_set ?_ GE269.out) | exact HB.out)) hb); clear HO_3; clear BK269; clear HB; have HO_3 := n0_; have HO278 := n1_; have BK269 := n2_; have HB := n3_; clear n0_ n1_ n2_ n3_; clear hb ho30; obtain ⟨Ao32, co32, eo32⟩ := Kd.R_slice HO278.out; subst eo32) | ((with_reducible refine gate_builtin (b := .append) (xs := #[.tmp 42, .tmp 47]) rfl ?_); at_builtin; refine Kd.R_append_rows (Kd.int .u8) (w0 := w) w.heap.size rfl (.tmp 42) (.tmp 47) 22 5 (.int .u8 0) 1 rfl Tryd.underlying22 info5 rfl (by decide) (by omega) (.slice none 0 0) ([] : List Int) y276 _ _ _ (fun k_ => some k_ ≠ (.slice Ao32 y276.length co32 : Value).ownBlock) (fun _ => False) rfl rfl ?aO ?aR (fun _ _ h => h) (fun _ h => h.elim) ?aF ?aB ?aS ?aL ?_; (case aR => repeat (first | exact (Kd.R_reads' HO278.out).2.2 | (with_reducible refine Kd.C_alloc ?_ _) | (with_reducible refine Kd.C_drewN ?_ _) | (with_reducible refine Kd.C_drew ?_))); (case aB => exact (by repeat (first | (with_reducible first | exact HB.out | apply below_alloc | apply pw_below_drewN | apply below_drew1 | refine below_set ?_ GE269.out) | exact HB.out))); (case aF => exact (fun k_ hk => Kd.fresh' (Kd.R_lt (by (with_reducible repeat (first | apply Kd.R_alloc | apply Kd.R_drewN | apply Kd.R_drew)); exact HO278.out)) k_ hk)); (case aO => exact (by (with_reducible repeat (first | apply Kd.R_alloc | apply Kd.R_drewN | apply Kd.R_drew)); exact Kd.R_mono HO_3.out (fun _ hk => hk.2))); (case aS => exact (below_size (by repeat (first | (with_reducible first | exact HB.out | apply below_alloc | apply pw_below_drewN | apply below_drew1 | refine below_set ?_ GE269.out) | exact HB.out)))); (case aL => have := LMc27.out; omega); intro v280 w31 ho hb hg hat; rw [← Ny279.out] at ho; have n0_ := Aside0.mk (blk_grown (g := gb269) (o := .cells #[.int .u8 a0_0, .int .i64 a0_1, .int .u8 a0_2, .slice A0_3 l0_3.length c0_3, .int .i64 a0_4, .bool a0_5] 25 (0, 0)) (by (with_reducible repeat (first | refine blk_drewN ?_ _ | refine blk_drew ?_ | refine blk_alloc ?_ _)); exact BK269.out) hg (Kd.R_ne HO_3.out BK269.out (by decide))); have n1_ := Aside0.mk (Kd.R_after (ok := (fun _ => True)) (by (with_reducible repeat (first | apply Kd.R_alloc | apply Kd.R_drewN | apply Kd.R_drew)); exact HO278.out) hg hat); have n2_ := Aside0.mk (hb); have n3_ := Aside0.mk (ho); clear BK269; clear HO278; clear HB; clear HO_3; have BK269 := n0_; have HO278 := n1_; have HB := n2_; have HO281 := n3_; clear n0_ n1_ n2_ n3_; clear ho hb hg hat))
                      go_meet
                      case rel => exact ⟨_, (y279), H', ⟨by have := HJ1.out; have := HJ19.out; first | omega | exact Nat.le_refl _⟩, ⟨by (with_reducible repeat (first | apply Kd.R_alloc | apply Kd.R_drewN | apply Kd.R_drew)); exact Kd.R_mono HO281.out (fun _ hk => trivial)⟩, ⟨by (with_reducible repeat (first | refine blk_drewN ?_ _ | refine blk_drew ?_ | refine blk_alloc ?_ _)); exact BK269.out⟩, ⟨by repeat (first | (with_reducible first | exact HB.out | apply below_alloc | apply pw_below_drewN | apply below_drew1 | refine below_set ?_ GE269.out) | exact HB.out)⟩⟩
                    · rw [if_neg c27] at H
                      exact absurd H (by simp)
                  · rw [if_neg c26] at H
                    have c26b0 : (a0_0 == 39) = false := beq_eq_false_iff_ne.mpr c26
                    have c26b1 : (a0_0 != 39) = true := bne_iff_ne.mpr c26
                    have HC33 := Aside0.mk H
                    clear H
                    go_upto_if 49 with (fail)
                    go_cut [49] (fun v49 wc => ∃ (kq : Nat) (x49_32 : Bool), v49 = .bool x49_32 ∧ Aside0 (quoinref23_Spell.j2 kq ([] : List Int) a0_0 x49_32 a0_0 a0_1 a0_2 l0_3 a0_4 a0_5 = some r) ∧ Aside0 (kq ≤ kj19) ∧ Aside0 (Kd.R (Kd.int .u8) 5 wc w.heap.size (fun _ => True) (.slice none 0 0) ([] : List Int)) ∧ Aside0 (wc.heap[gb269]? = some (.cells #[.int .u8 a0_0, .int .i64 a0_1, .int .u8 a0_2, (.slice A0_3 l0_3.length c0_3), .int .i64 a0_4, .bool a0_5] 25 (0, 0))) ∧ Aside0 (Below w.heap.size w wc))
                    case first =>
                      have H := HC33.out
                      clear HC33
                      by_cases c34 : a0_0 = 47
                      · rw [if_pos c34] at H
                        have c34b0 : (a0_0 == 47) = true := beq_iff_eq.mpr c34
                        have c34b1 : (a0_0 != 47) = false := bne_eq_false_iff_eq.mpr c34
                        clear c34
                        (first | rw [c34b0] | (simp only [i64_w, i32_w]; rw [c34b0]) | skip)
                        have H' := Aside0.mk H
                        clear H
                        go_wp2
                        go_meet
                        case rel => exact ⟨_, ((a0_0 == 47)), (by first | rfl | (simp; done) | (simp [*]; done)), H', ⟨by have := HJ1.out; have := HJ19.out; first | omega | exact Nat.le_refl _⟩, ⟨by (with_reducible repeat (first | apply Kd.R_alloc | apply Kd.R_drewN | apply Kd.R_drew)); exact HO_3.out⟩, ⟨by (with_reducible repeat (first | refine blk_drewN ?_ _ | refine blk_drew ?_ | refine blk_alloc ?_ _)); exact BK269.out⟩, ⟨by repeat (first | (with_reducible first | exact HB.out | apply below_alloc | apply pw_below_drewN | apply below_drew1 | refine below_set ?_ GE269.out) | exact HB.out)⟩⟩
                      · rw [if_neg c34] at H
                        have c34b0 : (a0_0 == 47) = false := beq_eq_false_iff_ne.mpr c34
                        have c34b1 : (a0_0 != 47) = true := bne_iff_ne.mpr c34
                        (first | rw [c34b0] | (simp only [i64_w, i32_w]; rw [c34b0]) | skip)
                        have H' := Aside0.mk H
                        clear H
                        go_wp2
                        go_meet
                        case rel => exact ⟨_, ((a0_0 == 63)), (by first | rfl | (simp; done) | (simp [*]; done)), H', ⟨by have := HJ1.out; have := HJ19.out; first | omega | exact Nat.le_refl _⟩, ⟨by (with_reducible repeat (first | apply Kd.R_alloc | apply Kd.R_drewN | apply Kd.R_drew)); exact HO_3.out⟩, ⟨by (with_reducible repeat (first | refine blk_drewN ?_ _ | refine blk_drew ?_ | refine blk_alloc ?_ _)); exact BK269.out⟩, ⟨by repeat (first | (with_reducible first | exact HB.out | apply below_alloc | apply pw_below_drewN | apply below_drew1 | refine below_set ?_ GE269.out) | exact HB.out)⟩⟩
                    case rest =>
                      clear HC33
                      try clear c1
                      try clear c2
                      try clear p2
                      try clear c3
                      try clear c4
                      try clear c5
                      try clear c5b0
                      try clear c9
                      try clear c12
                      try clear c12b0
                      try clear c12b1
                      try clear c13
                      try clear c13b0
                      try clear c14
                      try clear c15
                      try clear c15b0
                      try clear c21
                      try clear c21b0
                      try clear c21b1
                      try clear c22
                      try clear c23
                      try clear c26
                      try clear c26b0
                      try clear c26b1
                      try clear c27
                      try clear c34
                      try clear c34b0
                      try clear c34b1
                      try clear hcz11_0
                      try clear hcz11_1
                      try clear hcz11_2
                      try clear hcz11_3
                      try clear hcz11_4
                      try clear hcz11_5
                      try clear hcz14_0
                      try clear hcz14_1
                      try clear hcz14_2
                      try clear hcz14_3
                      try clear hcz14_4
                      try clear hcz14_5
                      try clear hcz16_0
                      try clear hcz16_1
                      try clear hcz16_2
                      try clear hcz16_3
                      try clear hcz16_4
                      try clear hcz16_5
                      try clear hcz18_0
                      try clear hcz18_1
                      try clear hcz18_2
                      try clear hcz18_3
                      try clear hcz18_4
                      try clear hcz18_5
                      try clear hcz24_0
                      try clear hcz24_1
                      try clear hcz24_2
                      try clear hcz24_3
                      try clear hcz24_4
                      try clear hcz24_5
                      try clear hcz28_0
                      try clear hcz28_1
                      try clear hcz28_2
                      try clear hcz28_3
                      try clear hcz28_4
                      try clear hcz28_5
                      try clear hcz6_0
                      try clear hcz6_1
                      try clear hcz6_2
                      try clear hcz6_3
                      try clear hcz6_4
                      try clear hcz6_5
                      try clear hcz7_0
                      try clear hcz7_1
                      try clear hcz7_2
                      try clear hcz7_3
                      try clear hcz7_4
                      try clear hcz7_5
                      try clear hcz8_0
                      try clear hcz8_1
                      try clear hcz8_2
                      try clear hcz8_3
                      try clear hcz8_4
                      try clear hcz8_5
                      try clear hfz11_0
                      try clear hfz11_1
                      try clear hfz11_2
                      try clear hfz11_3
                      try clear hfz11_4
                      try clear hfz11_5
                      try clear hfz14_0
                      try clear hfz14_1
                      try clear hfz14_2
                      try clear hfz14_3
                      try clear hfz14_4
                      try clear hfz14_5
                      try clear hfz16_0
                      try clear hfz16_1
                      try clear hfz16_2
                      try clear hfz16_3
                      try clear hfz16_4
                      try clear hfz16_5
                      try clear hfz18_0
                      try clear hfz18_1
                      try clear hfz18_2
                      try clear hfz18_3
                      try clear hfz18_4
                      try clear hfz18_5
                      try clear hfz24_0
                      try clear hfz24_1
                      try clear hfz24_2
                      try clear hfz24_3
                      try clear hfz24_4
                      try clear hfz24_5
                      try clear hfz28_0
                      try clear hfz28_1
                      try clear hfz28_2
                      try clear hfz28_3
                      try clear hfz28_4
                      try clear hfz28_5
                      try clear hfz6_0
                      try clear hfz6_1
                      try clear hfz6_2
                      try clear hfz6_3
                      try clear hfz6_4
                      try clear hfz6_5
                      try clear hfz7_0
                      try clear hfz7_1
                      try clear hfz7_2
                      try clear hfz7_3
                      try clear hfz7_4
                      try clear hfz7_5
                      try clear hfz8_0
                      try clear hfz8_1
                      try clear hfz8_2
                      try clear hfz8_3
                      try clear hfz8_4
                      try clear hfz8_5
                      try clear p2
                      obtain ⟨kq, x49_32, rfl, HA, HJ32, HO_3, BK269, HB⟩ := hcut
                      cases kq with
                      | zero => exact absurd HA.out (by simp [quoinref23_Spell.j2])
                      | succ kj32 =>
                        have H := HA.out
                        clear HA
                        simp only [quoinref23_Spell.j2] at H
                        by_cases c35 : x49_32 = true
                        · subst c35
                          have H1 : ((quoinref23_whole.f kj32 l0_3 a0_0).bind fun t282 => (if t282 = true then (if ([] : List Int).length < 140737488355328 then ((some (([] : List Int) ++ [a0_0] : List Int)).bind fun y283 => (if y283.length + l0_3.length < 140737488355328 then ((some (y283 ++ l0_3 : List Int)).bind fun y286 => (if y286.length < 140737488355328 then (quoinref23_Spell.j3 kj32 (y286 ++ [a0_0]) a0_0 a0_1 a0_2 l0_3 a0_4 a0_5) else (none))) else (none))) else (none)) else (some ([] : List Int)))) = some r := by rw [if_pos rfl] at H; exact H
                          clear H
                          have H := H1
                          clear H1
                          replace H := Option.bind_eq_some_iff.mp H
                          obtain ⟨t282, A360, H⟩ := H
                          replace H : (if t282 = true then (if ([] : List Int).length < 140737488355328 then ((some (([] : List Int) ++ [a0_0] : List Int)).bind fun y283 => (if y283.length + l0_3.length < 140737488355328 then ((some (y283 ++ l0_3 : List Int)).bind fun y286 => (if y286.length < 140737488355328 then (quoinref23_Spell.j3 kj32 (y286 ++ [a0_0]) a0_0 a0_1 a0_2 l0_3 a0_4 a0_5) else (none))) else (none))) else (none)) else (some ([] : List Int))) = some r := H
                          have A36 := Aside0.mk A360
                          clear A360
                          by_cases c37 : t282 = true
                          · subst c37
                            have H1 : (if ([] : List Int).length < 140737488355328 then ((some (([] : List Int) ++ [a0_0] : List Int)).bind fun y283 => (if y283.length + l0_3.length < 140737488355328 then ((some (y283 ++ l0_3 : List Int)).bind fun y286 => (if y286.length < 140737488355328 then (quoinref23_Spell.j3 kj32 (y286 ++ [a0_0]) a0_0 a0_1 a0_2 l0_3 a0_4 a0_5) else (none))) else (none))) else (none)) = some r := by rw [if_pos rfl] at H; exact H
                            clear H
                            have H := H1
                            clear H1
                            by_cases c38 : ([] : List Int).length < 140737488355328
                            · rw [if_pos c38] at H
                              have LMc38 := Aside0.mk c38
                              clear c38
                              obtain ⟨y283, hy283⟩ : ∃ y_ : List Int, y_ = (([] : List Int) ++ [a0_0]) := ⟨_, rfl⟩
                              replace H : (if y283.length + l0_3.length < 140737488355328 then ((some (y283 ++ l0_3 : List Int)).bind fun y286 => (if y286.length < 140737488355328 then (quoinref23_Spell.j3 kj32 (y286 ++ [a0_0]) a0_0 a0_1 a0_2 l0_3 a0_4 a0_5) else (none))) else (none)) = some r := by first | (rw [hy283]; with_reducible exact H) | (have H2_ := (Option.bind_some _ _).symm.trans H; rw [hy283]; with_reducible exact H2_) | (have H2_ := (Option.bind_some _ _).symm.trans H; with_reducible exact H2_) | with_reducible exact H | (rw [hy283]; exact H) | exact H
                              have Ny283 := Aside0.mk hy283
                              clear hy283
                              by_cases c39 : y283.length + l0_3.length < 140737488355328
                              · rw [if_pos c39] at H
                                have LMc39 := Aside0.mk c39
                                clear c39
                                obtain ⟨y286, hy286⟩ : ∃ y_ : List Int, y_ = (y283 ++ l0_3) := ⟨_, rfl⟩
                                replace H : (if y286.length < 140737488355328 then (quoinref23_Spell.j3 kj32 (y286 ++ [a0_0]) a0_0 a0_1 a0_2 l0_3 a0_4 a0_5) else (none)) = some r := by first | (rw [hy286]; with_reducible exact H) | (have H2_ := (Option.bind_some _ _).symm.trans H; rw [hy286]; with_reducible exact H2_) | (have H2_ := (Option.bind_some _ _).symm.trans H; with_reducible exact H2_) | with_reducible exact H | (rw [hy286]; exact H) | exact H
                                have Ny286 := Aside0.mk hy286
                                clear hy286
                                by_cases c40 : y286.length < 140737488355328
                                · rw [if_pos c40] at H
                                  have LMc40 := Aside0.mk c40
                                  clear c40
                                  obtain ⟨y289, hy289⟩ : ∃ y_ : List Int, y_ = (y286 ++ [a0_0]) := ⟨_, rfl⟩
                                  replace H : (quoinref23_Spell.j3 kj32 y289 a0_0 a0_1 a0_2 l0_3 a0_4 a0_5) = some r := by first | (rw [hy289]; with_reducible exact H) | (have H2_ := (Option.bind_some _ _).symm.trans H; rw [hy289]; with_reducible exact H2_) | (have H2_ := (Option.bind_some _ _).symm.trans H; with_reducible exact H2_) | with_reducible exact H | (rw [hy289]; exact H) | exact H
                                  have Ny289 := Aside0.mk hy289
                                  clear hy289
                                  have H' := Aside0.mk H
                                  clear H
                                  have hcz41_0 : wc.cell? ⟨gb269, 0, none⟩ = some (.int .u8 a0_0) := (blk_cell BK269.out 0).trans rfl
                                  have hcz41_1 : wc.cell? ⟨gb269, 1, none⟩ = some (.int .i64 a0_1) := (blk_cell BK269.out 1).trans rfl
                                  have hcz41_2 : wc.cell? ⟨gb269, 2, none⟩ = some (.int .u8 a0_2) := (blk_cell BK269.out 2).trans rfl
                                  have hcz41_3 : wc.cell? ⟨gb269, 3, none⟩ = some (.slice A0_3 l0_3.length c0_3) := (blk_cell BK269.out 3).trans rfl
                                  have hcz41_4 : wc.cell? ⟨gb269, 4, none⟩ = some (.int .i64 a0_4) := (blk_cell BK269.out 4).trans rfl
                                  have hcz41_5 : wc.cell? ⟨gb269, 5, none⟩ = some (.bool a0_5) := (blk_cell BK269.out 5).trans rfl
                                  have hfz41_0 := blk_frozen BK269.out 0
                                  have hfz41_1 := blk_frozen BK269.out 1
                                  have hfz41_2 := blk_frozen BK269.out 2
                                  have hfz41_3 := blk_frozen BK269.out 3
                                  have hfz41_4 := blk_frozen BK269.out 4
                                  have hfz41_5 := blk_frozen BK269.out 5
                                  go_wp2_with (first | ((with_reducible refine gate_callee (f := 24) rfl ?_); refine goesL_ (some 56) rfl rfl Tryd.func24 (by kernel_rfl) rfl #[.slice A0_3 l0_3.length c0_3, .int .u8 a0_0] rfl (by (try simp only [List.map_toArray, List.map_cons, List.map_nil]); first | done | rfl | (simp only [List.length_drop, List.length_take]; rfl)) ?_; (with_reducible refine (quoinref23_whole.calls kj32 _ _ l0_3 a0_0 true _ ?side1 ?side2 A36.out).mono ?_); (case side1 => repeat (first | exact (Kd.C_below HR0_3.out HB.out) | (with_reducible refine Kd.C_alloc ?_ _) | (with_reducible refine Kd.C_drewN ?_ _) | (with_reducible refine Kd.C_drew ?_))); (case side2 => exact HC0_3.out); rintro e w' ⟨rfl, ⟨nd, rfl⟩⟩; refine ⟨_, rfl, ?_⟩) | ((with_reducible refine gate_builtin (b := .append) (xs := #[.tmp 58, .tmp 61]) rfl ?_); at_builtin; refine Kd.R_append (Kd.int .u8) (w0 := w) w.heap.size rfl (.tmp 58) (.tmp 61) 22 5 (.int .u8 0) 1 rfl Tryd.underlying22 info5 rfl (by decide) (by omega) (.slice none 0 0) ([] : List Int) a0_0 [.int .u8 a0_0] (fun _ => True) (fun _ => False) rfl rfl ?aP (fun _ hk => hk.elim) ?aF ?aO ?aB ?aS ?aL ?_; (case aP => exact rfl); (case aB => exact (by repeat (first | (with_reducible first | exact HB.out | apply below_alloc | apply pw_below_drewN | apply below_drew1 | refine below_set ?_ GE269.out) | exact HB.out))); (case aF => exact (fun _ _ => trivial)); (case aO => exact (by (with_reducible repeat (first | apply Kd.R_alloc | apply Kd.R_drewN | apply Kd.R_drew)); exact HO_3.out)); (case aS => exact (below_size (by repeat (first | (with_reducible first | exact HB.out | apply below_alloc | apply pw_below_drewN | apply below_drew1 | refine below_set ?_ GE269.out) | exact HB.out)))); (case aL => have := LMc38.out; omega); intro v284 w42 ho hb hg hat; rw [← Ny283.out] at ho; have n0_ := Aside0.mk (blk_grown (g := gb269) (o := .cells #[.int .u8 a0_0, .int .i64 a0_1, .int .u8 a0_2, .slice A0_3 l0_3.length c0_3, .int .i64 a0_4, .bool a0_5] 25 (0, 0)) (by (with_reducible repeat (first | refine blk_drewN ?_ _ | refine blk_drew ?_ | refine blk_alloc ?_ _)); exact BK269.out) hg (Kd.R_ne HO_3.out BK269.out (by decide))); have n1_ := Aside0.mk (hb); have n2_ := Aside0.mk (ho); clear BK269; clear HB; clear HO_3; have BK269 := n0_; have HB := n1_; have HO285 := n2_; clear n0_ n1_ n2_; clear ho hb hg hat; have hcz43_0 : w42.cell? ⟨gb269, 0, none⟩ = some (.int .u8 a0_0) := (blk_cell BK269.out 0).trans rfl; have hcz43_1 : w42.cell? ⟨gb269, 1, none⟩ = some (.int .i64 a0_1) := (blk_cell BK269.out 1).trans rfl; have hcz43_2 : w42.cell? ⟨gb269, 2, none⟩ = some (.int .u8 a0_2) := (blk_cell BK269.out 2).trans rfl; have hcz43_3 : w42.cell? ⟨gb269, 3, none⟩ = some (.slice A0_3 l0_3.length c0_3) := (blk_cell BK269.out 3).trans rfl; have hcz43_4 : w42.cell? ⟨gb269, 4, none⟩ = some (.int .i64 a0_4) := (blk_cell BK269.out 4).trans rfl; have hcz43_5 : w42.cell? ⟨gb269, 5, none⟩ = some (.bool a0_5) := (blk_cell BK269.out 5).trans rfl; have hfz43_0 := blk_frozen BK269.out 0; have hfz43_1 := blk_frozen BK269.out 1; have hfz43_2 := blk_frozen BK269.out 2; have hfz43_3 := blk_frozen BK269.out 3; have hfz43_4 := blk_frozen BK269.out 4; have hfz43_5 := blk_frozen BK269.out 5) | ((with_reducible refine gate_builtin (b := .append) (xs := #[.tmp 63, .tmp 65]) rfl ?_); at_builtin; refine Kd.R_append_rows (Kd.int .u8) (w0 := w) w.heap.size rfl (.tmp 63) (.tmp 65) 22 5 (.int .u8 0) 1 rfl Tryd.underlying22 info5 rfl (by decide) (by omega) v284 y283 l0_3 _ _ _ (fun _ => True) (fun _ => False) rfl rfl ?aO ?aR (fun _ _ h => h) (fun _ h => h.elim) ?aF ?aB ?aS ?aL ?_; (case aR => repeat (first | exact (Kd.C_below HR0_3.out HB.out) | (with_reducible refine Kd.C_alloc ?_ _) | (with_reducible refine Kd.C_drewN ?_ _) | (with_reducible refine Kd.C_drew ?_))); (case aB => exact (by repeat (first | (with_reducible first | exact HB.out | apply below_alloc | apply pw_below_drewN | apply below_drew1 | refine below_set ?_ GE269.out) | exact HB.out))); (case aF => exact (fun _ _ => trivial)); (case aO => exact (by (with_reducible repeat (first | apply Kd.R_alloc | apply Kd.R_drewN | apply Kd.R_drew)); exact HO285.out)); (case aS => exact (below_size (by repeat (first | (with_reducible first | exact HB.out | apply below_alloc | apply pw_below_drewN | apply below_drew1 | refine below_set ?_ GE269.out) | exact HB.out)))); (case aL => have := LMc39.out; omega); intro v287 w44 ho hb hg hat; rw [← Ny286.out] at ho; have n0_ := Aside0.mk (blk_grown (g := gb269) (o := .cells #[.int .u8 a0_0, .int .i64 a0_1, .int .u8 a0_2, .slice A0_3 l0_3.length c0_3, .int .i64 a0_4, .bool a0_5] 25 (0, 0)) (by (with_reducible repeat (first | refine blk_drewN ?_ _ | refine blk_drew ?_ | refine blk_alloc ?_ _)); exact BK269.out) hg (Kd.R_ne HO285.out BK269.out (by decide))); have n1_ := Aside0.mk (hb); have n2_ := Aside0.mk (ho); clear BK269; clear HB; clear HO285; have BK269 := n0_; have HB := n1_; have HO288 := n2_; clear n0_ n1_ n2_; clear ho hb hg hat; have hcz45_0 : w44.cell? ⟨gb269, 0, none⟩ = some (.int .u8 a0_0) := (blk_cell BK269.out 0).trans rfl; have hcz45_1 : w44.cell? ⟨gb269, 1, none⟩ = some (.int .i64 a0_1) := (blk_cell BK269.out 1).trans rfl; have hcz45_2 : w44.cell? ⟨gb269, 2, none⟩ = some (.int .u8 a0_2) := (blk_cell BK269.out 2).trans rfl; have hcz45_3 : w44.cell? ⟨gb269, 3, none⟩ = some (.slice A0_3 l0_3.length c0_3) := (blk_cell BK269.out 3).trans rfl; have hcz45_4 : w44.cell? ⟨gb269, 4, none⟩ = some (.int .i64 a0_4) := (blk_cell BK269.out 4).trans rfl; have hcz45_5 : w44.cell? ⟨gb269, 5, none⟩ = some (.bool a0_5) := (blk_cell BK269.out 5).trans rfl; have hfz45_0 := blk_frozen BK269.out 0; have hfz45_1 := blk_frozen BK269.out 1; have hfz45_2 := blk_frozen BK269.out 2; have hfz45_3 := blk_frozen BK269.out 3; have hfz45_4 := blk_frozen BK269.out 4; have hfz45_5 := blk_frozen BK269.out 5) | ((with_reducible refine gate_builtin (b := .append) (xs := #[.tmp 67, .tmp 70]) rfl ?_); at_builtin; refine Kd.R_append (Kd.int .u8) (w0 := w) w.heap.size rfl (.tmp 67) (.tmp 70) 22 5 (.int .u8 0) 1 rfl Tryd.underlying22 info5 rfl (by decide) (by omega) v287 y286 a0_0 [.int .u8 a0_0] (fun _ => True) (fun _ => False) rfl rfl ?aP (fun _ hk => hk.elim) ?aF ?aO ?aB ?aS ?aL ?_; (case aP => exact rfl); (case aB => exact (by repeat (first | (with_reducible first | exact HB.out | apply below_alloc | apply pw_below_drewN | apply below_drew1 | refine below_set ?_ GE269.out) | exact HB.out))); (case aF => exact (fun _ _ => trivial)); (case aO => exact (by (with_reducible repeat (first | apply Kd.R_alloc | apply Kd.R_drewN | apply Kd.R_drew)); exact HO288.out)); (case aS => exact (below_size (by repeat (first | (with_reducible first | exact HB.out | apply below_alloc | apply pw_below_drewN | apply below_drew1 | refine below_set ?_ GE269.out) | exact HB.out)))); (case aL => have := LMc40.out; omega); intro v290 w46 ho hb hg hat; rw [← Ny289.out] at ho; have n0_ := Aside0.mk (blk_grown (g := gb269) (o := .cells #[.int .u8 a0_0, .int .i64 a0_1, .int .u8 a0_2, .slice A0_3 l0_3.length c0_3, .int .i64 a0_4, .bool a0_5] 25 (0, 0)) (by (with_reducible repeat (first | refine blk_drewN ?_ _ | refine blk_drew ?_ | refine blk_alloc ?_ _)); exact BK269.out) hg (Kd.R_ne HO288.out BK269.out (by decide))); have n1_ := Aside0.mk (hb); have n2_ := Aside0.mk (ho); clear BK269; clear HB; clear HO288; have BK269 := n0_; have HB := n1_; have HO291 := n2_; clear n0_ n1_ n2_; clear ho hb hg hat))
                                  go_meet
                                  case rel => exact ⟨_, (y289), H', ⟨by have := HJ1.out; have := HJ19.out; have := HJ32.out; first | omega | exact Nat.le_refl _⟩, ⟨by (with_reducible repeat (first | apply Kd.R_alloc | apply Kd.R_drewN | apply Kd.R_drew)); exact HO291.out⟩, ⟨by (with_reducible repeat (first | refine blk_drewN ?_ _ | refine blk_drew ?_ | refine blk_alloc ?_ _)); exact BK269.out⟩, ⟨by repeat (first | (with_reducible first | exact HB.out | apply below_alloc | apply pw_below_drewN | apply below_drew1 | refine below_set ?_ GE269.out) | exact HB.out)⟩⟩
                                · rw [if_neg c40] at H
                                  exact absurd H (by simp)
                              · rw [if_neg c39] at H
                                exact absurd H (by simp)
                            · rw [if_neg c38] at H
                              exact absurd H (by simp)
                          · replace c37 := Bool.eq_false_iff.mpr c37
                            subst c37
                            have H1 : (some ([] : List Int)) = some r := by rw [if_neg (show ¬ (false = true) by decide)] at H; exact H
                            clear H
                            have H := H1
                            clear H1
                            obtain rfl := Option.some.inj H
                            have hcz47_0 : wc.cell? ⟨gb269, 0, none⟩ = some (.int .u8 a0_0) := (blk_cell BK269.out 0).trans rfl
                            have hcz47_1 : wc.cell? ⟨gb269, 1, none⟩ = some (.int .i64 a0_1) := (blk_cell BK269.out 1).trans rfl
                            have hcz47_2 : wc.cell? ⟨gb269, 2, none⟩ = some (.int .u8 a0_2) := (blk_cell BK269.out 2).trans rfl
                            have hcz47_3 : wc.cell? ⟨gb269, 3, none⟩ = some (.slice A0_3 l0_3.length c0_3) := (blk_cell BK269.out 3).trans rfl
                            have hcz47_4 : wc.cell? ⟨gb269, 4, none⟩ = some (.int .i64 a0_4) := (blk_cell BK269.out 4).trans rfl
                            have hcz47_5 : wc.cell? ⟨gb269, 5, none⟩ = some (.bool a0_5) := (blk_cell BK269.out 5).trans rfl
                            have hfz47_0 := blk_frozen BK269.out 0
                            have hfz47_1 := blk_frozen BK269.out 1
                            have hfz47_2 := blk_frozen BK269.out 2
                            have hfz47_3 := blk_frozen BK269.out 3
                            have hfz47_4 := blk_frozen BK269.out 4
                            have hfz47_5 := blk_frozen BK269.out 5
                            go_wp2_with (first | ((with_reducible refine gate_callee (f := 24) rfl ?_); refine goesL_ (some 56) rfl rfl Tryd.func24 (by kernel_rfl) rfl #[.slice A0_3 l0_3.length c0_3, .int .u8 a0_0] rfl (by (try simp only [List.map_toArray, List.map_cons, List.map_nil]); first | done | rfl | (simp only [List.length_drop, List.length_take]; rfl)) ?_; (with_reducible refine (quoinref23_whole.calls kj32 _ _ l0_3 a0_0 false _ ?side1 ?side2 A36.out).mono ?_); (case side1 => repeat (first | exact (Kd.C_below HR0_3.out HB.out) | (with_reducible refine Kd.C_alloc ?_ _) | (with_reducible refine Kd.C_drewN ?_ _) | (with_reducible refine Kd.C_drew ?_))); (case side2 => exact HC0_3.out); rintro e w' ⟨rfl, ⟨nd, rfl⟩⟩; refine ⟨_, rfl, ?_⟩))
                            go_ret
                            exact ⟨_, by first | rfl | (simp [errW_none, errW_some] <;> rfl) | (simp [*, errW_none, errW_some] <;> rfl), by first | exact Kd.R_nil _ _ _ _ _ | exact Kd.N_nil _ _ _ _ _ | exact Kd.V_nil _ _ _ _ _ | exact Kd.Q_nil _ _ _ _ _ | exact Kd.S_nil _ _ _ _ _, by repeat (first | (with_reducible first | exact HB.out | apply below_alloc | apply pw_below_drewN | apply below_drew1 | refine below_set ?_ GE269.out) | exact HB.out)⟩
                        · replace c35 := Bool.eq_false_iff.mpr c35
                          subst c35
                          have H1 : (if a0_0 = 0 then (quoinref23_Spell.j3 kj32 ([] : List Int) a0_0 a0_1 a0_2 l0_3 a0_4 a0_5) else (some ([] : List Int))) = some r := by rw [if_neg (show ¬ (false = true) by decide)] at H; exact H
                          clear H
                          have H := H1
                          clear H1
                          by_cases c48 : a0_0 = 0
                          · rw [if_pos c48] at H
                            have c48b0 : (a0_0 == 0) = true := beq_iff_eq.mpr c48
                            have c48b1 : (a0_0 != 0) = false := bne_eq_false_iff_eq.mpr c48
                            clear c48
                            have H' := Aside0.mk H
                            clear H
                            go_wp2
                            go_meet
                            case rel => exact ⟨_, (([] : List Int)), H', ⟨by have := HJ1.out; have := HJ19.out; have := HJ32.out; first | omega | exact Nat.le_refl _⟩, ⟨by (with_reducible repeat (first | apply Kd.R_alloc | apply Kd.R_drewN | apply Kd.R_drew)); exact HO_3.out⟩, ⟨by (with_reducible repeat (first | refine blk_drewN ?_ _ | refine blk_drew ?_ | refine blk_alloc ?_ _)); exact BK269.out⟩, ⟨by repeat (first | (with_reducible first | exact HB.out | apply below_alloc | apply pw_below_drewN | apply below_drew1 | refine below_set ?_ GE269.out) | exact HB.out)⟩⟩
                          · rw [if_neg c48] at H
                            have c48b0 : (a0_0 == 0) = false := beq_eq_false_iff_ne.mpr c48
                            have c48b1 : (a0_0 != 0) = true := bne_iff_ne.mpr c48
                            obtain rfl := Option.some.inj H
                            go_wp2
                            go_ret
                            exact ⟨_, by first | rfl | (simp [errW_none, errW_some] <;> rfl) | (simp [*, errW_none, errW_some] <;> rfl), by first | exact Kd.R_nil _ _ _ _ _ | exact Kd.N_nil _ _ _ _ _ | exact Kd.V_nil _ _ _ _ _ | exact Kd.Q_nil _ _ _ _ _ | exact Kd.S_nil _ _ _ _ _, by repeat (first | (with_reducible first | exact HB.out | apply below_alloc | apply pw_below_drewN | apply below_drew1 | refine below_set ?_ GE269.out) | exact HB.out)⟩
        case rest =>
          clear HC10
          try clear c1
          try clear c2
          try clear p2
          try clear c3
          try clear c4
          try clear c5
          try clear c5b0
          try clear c9
          try clear c12
          try clear c12b0
          try clear c12b1
          try clear c13
          try clear c13b0
          try clear c14
          try clear c15
          try clear c15b0
          try clear c21
          try clear c21b0
          try clear c21b1
          try clear c22
          try clear c23
          try clear c24
          try clear c26
          try clear c26b0
          try clear c26b1
          try clear c27
          try clear c34
          try clear c34b0
          try clear c34b1
          try clear c35
          try clear c37
          try clear c38
          try clear c39
          try clear c40
          try clear c48
          try clear c48b0
          try clear c48b1
          try clear hcz11_0
          try clear hcz11_1
          try clear hcz11_2
          try clear hcz11_3
          try clear hcz11_4
          try clear hcz11_5
          try clear hcz14_0
          try clear hcz14_1
          try clear hcz14_2
          try clear hcz14_3
          try clear hcz14_4
          try clear hcz14_5
          try clear hcz16_0
          try clear hcz16_1
          try clear hcz16_2
          try clear hcz16_3
          try clear hcz16_4
          try clear hcz16_5
          try clear hcz18_0
          try clear hcz18_1
          try clear hcz18_2
          try clear hcz18_3
          try clear hcz18_4
          try clear hcz18_5
          try clear hcz24_0
          try clear hcz24_1
          try clear hcz24_2
          try clear hcz24_3
          try clear hcz24_4
          try clear hcz24_5
          try clear hcz28_0
          try clear hcz28_1
          try clear hcz28_2
          try clear hcz28_3
          try clear hcz28_4
          try clear hcz28_5
          try clear hcz41_0
          try clear hcz41_1
          try clear hcz41_2
          try clear hcz41_3
          try clear hcz41_4
          try clear hcz41_5
          try clear hcz43_0
          try clear hcz43_1
          try clear hcz43_2
          try clear hcz43_3
          try clear hcz43_4
          try clear hcz43_5
          try clear hcz45_0
          try clear hcz45_1
          try clear hcz45_2
          try clear hcz45_3
          try clear hcz45_4
          try clear hcz45_5
          try clear hcz47_0
          try clear hcz47_1
          try clear hcz47_2
          try clear hcz47_3
          try clear hcz47_4
          try clear hcz47_5
          try clear hcz6_0
          try clear hcz6_1
          try clear hcz6_2
          try clear hcz6_3
          try clear hcz6_4
          try clear hcz6_5
          try clear hcz7_0
          try clear hcz7_1
          try clear hcz7_2
          try clear hcz7_3
          try clear hcz7_4
          try clear hcz7_5
          try clear hcz8_0
          try clear hcz8_1
          try clear hcz8_2
          try clear hcz8_3
          try clear hcz8_4
          try clear hcz8_5
          try clear hfz11_0
          try clear hfz11_1
          try clear hfz11_2
          try clear hfz11_3
          try clear hfz11_4
          try clear hfz11_5
          try clear hfz14_0
          try clear hfz14_1
          try clear hfz14_2
          try clear hfz14_3
          try clear hfz14_4
          try clear hfz14_5
          try clear hfz16_0
          try clear hfz16_1
          try clear hfz16_2
          try clear hfz16_3
          try clear hfz16_4
          try clear hfz16_5
          try clear hfz18_0
          try clear hfz18_1
          try clear hfz18_2
          try clear hfz18_3
          try clear hfz18_4
          try clear hfz18_5
          try clear hfz24_0
          try clear hfz24_1
          try clear hfz24_2
          try clear hfz24_3
          try clear hfz24_4
          try clear hfz24_5
          try clear hfz28_0
          try clear hfz28_1
          try clear hfz28_2
          try clear hfz28_3
          try clear hfz28_4
          try clear hfz28_5
          try clear hfz41_0
          try clear hfz41_1
          try clear hfz41_2
          try clear hfz41_3
          try clear hfz41_4
          try clear hfz41_5
          try clear hfz43_0
          try clear hfz43_1
          try clear hfz43_2
          try clear hfz43_3
          try clear hfz43_4
          try clear hfz43_5
          try clear hfz45_0
          try clear hfz45_1
          try clear hfz45_2
          try clear hfz45_3
          try clear hfz45_4
          try clear hfz45_5
          try clear hfz47_0
          try clear hfz47_1
          try clear hfz47_2
          try clear hfz47_3
          try clear hfz47_4
          try clear hfz47_5
          try clear hfz6_0
          try clear hfz6_1
          try clear hfz6_2
          try clear hfz6_3
          try clear hfz6_4
          try clear hfz6_5
          try clear hfz7_0
          try clear hfz7_1
          try clear hfz7_2
          try clear hfz7_3
          try clear hfz7_4
          try clear hfz7_5
          try clear hfz8_0
          try clear hfz8_1
          try clear hfz8_2
          try clear hfz8_3
          try clear hfz8_4
          try clear hfz8_5
          try clear p2
          obtain ⟨kq, x3_9, HA, HJ9, HO_3, BK269, HB⟩ := hcut
          cases kq with
          | zero => exact absurd HA.out (by simp [quoinref23_Spell.j3])
          | succ kj9 =>
            have H := HA.out
            clear HA
            simp only [quoinref23_Spell.j3] at H
            have HC49 := Aside0.mk H
            clear H
            go_upto_region 23 with (fail)
            go_cut [81] (fun v81 wc => ∃ (kq : Nat) (x81_48 : Bool), v81 = .bool x81_48 ∧ Aside0 (quoinref23_Spell.j4 kq x3_9 x81_48 a0_0 a0_1 a0_2 l0_3 a0_4 a0_5 = some r) ∧ Aside0 (kq ≤ kj9) ∧ Aside0 (Kd.R (Kd.int .u8) 5 wc w.heap.size (fun _ => True) u3 x3_9) ∧ Aside0 (wc.heap[gb269]? = some (.cells #[.int .u8 a0_0, .int .i64 a0_1, .int .u8 a0_2, (.slice A0_3 l0_3.length c0_3), .int .i64 a0_4, .bool a0_5] 25 (0, 0))) ∧ Aside0 (Below w.heap.size w wc))
            case first =>
              have H := HC49.out
              clear HC49
              by_cases c50 : a0_4 = 0
              · rw [if_pos c50] at H
                have c50b0 : (a0_4 == 0) = true := beq_iff_eq.mpr c50
                have c50b1 : (a0_4 != 0) = false := bne_eq_false_iff_eq.mpr c50
                clear c50
                (first | rw [c50b0] | (simp only [i64_w, i32_w]; rw [c50b0]) | skip)
                have H' := Aside0.mk H
                clear H
                have hcz51_0 : wc.cell? ⟨gb269, 0, none⟩ = some (.int .u8 a0_0) := (blk_cell BK269.out 0).trans rfl
                have hcz51_1 : wc.cell? ⟨gb269, 1, none⟩ = some (.int .i64 a0_1) := (blk_cell BK269.out 1).trans rfl
                have hcz51_2 : wc.cell? ⟨gb269, 2, none⟩ = some (.int .u8 a0_2) := (blk_cell BK269.out 2).trans rfl
                have hcz51_3 : wc.cell? ⟨gb269, 3, none⟩ = some (.slice A0_3 l0_3.length c0_3) := (blk_cell BK269.out 3).trans rfl
                have hcz51_4 : wc.cell? ⟨gb269, 4, none⟩ = some (.int .i64 a0_4) := (blk_cell BK269.out 4).trans rfl
                have hcz51_5 : wc.cell? ⟨gb269, 5, none⟩ = some (.bool a0_5) := (blk_cell BK269.out 5).trans rfl
                have hfz51_0 := blk_frozen BK269.out 0
                have hfz51_1 := blk_frozen BK269.out 1
                have hfz51_2 := blk_frozen BK269.out 2
                have hfz51_3 := blk_frozen BK269.out 3
                have hfz51_4 := blk_frozen BK269.out 4
                have hfz51_5 := blk_frozen BK269.out 5
                go_wp2
                go_meet
                case rel => exact ⟨_, ((a0_0 != 0)), (by first | rfl | (simp; done) | (simp [*]; done)), H', ⟨by have := HJ1.out; have := HJ9.out; first | omega | exact Nat.le_refl _⟩, ⟨by (with_reducible repeat (first | apply Kd.R_alloc | apply Kd.R_drewN | apply Kd.R_drew)); exact HO_3.out⟩, ⟨by (with_reducible repeat (first | refine blk_drewN ?_ _ | refine blk_drew ?_ | refine blk_alloc ?_ _)); exact BK269.out⟩, ⟨by repeat (first | (with_reducible first | exact HB.out | apply below_alloc | apply pw_below_drewN | apply below_drew1 | refine below_set ?_ GE269.out) | exact HB.out)⟩⟩
              · rw [if_neg c50] at H
                have c50b0 : (a0_4 == 0) = false := beq_eq_false_iff_ne.mpr c50
                have c50b1 : (a0_4 != 0) = true := bne_iff_ne.mpr c50
                (first | rw [c50b0] | (simp only [i64_w, i32_w]; rw [c50b0]) | skip)
                have H' := Aside0.mk H
                clear H
                have hcz52_0 : wc.cell? ⟨gb269, 0, none⟩ = some (.int .u8 a0_0) := (blk_cell BK269.out 0).trans rfl
                have hcz52_1 : wc.cell? ⟨gb269, 1, none⟩ = some (.int .i64 a0_1) := (blk_cell BK269.out 1).trans rfl
                have hcz52_2 : wc.cell? ⟨gb269, 2, none⟩ = some (.int .u8 a0_2) := (blk_cell BK269.out 2).trans rfl
                have hcz52_3 : wc.cell? ⟨gb269, 3, none⟩ = some (.slice A0_3 l0_3.length c0_3) := (blk_cell BK269.out 3).trans rfl
                have hcz52_4 : wc.cell? ⟨gb269, 4, none⟩ = some (.int .i64 a0_4) := (blk_cell BK269.out 4).trans rfl
                have hcz52_5 : wc.cell? ⟨gb269, 5, none⟩ = some (.bool a0_5) := (blk_cell BK269.out 5).trans rfl
                have hfz52_0 := blk_frozen BK269.out 0
                have hfz52_1 := blk_frozen BK269.out 1
                have hfz52_2 := blk_frozen BK269.out 2
                have hfz52_3 := blk_frozen BK269.out 3
                have hfz52_4 := blk_frozen BK269.out 4
                have hfz52_5 := blk_frozen BK269.out 5
                go_wp2
                go_meet
                case rel => exact ⟨_, (false), (by first | rfl | (simp; done) | (simp [*]; done)), H', ⟨by have := HJ1.out; have := HJ9.out; first | omega | exact Nat.le_refl _⟩, ⟨by (with_reducible repeat (first | apply Kd.R_alloc | apply Kd.R_drewN | apply Kd.R_drew)); exact HO_3.out⟩, ⟨by (with_reducible repeat (first | refine blk_drewN ?_ _ | refine blk_drew ?_ | refine blk_alloc ?_ _)); exact BK269.out⟩, ⟨by repeat (first | (with_reducible first | exact HB.out | apply below_alloc | apply pw_below_drewN | apply below_drew1 | refine below_set ?_ GE269.out) | exact HB.out)⟩⟩
            case rest =>
              clear HC49
              try clear c1
              try clear c2
              try clear p2
              try clear c3
              try clear c4
              try clear c5
              try clear c5b0
              try clear c9
              try clear c12
              try clear c12b0
              try clear c12b1
              try clear c13
              try clear c13b0
              try clear c14
              try clear c15
              try clear c15b0
              try clear c21
              try clear c21b0
              try clear c21b1
              try clear c22
              try clear c23
              try clear c24
              try clear c26
              try clear c26b0
              try clear c26b1
              try clear c27
              try clear c34
              try clear c34b0
              try clear c34b1
              try clear c35
              try clear c37
              try clear c38
              try clear c39
              try clear c40
              try clear c48
              try clear c48b0
              try clear c48b1
              try clear c50
              try clear c50b0
              try clear c50b1
              try clear hcz11_0
              try clear hcz11_1
              try clear hcz11_2
              try clear hcz11_3
              try clear hcz11_4
              try clear hcz11_5
              try clear hcz14_0
              try clear hcz14_1
              try clear hcz14_2
              try clear hcz14_3
              try clear hcz14_4
              try clear hcz14_5
              try clear hcz16_0
              try clear hcz16_1
              try clear hcz16_2
              try clear hcz16_3
              try clear hcz16_4
              try clear hcz16_5
              try clear hcz18_0
              try clear hcz18_1
              try clear hcz18_2
              try clear hcz18_3
              try clear hcz18_4
              try clear hcz18_5
              try clear hcz24_0
              try clear hcz24_1
              try clear hcz24_2
              try clear hcz24_3
              try clear hcz24_4
              try clear hcz24_5
              try clear hcz28_0
              try clear hcz28_1
              try clear hcz28_2
              try clear hcz28_3
              try clear hcz28_4
              try clear hcz28_5
              try clear hcz41_0
              try clear hcz41_1
              try clear hcz41_2
              try clear hcz41_3
              try clear hcz41_4
              try clear hcz41_5
              try clear hcz43_0
              try clear hcz43_1
              try clear hcz43_2
              try clear hcz43_3
              try clear hcz43_4
              try clear hcz43_5
              try clear hcz45_0
              try clear hcz45_1
              try clear hcz45_2
              try clear hcz45_3
              try clear hcz45_4
              try clear hcz45_5
              try clear hcz47_0
              try clear hcz47_1
              try clear hcz47_2
              try clear hcz47_3
              try clear hcz47_4
              try clear hcz47_5
              try clear hcz51_0
              try clear hcz51_1
              try clear hcz51_2
              try clear hcz51_3
              try clear hcz51_4
              try clear hcz51_5
              try clear hcz52_0
              try clear hcz52_1
              try clear hcz52_2
              try clear hcz52_3
              try clear hcz52_4
              try clear hcz52_5
              try clear hcz6_0
              try clear hcz6_1
              try clear hcz6_2
              try clear hcz6_3
              try clear hcz6_4
              try clear hcz6_5
              try clear hcz7_0
              try clear hcz7_1
              try clear hcz7_2
              try clear hcz7_3
              try clear hcz7_4
              try clear hcz7_5
              try clear hcz8_0
              try clear hcz8_1
              try clear hcz8_2
              try clear hcz8_3
              try clear hcz8_4
              try clear hcz8_5
              try clear hfz11_0
              try clear hfz11_1
              try clear hfz11_2
              try clear hfz11_3
              try clear hfz11_4
              try clear hfz11_5
              try clear hfz14_0
              try clear hfz14_1
              try clear hfz14_2
              try clear hfz14_3
              try clear hfz14_4
              try clear hfz14_5
              try clear hfz16_0
              try clear hfz16_1
              try clear hfz16_2
              try clear hfz16_3
              try clear hfz16_4
              try clear hfz16_5
              try clear hfz18_0
              try clear hfz18_1
              try clear hfz18_2
              try clear hfz18_3
              try clear hfz18_4
              try clear hfz18_5
              try clear hfz24_0
              try clear hfz24_1
              try clear hfz24_2
              try clear hfz24_3
              try clear hfz24_4
              try clear hfz24_5
              try clear hfz28_0
              try clear hfz28_1
              try clear hfz28_2
              try clear hfz28_3
              try clear hfz28_4
              try clear hfz28_5
              try clear hfz41_0
              try clear hfz41_1
              try clear hfz41_2
              try clear hfz41_3
              try clear hfz41_4
              try clear hfz41_5
              try clear hfz43_0
              try clear hfz43_1
              try clear hfz43_2
              try clear hfz43_3
              try clear hfz43_4
              try clear hfz43_5
              try clear hfz45_0
              try clear hfz45_1
              try clear hfz45_2
              try clear hfz45_3
              try clear hfz45_4
              try clear hfz45_5
              try clear hfz47_0
              try clear hfz47_1
              try clear hfz47_2
              try clear hfz47_3
              try clear hfz47_4
              try clear hfz47_5
              try clear hfz51_0
              try clear hfz51_1
              try clear hfz51_2
              try clear hfz51_3
              try clear hfz51_4
              try clear hfz51_5
              try clear hfz52_0
              try clear hfz52_1
              try clear hfz52_2
              try clear hfz52_3
              try clear hfz52_4
              try clear hfz52_5
              try clear hfz6_0
              try clear hfz6_1
              try clear hfz6_2
              try clear hfz6_3
              try clear hfz6_4
              try clear hfz6_5
              try clear hfz7_0
              try clear hfz7_1
              try clear hfz7_2
              try clear hfz7_3
              try clear hfz7_4
              try clear hfz7_5
              try clear hfz8_0
              try clear hfz8_1
              try clear hfz8_2
              try clear hfz8_3
              try clear hfz8_4
              try clear hfz8_5
              try clear p2
              obtain ⟨kq, x81_48, rfl, HA, HJ48, HO_3, BK269, HB⟩ := hcut
              cases kq with
              | zero => exact absurd HA.out (by simp [quoinref23_Spell.j4])
              | succ kj48 =>
                have H := HA.out
                clear HA
                simp only [quoinref23_Spell.j4] at H
                by_cases c53 : x81_48 = true
                · subst c53
                  have H1 : (some x3_9) = some r := by rw [if_pos rfl] at H; exact H
                  clear H
                  have H := H1
                  clear H1
                  obtain rfl := Option.some.inj H
                  go_wp2
                  go_ret
                  exact ⟨_, by first | rfl | (simp [errW_none, errW_some] <;> rfl) | (simp [*, errW_none, errW_some] <;> rfl), by (with_reducible repeat (first | apply Kd.R_alloc | apply Kd.R_drewN | apply Kd.R_drew)); exact HO_3.out, by repeat (first | (with_reducible first | exact HB.out | apply below_alloc | apply pw_below_drewN | apply below_drew1 | refine below_set ?_ GE269.out) | exact HB.out)⟩
                · replace c53 := Bool.eq_false_iff.mpr c53
                  subst c53
                  have H1 : (if a0_4 < 0 then (if x3_9.length < 140737488355328 then ((some (x3_9 ++ [45] : List Int)).bind fun y292 => ((quoinref23_digits.f kj48 (wrap64 (-a0_4))).bind fun t295 => (if y292.length + t295.length < 140737488355328 then (some (y292 ++ t295)) else (none)))) else (none)) else (if x3_9.length < 140737488355328 then ((some (x3_9 ++ [43] : List Int)).bind fun y301 => ((quoinref23_digits.f kj48 a0_4).bind fun t304 => (if y301.length + t304.length < 140737488355328 then (some (y301 ++ t304)) else (none)))) else (none))) = some r := by rw [if_neg (show ¬ (false = true) by decide)] at H; exact H
                  clear H
                  have H := H1
                  clear H1
                  by_cases c54 : a0_4 < 0
                  · rw [if_pos c54] at H
                    have c54b0 : decide (a0_4 < 0) = true := decide_eq_true c54
                    clear c54
                    by_cases c55 : x3_9.length < 140737488355328
                    · rw [if_pos c55] at H
                      have LMc55 := Aside0.mk c55
                      clear c55
                      obtain ⟨y292, hy292⟩ : ∃ y_ : List Int, y_ = (x3_9 ++ [45]) := ⟨_, rfl⟩
                      replace H : ((quoinref23_digits.f kj48 (wrap64 (-a0_4))).bind fun t295 => (if y292.length + t295.length < 140737488355328 then (some (y292 ++ t295)) else (none))) = some r := by first | (rw [hy292]; with_reducible exact H) | (have H2_ := (Option.bind_some _ _).symm.trans H; rw [hy292]; with_reducible exact H2_) | (have H2_ := (Option.bind_some _ _).symm.trans H; with_reducible exact H2_) | with_reducible exact H | (rw [hy292]; exact H) | exact H
                      have Ny292 := Aside0.mk hy292
                      clear hy292
                      replace H := Option.bind_eq_some_iff.mp H
                      obtain ⟨t295, A560, H⟩ := H
                      replace H : (if y292.length + t295.length < 140737488355328 then (some (y292 ++ t295)) else (none)) = some r := H
                      have A56 := Aside0.mk A560
                      clear A560
                      by_cases c57 : y292.length + t295.length < 140737488355328
                      · rw [if_pos c57] at H
                        have LMc57 := Aside0.mk c57
                        clear c57
                        obtain ⟨y298, hy298⟩ : ∃ y_ : List Int, y_ = (y292 ++ t295) := ⟨_, rfl⟩
                        replace H : (some y298) = some r := by first | (rw [hy298]; with_reducible exact H) | (have H2_ := (Option.bind_some _ _).symm.trans H; rw [hy298]; with_reducible exact H2_) | (have H2_ := (Option.bind_some _ _).symm.trans H; with_reducible exact H2_) | with_reducible exact H | (rw [hy298]; exact H) | exact H
                        have Ny298 := Aside0.mk hy298
                        clear hy298
                        obtain rfl := Option.some.inj H
                        have hcz58_0 : wc.cell? ⟨gb269, 0, none⟩ = some (.int .u8 a0_0) := (blk_cell BK269.out 0).trans rfl
                        have hcz58_1 : wc.cell? ⟨gb269, 1, none⟩ = some (.int .i64 a0_1) := (blk_cell BK269.out 1).trans rfl
                        have hcz58_2 : wc.cell? ⟨gb269, 2, none⟩ = some (.int .u8 a0_2) := (blk_cell BK269.out 2).trans rfl
                        have hcz58_3 : wc.cell? ⟨gb269, 3, none⟩ = some (.slice A0_3 l0_3.length c0_3) := (blk_cell BK269.out 3).trans rfl
                        have hcz58_4 : wc.cell? ⟨gb269, 4, none⟩ = some (.int .i64 a0_4) := (blk_cell BK269.out 4).trans rfl
                        have hcz58_5 : wc.cell? ⟨gb269, 5, none⟩ = some (.bool a0_5) := (blk_cell BK269.out 5).trans rfl
                        have hfz58_0 := blk_frozen BK269.out 0
                        have hfz58_1 := blk_frozen BK269.out 1
                        have hfz58_2 := blk_frozen BK269.out 2
                        have hfz58_3 := blk_frozen BK269.out 3
                        have hfz58_4 := blk_frozen BK269.out 4
                        have hfz58_5 := blk_frozen BK269.out 5
                        go_wp2_with (first | ((with_reducible refine gate_builtin (b := .append) (xs := #[.tmp 86, .tmp 87]) rfl ?_); at_builtin; refine Kd.R_append (Kd.int .u8) (w0 := w) w.heap.size rfl (.tmp 86) (.tmp 87) 22 5 (.int .u8 0) 1 rfl Tryd.underlying22 info5 rfl (by decide) (by omega) u3 x3_9 45 [.int .u8 45] (fun _ => True) (fun _ => False) rfl rfl ?aP (fun _ hk => hk.elim) ?aF ?aO ?aB ?aS ?aL ?_; (case aP => exact rfl); (case aB => exact (by repeat (first | (with_reducible first | exact HB.out | apply below_alloc | apply pw_below_drewN | apply below_drew1 | refine below_set ?_ GE269.out) | exact HB.out))); (case aF => exact (fun _ _ => trivial)); (case aO => exact (by (with_reducible repeat (first | apply Kd.R_alloc | apply Kd.R_drewN | apply Kd.R_drew)); exact HO_3.out)); (case aS => exact (below_size (by repeat (first | (with_reducible first | exact HB.out | apply below_alloc | apply pw_below_drewN | apply below_drew1 | refine below_set ?_ GE269.out) | exact HB.out)))); (case aL => have := LMc55.out; omega); intro v293 w59 ho hb hg hat; rw [← Ny292.out] at ho; have n0_ := Aside0.mk (blk_grown (g := gb269) (o := .cells #[.int .u8 a0_0, .int .i64 a0_1, .int .u8 a0_2, .slice A0_3 l0_3.length c0_3, .int .i64 a0_4, .bool a0_5] 25 (0, 0)) (by (with_reducible repeat (first | refine blk_drewN ?_ _ | refine blk_drew ?_ | refine blk_alloc ?_ _)); exact BK269.out) hg (Kd.R_ne HO_3.out BK269.out (by decide))); have n1_ := Aside0.mk (hb); have n2_ := Aside0.mk (ho); clear BK269; clear HB; clear HO_3; have BK269 := n0_; have HB := n1_; have HO294 := n2_; clear n0_ n1_ n2_; clear ho hb hg hat; have hcz60_0 : w59.cell? ⟨gb269, 0, none⟩ = some (.int .u8 a0_0) := (blk_cell BK269.out 0).trans rfl; have hcz60_1 : w59.cell? ⟨gb269, 1, none⟩ = some (.int .i64 a0_1) := (blk_cell BK269.out 1).trans rfl; have hcz60_2 : w59.cell? ⟨gb269, 2, none⟩ = some (.int .u8 a0_2) := (blk_cell BK269.out 2).trans rfl; have hcz60_3 : w59.cell? ⟨gb269, 3, none⟩ = some (.slice A0_3 l0_3.length c0_3) := (blk_cell BK269.out 3).trans rfl; have hcz60_4 : w59.cell? ⟨gb269, 4, none⟩ = some (.int .i64 a0_4) := (blk_cell BK269.out 4).trans rfl; have hcz60_5 : w59.cell? ⟨gb269, 5, none⟩ = some (.bool a0_5) := (blk_cell BK269.out 5).trans rfl; have hfz60_0 := blk_frozen BK269.out 0; have hfz60_1 := blk_frozen BK269.out 1; have hfz60_2 := blk_frozen BK269.out 2; have hfz60_3 := blk_frozen BK269.out 3; have hfz60_4 := blk_frozen BK269.out 4; have hfz60_5 := blk_frozen BK269.out 5) | ((with_reducible refine gate_callee (f := 27) rfl ?_); refine goesL_ (some 93) rfl rfl Tryd.func27 (by kernel_rfl) rfl #[.int .i64 (wrap64 (-a0_4))] rfl (by (try simp only [List.map_toArray, List.map_cons, List.map_nil]); first | done | rfl | (simp only [List.length_drop, List.length_take]; rfl)) ?_; (with_reducible refine (quoinref23_digits.calls kj48 (wrap64 (-a0_4)) t295 _ A56.out).mono ?_); rintro e w61 ⟨v296, rfl, ho0, hb⟩; refine ⟨_, rfl, ?_⟩; have n0_ := Aside0.mk (Kd.R_elder' (by (with_reducible repeat (first | apply Kd.R_alloc | apply Kd.R_drewN | apply Kd.R_drew)); exact HO294.out) (Kd.R_base ho0) hb); have n1_ := Aside0.mk (Kd.R_lower (Kd.R_new' ho0 (Kd.R_lt (by (with_reducible repeat (first | apply Kd.R_alloc | apply Kd.R_drewN | apply Kd.R_drew)); exact HO294.out))) (below_size (by repeat (first | (with_reducible first | exact HB.out | apply below_alloc | apply pw_below_drewN | apply below_drew1 | refine below_set ?_ GE269.out) | exact HB.out)))); have n2_ := Aside0.mk (blk_below (g := gb269) (o := .cells #[.int .u8 a0_0, .int .i64 a0_1, .int .u8 a0_2, .slice A0_3 l0_3.length c0_3, .int .i64 a0_4, .bool a0_5] 25 (0, 0)) (by (with_reducible repeat (first | refine blk_drewN ?_ _ | refine blk_drew ?_ | refine blk_alloc ?_ _)); exact BK269.out) hb); have n3_ := Aside0.mk (below_step (by repeat (first | (with_reducible first | exact HB.out | apply below_alloc | apply pw_below_drewN | apply below_drew1 | refine below_set ?_ GE269.out) | exact HB.out)) hb); clear HO294; clear BK269; clear HB; have HO294 := n0_; have HO297 := n1_; have BK269 := n2_; have HB := n3_; clear n0_ n1_ n2_ n3_; (try clear hb); (try clear hb2); (try clear hk); (try clear hi); (try clear ho0); obtain ⟨Ao63, co63, eo63⟩ := Kd.R_slice HO297.out; subst eo63) | ((with_reducible refine gate_builtin (b := .append) (xs := #[.tmp 89, .tmp 93]) rfl ?_); at_builtin; refine Kd.R_append_rows (Kd.int .u8) (w0 := w) w.heap.size rfl (.tmp 89) (.tmp 93) 22 5 (.int .u8 0) 1 rfl Tryd.underlying22 info5 rfl (by decide) (by omega) v293 y292 t295 _ _ _ (fun k_ => some k_ ≠ (.slice Ao63 t295.length co63 : Value).ownBlock) (fun _ => False) rfl rfl ?aO ?aR (fun _ _ h => h) (fun _ h => h.elim) ?aF ?aB ?aS ?aL ?_; (case aR => repeat (first | exact (Kd.R_reads' HO297.out).2.2 | (with_reducible refine Kd.C_alloc ?_ _) | (with_reducible refine Kd.C_drewN ?_ _) | (with_reducible refine Kd.C_drew ?_))); (case aB => exact (by repeat (first | (with_reducible first | exact HB.out | apply below_alloc | apply pw_below_drewN | apply below_drew1 | refine below_set ?_ GE269.out) | exact HB.out))); (case aF => exact (fun k_ hk => Kd.fresh' (Kd.R_lt (by (with_reducible repeat (first | apply Kd.R_alloc | apply Kd.R_drewN | apply Kd.R_drew)); exact HO297.out)) k_ hk)); (case aO => exact (by (with_reducible repeat (first | apply Kd.R_alloc | apply Kd.R_drewN | apply Kd.R_drew)); exact Kd.R_mono HO294.out (fun _ hk => hk.2))); (case aS => exact (below_size (by repeat (first | (with_reducible first | exact HB.out | apply below_alloc | apply pw_below_drewN | apply below_drew1 | refine below_set ?_ GE269.out) | exact HB.out)))); (case aL => have := LMc57.out; omega); intro v299 w62 ho hb hg hat; rw [← Ny298.out] at ho; have n0_ := Aside0.mk (blk_grown (g := gb269) (o := .cells #[.int .u8 a0_0, .int .i64 a0_1, .int .u8 a0_2, .slice A0_3 l0_3.length c0_3, .int .i64 a0_4, .bool a0_5] 25 (0, 0)) (by (with_reducible repeat (first | refine blk_drewN ?_ _ | refine blk_drew ?_ | refine blk_alloc ?_ _)); exact BK269.out) hg (Kd.R_ne HO294.out BK269.out (by decide))); have n1_ := Aside0.mk (Kd.R_after (ok := (fun _ => True)) (by (with_reducible repeat (first | apply Kd.R_alloc | apply Kd.R_drewN | apply Kd.R_drew)); exact HO297.out) hg hat); have n2_ := Aside0.mk (hb); have n3_ := Aside0.mk (ho); clear BK269; clear HO297; clear HB; clear HO294; have BK269 := n0_; have HO297 := n1_; have HB := n2_; have HO300 := n3_; clear n0_ n1_ n2_ n3_; clear ho hb hg hat))
                        go_ret
                        exact ⟨_, by first | rfl | (simp [errW_none, errW_some] <;> rfl) | (simp [*, errW_none, errW_some] <;> rfl), by (with_reducible repeat (first | apply Kd.R_alloc | apply Kd.R_drewN | apply Kd.R_drew)); exact Kd.R_mono HO300.out (fun _ hk => trivial), by repeat (first | (with_reducible first | exact HB.out | apply below_alloc | apply pw_below_drewN | apply below_drew1 | refine below_set ?_ GE269.out) | exact HB.out)⟩
                      · rw [if_neg c57] at H
                        exact absurd H (by simp)
                    · rw [if_neg c55] at H
                      exact absurd H (by simp)
                  · rw [if_neg c54] at H
                    have c54b0 : decide (a0_4 < 0) = false := decide_eq_false c54
                    clear c54
                    by_cases c64 : x3_9.length < 140737488355328
                    · rw [if_pos c64] at H
                      have LMc64 := Aside0.mk c64
                      clear c64
                      obtain ⟨y301, hy301⟩ : ∃ y_ : List Int, y_ = (x3_9 ++ [43]) := ⟨_, rfl⟩
                      replace H : ((quoinref23_digits.f kj48 a0_4).bind fun t304 => (if y301.length + t304.length < 140737488355328 then (some (y301 ++ t304)) else (none))) = some r := by first | (rw [hy301]; with_reducible exact H) | (have H2_ := (Option.bind_some _ _).symm.trans H; rw [hy301]; with_reducible exact H2_) | (have H2_ := (Option.bind_some _ _).symm.trans H; with_reducible exact H2_) | with_reducible exact H | (rw [hy301]; exact H) | exact H
                      have Ny301 := Aside0.mk hy301
                      clear hy301
                      replace H := Option.bind_eq_some_iff.mp H
                      obtain ⟨t304, A650, H⟩ := H
                      replace H : (if y301.length + t304.length < 140737488355328 then (some (y301 ++ t304)) else (none)) = some r := H
                      have A65 := Aside0.mk A650
                      clear A650
                      by_cases c66 : y301.length + t304.length < 140737488355328
                      · rw [if_pos c66] at H
                        have LMc66 := Aside0.mk c66
                        clear c66
                        obtain ⟨y307, hy307⟩ : ∃ y_ : List Int, y_ = (y301 ++ t304) := ⟨_, rfl⟩
                        replace H : (some y307) = some r := by first | (rw [hy307]; with_reducible exact H) | (have H2_ := (Option.bind_some _ _).symm.trans H; rw [hy307]; with_reducible exact H2_) | (have H2_ := (Option.bind_some _ _).symm.trans H; with_reducible exact H2_) | with_reducible exact H | (rw [hy307]; exact H) | exact H
                        have Ny307 := Aside0.mk hy307
                        clear hy307
                        obtain rfl := Option.some.inj H
                        have hcz67_0 : wc.cell? ⟨gb269, 0, none⟩ = some (.int .u8 a0_0) := (blk_cell BK269.out 0).trans rfl
                        have hcz67_1 : wc.cell? ⟨gb269, 1, none⟩ = some (.int .i64 a0_1) := (blk_cell BK269.out 1).trans rfl
                        have hcz67_2 : wc.cell? ⟨gb269, 2, none⟩ = some (.int .u8 a0_2) := (blk_cell BK269.out 2).trans rfl
                        have hcz67_3 : wc.cell? ⟨gb269, 3, none⟩ = some (.slice A0_3 l0_3.length c0_3) := (blk_cell BK269.out 3).trans rfl
                        have hcz67_4 : wc.cell? ⟨gb269, 4, none⟩ = some (.int .i64 a0_4) := (blk_cell BK269.out 4).trans rfl
                        have hcz67_5 : wc.cell? ⟨gb269, 5, none⟩ = some (.bool a0_5) := (blk_cell BK269.out 5).trans rfl
                        have hfz67_0 := blk_frozen BK269.out 0
                        have hfz67_1 := blk_frozen BK269.out 1
                        have hfz67_2 := blk_frozen BK269.out 2
                        have hfz67_3 := blk_frozen BK269.out 3
                        have hfz67_4 := blk_frozen BK269.out 4
                        have hfz67_5 := blk_frozen BK269.out 5
                        go_wp2_with (first | ((with_reducible refine gate_builtin (b := .append) (xs := #[.tmp 95, .tmp 96]) rfl ?_); at_builtin; refine Kd.R_append (Kd.int .u8) (w0 := w) w.heap.size rfl (.tmp 95) (.tmp 96) 22 5 (.int .u8 0) 1 rfl Tryd.underlying22 info5 rfl (by decide) (by omega) u3 x3_9 43 [.int .u8 43] (fun _ => True) (fun _ => False) rfl rfl ?aP (fun _ hk => hk.elim) ?aF ?aO ?aB ?aS ?aL ?_; (case aP => exact rfl); (case aB => exact (by repeat (first | (with_reducible first | exact HB.out | apply below_alloc | apply pw_below_drewN | apply below_drew1 | refine below_set ?_ GE269.out) | exact HB.out))); (case aF => exact (fun _ _ => trivial)); (case aO => exact (by (with_reducible repeat (first | apply Kd.R_alloc | apply Kd.R_drewN | apply Kd.R_drew)); exact HO_3.out)); (case aS => exact (below_size (by repeat (first | (with_reducible first | exact HB.out | apply below_alloc | apply pw_below_drewN | apply below_drew1 | refine below_set ?_ GE269.out) | exact HB.out)))); (case aL => have := LMc64.out; omega); intro v302 w68 ho hb hg hat; rw [← Ny301.out] at ho; have n0_ := Aside0.mk (blk_grown (g := gb269) (o := .cells #[.int .u8 a0_0, .int .i64 a0_1, .int .u8 a0_2, .slice A0_3 l0_3.length c0_3, .int .i64 a0_4, .bool a0_5] 25 (0, 0)) (by (with_reducible repeat (first | refine blk_drewN ?_ _ | refine blk_drew ?_ | refine blk_alloc ?_ _)); exact BK269.out) hg (Kd.R_ne HO_3.out BK269.out (by decide))); have n1_ := Aside0.mk (hb); have n2_ := Aside0.mk (ho); clear BK269; clear HB; clear HO_3; have BK269 := n0_; have HB := n1_; have HO303 := n2_; clear n0_ n1_ n2_; clear ho hb hg hat; have hcz69_0 : w68.cell? ⟨gb269, 0, none⟩ = some (.int .u8 a0_0) := (blk_cell BK269.out 0).trans rfl; have hcz69_1 : w68.cell? ⟨gb269, 1, none⟩ = some (.int .i64 a0_1) := (blk_cell BK269.out 1).trans rfl; have hcz69_2 : w68.cell? ⟨gb269, 2, none⟩ = some (.int .u8 a0_2) := (blk_cell BK269.out 2).trans rfl; have hcz69_3 : w68.cell? ⟨gb269, 3, none⟩ = some (.slice A0_3 l0_3.length c0_3) := (blk_cell BK269.out 3).trans rfl; have hcz69_4 : w68.cell? ⟨gb269, 4, none⟩ = some (.int .i64 a0_4) := (blk_cell BK269.out 4).trans rfl; have hcz69_5 : w68.cell? ⟨gb269, 5, none⟩ = some (.bool a0_5) := (blk_cell BK269.out 5).trans rfl; have hfz69_0 := blk_frozen BK269.out 0; have hfz69_1 := blk_frozen BK269.out 1; have hfz69_2 := blk_frozen BK269.out 2; have hfz69_3 := blk_frozen BK269.out 3; have hfz69_4 := blk_frozen BK269.out 4; have hfz69_5 := blk_frozen BK269.out 5) | ((with_reducible refine gate_callee (f := 27) rfl ?_); refine goesL_ (some 101) rfl rfl Tryd.func27 (by kernel_rfl) rfl #[.int .i64 a0_4] rfl (by (try simp only [List.map_toArray, List.map_cons, List.map_nil]); first | done | rfl | (simp only [List.length_drop, List.length_take]; rfl)) ?_; (with_reducible refine (quoinref23_digits.calls kj48 a0_4 t304 _ A65.out).mono ?_); rintro e w70 ⟨v305, rfl, ho0, hb⟩; refine ⟨_, rfl, ?_⟩; have n0_ := Aside0.mk (Kd.R_elder' (by (with_reducible repeat (first | apply Kd.R_alloc | apply Kd.R_drewN | apply Kd.R_drew)); exact HO303.out) (Kd.R_base ho0) hb); have n1_ := Aside0.mk (Kd.R_lower (Kd.R_new' ho0 (Kd.R_lt (by (with_reducible repeat (first | apply Kd.R_alloc | apply Kd.R_drewN | apply Kd.R_drew)); exact HO303.out))) (below_size (by repeat (first | (with_reducible first | exact HB.out | apply below_alloc | apply pw_below_drewN | apply below_drew1 | refine below_set ?_ GE269.out) | exact HB.out)))); have n2_ := Aside0.mk (blk_below (g := gb269) (o := .cells #[.int .u8 a0_0, .int .i64 a0_1, .int .u8 a0_2, .slice A0_3 l0_3.length c0_3, .int .i64 a0_4, .bool a0_5] 25 (0, 0)) (by (with_reducible repeat (first | refine blk_drewN ?_ _ | refine blk_drew ?_ | refine blk_alloc ?_ _)); exact BK269.out) hb); have n3_ := Aside0.mk (below_step (by repeat (first | (with_reducible first | exact HB.out | apply below_alloc | apply pw_below_drewN | apply below_drew1 | refine below_set ?_ GE269.out) | exact HB.out)) hb); clear HO303; clear BK269; clear HB; have HO303 := n0_; have HO306 := n1_; have BK269 := n2_; have HB := n3_; clear n0_ n1_ n2_ n3_; (try clear hb); (try clear hb2); (try clear hk); (try clear hi); (try clear ho0); obtain ⟨Ao72, co72, eo72⟩ := Kd.R_slice HO306.out; subst eo72) | ((with_reducible refine gate_builtin (b := .append) (xs := #[.tmp 98, .tmp 101]) rfl ?_); at_builtin; refine Kd.R_append_rows (Kd.int .u8) (w0 := w) w.heap.size rfl (.tmp 98) (.tmp 101) 22 5 (.int .u8 0) 1 rfl Tryd.underlying22 info5 rfl (by decide) (by omega) v302 y301 t304 _ _ _ (fun k_ => some k_ ≠ (.slice Ao72 t304.length co72 : Value).ownBlock) (fun _ => False) rfl rfl ?aO ?aR (fun _ _ h => h) (fun _ h => h.elim) ?aF ?aB ?aS ?aL ?_; (case aR => repeat (first | exact (Kd.R_reads' HO306.out).2.2 | (with_reducible refine Kd.C_alloc ?_ _) | (with_reducible refine Kd.C_drewN ?_ _) | (with_reducible refine Kd.C_drew ?_))); (case aB => exact (by repeat (first | (with_reducible first | exact HB.out | apply below_alloc | apply pw_below_drewN | apply below_drew1 | refine below_set ?_ GE269.out) | exact HB.out))); (case aF => exact (fun k_ hk => Kd.fresh' (Kd.R_lt (by (with_reducible repeat (first | apply Kd.R_alloc | apply Kd.R_drewN | apply Kd.R_drew)); exact HO306.out)) k_ hk)); (case aO => exact (by (with_reducible repeat (first | apply Kd.R_alloc | apply Kd.R_drewN | apply Kd.R_drew)); exact Kd.R_mono HO303.out (fun _ hk => hk.2))); (case aS => exact (below_size (by repeat (first | (with_reducible first | exact HB.out | apply below_alloc | apply pw_below_drewN | apply below_drew1 | refine below_set ?_ GE269.out) | exact HB.out)))); (case aL => have := LMc66.out; omega); intro v308 w71 ho hb hg hat; rw [← Ny307.out] at ho; have n0_ := Aside0.mk (blk_grown (g := gb269) (o := .cells #[.int .u8 a0_0, .int .i64 a0_1, .int .u8 a0_2, .slice A0_3 l0_3.length c0_3, .int .i64 a0_4, .bool a0_5] 25 (0, 0)) (by (with_reducible repeat (first | refine blk_drewN ?_ _ | refine blk_drew ?_ | refine blk_alloc ?_ _)); exact BK269.out) hg (Kd.R_ne HO303.out BK269.out (by decide))); have n1_ := Aside0.mk (Kd.R_after (ok := (fun _ => True)) (by (with_reducible repeat (first | apply Kd.R_alloc | apply Kd.R_drewN | apply Kd.R_drew)); exact HO306.out) hg hat); have n2_ := Aside0.mk (hb); have n3_ := Aside0.mk (ho); clear BK269; clear HO306; clear HB; clear HO303; have BK269 := n0_; have HO306 := n1_; have HB := n2_; have HO309 := n3_; clear n0_ n1_ n2_ n3_; clear ho hb hg hat))
                        go_ret
                        exact ⟨_, by first | rfl | (simp [errW_none, errW_some] <;> rfl) | (simp [*, errW_none, errW_some] <;> rfl), by (with_reducible repeat (first | apply Kd.R_alloc | apply Kd.R_drewN | apply Kd.R_drew)); exact Kd.R_mono HO309.out (fun _ hk => trivial), by repeat (first | (with_reducible first | exact HB.out | apply below_alloc | apply pw_below_drewN | apply below_drew1 | refine below_set ?_ GE269.out) | exact HB.out)⟩
                      · rw [if_neg c66] at H
                        exact absurd H (by simp)
                    · rw [if_neg c64] at H
                      exact absurd H (by simp)

end Go.Proofs.YtdhdngoeaneanaaDoor.X
end
