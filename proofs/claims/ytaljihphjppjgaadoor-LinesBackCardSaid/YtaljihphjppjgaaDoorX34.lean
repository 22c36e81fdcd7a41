-- Written by wip/xprint.py over the kit's print.py: the Lean function of each Go function, and the proof that the Go text comes to it.
import Derived.Test.YtaljihphjppjgaaDoorX0
import Derived.Test.YtaljihphjppjgaaDoorX5
import Derived.Test.YtaljihphjppjgaaDoorX6
import Derived.Test.YtaljihphjppjgaaDoorX14
import Derived.Test.YtaljihphjppjgaaDoorX18
import Derived.Test.YtaljihphjppjgaaDoorX21
import Derived.Test.YtaljihphjppjgaaDoorX22
namespace Go.Proofs.YtaljihphjppjgaaDoor.X
open Go.RowKit Go.Proofs.YtaljihphjppjgaaDoorW.PrintWords Go.Proofs.YtaljihphjppjgaaDoorW.PrintLast Go.Proofs.YtaljihphjppjgaaDoorW.PrintMore
attribute [local go_sem] max2_int min2_int max_two min_two max_three min_three max_four min_four   -- for this text's walks alone
set_option linter.unusedVariables false
set_option linter.unusedSimpArgs false

/-! ### quoinlaw05_LinesBack: function 7 -/
mutual
def quoinlaw05_LinesBack.j0 : Nat → List Int → Int → Int → Int → Int → Int → Bool → Option (Bool)
  | 0, _, _, _, _, _, _, _ => none
  | k + 1, x0, x1, x5, x6, x7, x8, x35 => if x35 = true then (if x6 = 2 then (some (x8 == 2)) else (some false)) else ((lines_Start.f k x0 x5).bind fun bt310 => ((lines_End.f k x0 x5).bind fun bt312 => (if x6 = 0 then (if x8 = 0 then (if bt310.2 = 0 then (if bt312.2 = 0 then (if (wrap64 (bt310.1 + x7)) = x1 then (if x7 < 0 then (quoinlaw05_LinesBack.j1 k x0 bt310.1 bt312.1 true) else (if x1 > bt312.1 then (quoinlaw05_LinesBack.j1 k x0 bt310.1 bt312.1 true) else (if x5 < 0 then (quoinlaw05_LinesBack.j1 k x0 bt310.1 bt312.1 true) else ((lines_Count.f x0).bind fun t314 => (quoinlaw05_LinesBack.j1 k x0 bt310.1 bt312.1 (decide (x5 ≥ t314))))))) else (quoinlaw05_LinesBack.j1 k x0 bt310.1 bt312.1 true)) else (quoinlaw05_LinesBack.j1 k x0 bt310.1 bt312.1 true)) else (quoinlaw05_LinesBack.j1 k x0 bt310.1 bt312.1 true)) else (quoinlaw05_LinesBack.j1 k x0 bt310.1 bt312.1 true)) else (quoinlaw05_LinesBack.j1 k x0 bt310.1 bt312.1 true))))
def quoinlaw05_LinesBack.j1 : Nat → List Int → Int → Int → Bool → Option (Bool)
  | 0, _, _, _, _ => none
  | k + 1, x0, x9, x11, x93 => if x93 = true then (some false) else (quoinlaw05_LinesBack.l0 k x0 x9 x11 x9)
def quoinlaw05_LinesBack.l0 : Nat → List Int → Int → Int → Int → Option (Bool)
  | 0, _, _, _, _ => none
  | k + 1, x0, x9, x11, x13 => if x13 < x11 then (if 0 ≤ x13 then (if x13 < (x0.length : Int) then (if (rd x0 x13) = 10 then (some false) else (quoinlaw05_LinesBack.l0 k x0 x9 x11 (wrap64 (x13 + 1)))) else (none)) else (none)) else (if x9 = 0 then (if x11 = (x0.length : Int) then (some true) else (if 0 ≤ x11 then (if x11 < (x0.length : Int) then (some ((rd x0 x11) == 10)) else (none)) else (none))) else (if 0 ≤ (wrap64 (x9 - 1)) then (if (wrap64 (x9 - 1)) < (x0.length : Int) then (if (rd x0 (wrap64 (x9 - 1))) = 10 then (if x11 = (x0.length : Int) then (some true) else (if 0 ≤ x11 then (if x11 < (x0.length : Int) then (some ((rd x0 x11) == 10)) else (none)) else (none))) else (some false)) else (none)) else (none)))
end
def quoinlaw05_LinesBack.f (k : Nat) (l0 : List Int) (a1 : Int) : Option (Bool) := (quoinlaw05_alive.f k).bind fun t305 => (if t305 = true then ((lines_Of.f l0 a1).bind fun bt306 => ((lines_Column.f k l0 a1).bind fun bt308 => (if a1 < 0 then (quoinlaw05_LinesBack.j0 k l0 a1 bt306.1 bt306.2 bt308.1 bt308.2 true) else (quoinlaw05_LinesBack.j0 k l0 a1 bt306.1 bt306.2 bt308.1 bt308.2 (decide (a1 > (l0.length : Int))))))) else (some false))
theorem quoinlaw05_LinesBack.mono_l : ∀ k, (∀ y0 y1 y2 y3 y4 y5 y6, LeO (quoinlaw05_LinesBack.j0 k y0 y1 y2 y3 y4 y5 y6) (quoinlaw05_LinesBack.j0 (k + 1) y0 y1 y2 y3 y4 y5 y6)) ∧ (∀ y0 y1 y2 y3, LeO (quoinlaw05_LinesBack.j1 k y0 y1 y2 y3) (quoinlaw05_LinesBack.j1 (k + 1) y0 y1 y2 y3)) ∧ (∀ y0 y1 y2 y3, LeO (quoinlaw05_LinesBack.l0 k y0 y1 y2 y3) (quoinlaw05_LinesBack.l0 (k + 1) y0 y1 y2 y3))
  | 0 => ⟨fun _ _ _ _ _ _ _ r h => by simp [quoinlaw05_LinesBack.j0] at h, fun _ _ _ _ r h => by simp [quoinlaw05_LinesBack.j1] at h, fun _ _ _ _ r h => by simp [quoinlaw05_LinesBack.l0] at h⟩
  | k + 1 => by
    obtain ⟨ih0, ih1, ih2⟩ := quoinlaw05_LinesBack.mono_l k
    refine ⟨?_, ?_, ?_⟩
    · intro y0 y1 y2 y3 y4 y5 y6
      unfold quoinlaw05_LinesBack.j0
      repeat' first
      | (with_reducible exact ih0 _ _ _ _ _ _ _)
      | (with_reducible exact ih1 _ _ _ _)
      | (with_reducible exact ih2 _ _ _ _)
      | (with_reducible exact lines_Column.mono _ _ _)
      | (with_reducible exact lines_End.mono _ _ _)
      | (with_reducible exact lines_Start.mono _ _ _)
      | (with_reducible exact quoinlaw05_alive.mono _)
      | (with_reducible exact LeO.refl _)
      | (with_reducible exact LeO.none _)
      | (with_reducible refine LeO.ite ?_ ?_)
      | (with_reducible refine LeO.bind ?_ (fun _ => ?_))
      | exact ih0 _ _ _ _ _ _ _
      | exact ih1 _ _ _ _
      | exact ih2 _ _ _ _
      | exact lines_Column.mono _ _ _
      | exact lines_End.mono _ _ _
      | exact lines_Start.mono _ _ _
      | exact quoinlaw05_alive.mono _
      | exact LeO.none _
      | refine LeO.ite ?_ ?_
      | refine LeO.bind ?_ (fun _ => ?_)
    · intro y0 y1 y2 y3
      unfold quoinlaw05_LinesBack.j1
      repeat' first
      | (with_reducible exact ih0 _ _ _ _ _ _ _)
      | (with_reducible exact ih1 _ _ _ _)
      | (with_reducible exact ih2 _ _ _ _)
      | (with_reducible exact lines_Column.mono _ _ _)
      | (with_reducible exact lines_End.mono _ _ _)
      | (with_reducible exact lines_Start.mono _ _ _)
      | (with_reducible exact quoinlaw05_alive.mono _)
      | (with_reducible exact LeO.refl _)
      | (with_reducible exact LeO.none _)
      | (with_reducible refine LeO.ite ?_ ?_)
      | (with_reducible refine LeO.bind ?_ (fun _ => ?_))
      | exact ih0 _ _ _ _ _ _ _
      | exact ih1 _ _ _ _
      | exact ih2 _ _ _ _
      | exact lines_Column.mono _ _ _
      | exact lines_End.mono _ _ _
      | exact lines_Start.mono _ _ _
      | exact quoinlaw05_alive.mono _
      | exact LeO.none _
      | refine LeO.ite ?_ ?_
      | refine LeO.bind ?_ (fun _ => ?_)
    · intro y0 y1 y2 y3
      unfold quoinlaw05_LinesBack.l0
      repeat' first
      | (with_reducible exact ih0 _ _ _ _ _ _ _)
      | (with_reducible exact ih1 _ _ _ _)
      | (with_reducible exact ih2 _ _ _ _)
      | (with_reducible exact lines_Column.mono _ _ _)
      | (with_reducible exact lines_End.mono _ _ _)
      | (with_reducible exact lines_Start.mono _ _ _)
      | (with_reducible exact quoinlaw05_alive.mono _)
      | (with_reducible exact LeO.refl _)
      | (with_reducible exact LeO.none _)
      | (with_reducible refine LeO.ite ?_ ?_)
      | (with_reducible refine LeO.bind ?_ (fun _ => ?_))
      | exact ih0 _ _ _ _ _ _ _
      | exact ih1 _ _ _ _
      | exact ih2 _ _ _ _
      | exact lines_Column.mono _ _ _
      | exact lines_End.mono _ _ _
      | exact lines_Start.mono _ _ _
      | exact quoinlaw05_alive.mono _
      | exact LeO.none _
      | refine LeO.ite ?_ ?_
      | refine LeO.bind ?_ (fun _ => ?_)
theorem quoinlaw05_LinesBack.mono : ∀ a0 a1 k, LeO (quoinlaw05_LinesBack.f k a0 a1) (quoinlaw05_LinesBack.f (k + 1) a0 a1) := by
  intro a0 a1 k
  obtain ⟨ih0, ih1, ih2⟩ := quoinlaw05_LinesBack.mono_l k
  unfold quoinlaw05_LinesBack.f
  repeat' first
      | (with_reducible exact ih0 _ _ _ _ _ _ _)
      | (with_reducible exact ih1 _ _ _ _)
      | (with_reducible exact ih2 _ _ _ _)
      | (with_reducible exact lines_Column.mono _ _ _)
      | (with_reducible exact lines_End.mono _ _ _)
      | (with_reducible exact lines_Start.mono _ _ _)
      | (with_reducible exact quoinlaw05_alive.mono _)
      | (with_reducible exact LeO.refl _)
      | (with_reducible exact LeO.none _)
      | (with_reducible refine LeO.ite ?_ ?_)
      | (with_reducible refine LeO.bind ?_ (fun _ => ?_))
      | exact ih0 _ _ _ _ _ _ _
      | exact ih1 _ _ _ _
      | exact ih2 _ _ _ _
      | exact lines_Column.mono _ _ _
      | exact lines_End.mono _ _ _
      | exact lines_Start.mono _ _ _
      | exact quoinlaw05_alive.mono _
      | exact LeO.none _
      | refine LeO.ite ?_ ?_
      | refine LeO.bind ?_ (fun _ => ?_)
set_option maxHeartbeats 8000000 in
set_option maxRecDepth 100000 in
theorem quoinlaw05_LinesBack.calls (k : Nat) (A0 : Option Addr) (c0 : Nat) (l0 : List Int) (a1 : Int) (r : Bool) (w : World) (hr0 : Kd.C (Kd.int .u8) w A0 l0.length l0) (hc0 : l0.length ≤ c0) (h : quoinlaw05_LinesBack.f k l0 a1 = some r) :
    Calls Tryd.prog 7 #[.slice A0 l0.length c0, .int .i64 a1] w fun e w' => e = .returned (.bool r) ∧ Below w.heap.size w w' := by
  have HR0 := Aside0.mk hr0
  have HC0 := Aside0.mk hc0
  clear hr0 hc0
  have HB := Aside0.mk (Below.refl w.heap.size w)
  have H : ((quoinlaw05_alive.f k).bind fun t305 => (if t305 = true then ((lines_Of.f l0 a1).bind fun bt306 => ((lines_Column.f k l0 a1).bind fun bt308 => (if a1 < 0 then (quoinlaw05_LinesBack.j0 k l0 a1 bt306.1 bt306.2 bt308.1 bt308.2 true) else (quoinlaw05_LinesBack.j0 k l0 a1 bt306.1 bt306.2 bt308.1 bt308.2 (decide (a1 > (l0.length : Int))))))) else (some false))) = some r := h
  clear h
  replace H := Option.bind_eq_some_iff.mp H
  obtain ⟨t305, A30, H⟩ := H
  replace H : (if t305 = true then ((lines_Of.f l0 a1).bind fun bt306 => ((lines_Column.f k l0 a1).bind fun bt308 => (if a1 < 0 then (quoinlaw05_LinesBack.j0 k l0 a1 bt306.1 bt306.2 bt308.1 bt308.2 true) else (quoinlaw05_LinesBack.j0 k l0 a1 bt306.1 bt306.2 bt308.1 bt308.2 (decide (a1 > (l0.length : Int))))))) else (some false)) = some r := H
  have A3 := Aside0.mk A30
  clear A30
  by_cases c4 : t305 = true
  · subst c4
    have H1 : ((lines_Of.f l0 a1).bind fun bt306 => ((lines_Column.f k l0 a1).bind fun bt308 => (if a1 < 0 then (quoinlaw05_LinesBack.j0 k l0 a1 bt306.1 bt306.2 bt308.1 bt308.2 true) else (quoinlaw05_LinesBack.j0 k l0 a1 bt306.1 bt306.2 bt308.1 bt308.2 (decide (a1 > (l0.length : Int))))))) = some r := by rw [if_pos rfl] at H; exact H
    clear H
    have H := H1
    clear H1
    replace H := Option.bind_eq_some_iff.mp H
    obtain ⟨⟨t306, t307⟩, A50, H⟩ := H
    replace H : ((lines_Column.f k l0 a1).bind fun bt308 => (if a1 < 0 then (quoinlaw05_LinesBack.j0 k l0 a1 t306 t307 bt308.1 bt308.2 true) else (quoinlaw05_LinesBack.j0 k l0 a1 t306 t307 bt308.1 bt308.2 (decide (a1 > (l0.length : Int)))))) = some r := H
    have A5 := Aside0.mk A50
    clear A50
    replace H := Option.bind_eq_some_iff.mp H
    obtain ⟨⟨t308, t309⟩, A60, H⟩ := H
    replace H : (if a1 < 0 then (quoinlaw05_LinesBack.j0 k l0 a1 t306 t307 t308 t309 true) else (quoinlaw05_LinesBack.j0 k l0 a1 t306 t307 t308 t309 (decide (a1 > (l0.length : Int))))) = some r := H
    have A6 := Aside0.mk A60
    clear A60
    have HC7 := Aside0.mk H
    clear H
    go_enter Tryd.func7, Tryd.ntmps7
    go_upto_region 5 with (first | ((with_reducible refine gate_callee (f := 8) rfl ?_); refine goesL_ (some 14) rfl rfl Tryd.func8 (by kernel_rfl) rfl #[] rfl (by (try simp only [List.map_toArray, List.map_cons, List.map_nil]); first | done | rfl | (simp only [List.length_drop, List.length_take]; rfl)) ?_; (with_reducible refine (quoinlaw05_alive.calls k  true _ A3.out).mono ?_); rintro e w8 ⟨rfl, hb⟩; refine ⟨_, rfl, ?_⟩; have n0_ := Aside0.mk (below_step (by repeat (first | (with_reducible first | exact HB.out | apply below_alloc | apply pw_below_drewN | apply below_drew1) | exact HB.out)) hb); clear HB; have HB := n0_; clear n0_; (try clear hb); (try clear hb2); (try clear hk); (try clear hi)) | ((with_reducible refine gate_callee (f := 16) rfl ?_); refine goesL_ (some 19) rfl rfl Tryd.func16 (by kernel_rfl) rfl #[.slice A0 l0.length c0, .int .i64 a1] rfl (by (try simp only [List.map_toArray, List.map_cons, List.map_nil]); first | done | rfl | (simp only [List.length_drop, List.length_take]; rfl)) ?_; (with_reducible refine (lines_Of.calls _ _ l0 a1 t306 t307 _ ?side1 ?side2 A5.out).mono ?_); (case side1 => repeat (first | exact (Kd.C_below HR0.out HB.out) | (with_reducible refine Kd.C_alloc ?_ _) | (with_reducible refine Kd.C_drewN ?_ _) | (with_reducible refine Kd.C_drew ?_))); (case side2 => exact HC0.out); rintro e w9 ⟨rfl, hb⟩; refine ⟨_, rfl, ?_⟩; have n0_ := Aside0.mk (below_step (by repeat (first | (with_reducible first | exact HB.out | apply below_alloc | apply pw_below_drewN | apply below_drew1) | exact HB.out)) hb); clear HB; have HB := n0_; clear n0_; (try clear hb); (try clear hb2); (try clear hk); (try clear hi)) | ((with_reducible refine gate_callee (f := 17) rfl ?_); refine goesL_ (some 25) rfl rfl Tryd.func17 (by kernel_rfl) rfl #[.slice A0 l0.length c0, .int .i64 a1] rfl (by (try simp only [List.map_toArray, List.map_cons, List.map_nil]); first | done | rfl | (simp only [List.length_drop, List.length_take]; rfl)) ?_; (with_reducible refine (lines_Column.calls k _ _ l0 a1 t308 t309 _ ?side1 ?side2 A6.out).mono ?_); (case side1 => repeat (first | exact (Kd.C_below HR0.out HB.out) | (with_reducible refine Kd.C_alloc ?_ _) | (with_reducible refine Kd.C_drewN ?_ _) | (with_reducible refine Kd.C_drew ?_))); (case side2 => exact HC0.out); rintro e w' ⟨rfl, ⟨nd, rfl⟩⟩; refine ⟨_, rfl, ?_⟩))
    (try simp only [Act.put, List.setIfInBounds_toArray, List.set_cons_zero, List.set_cons_succ])
    go_cut [35] (fun v35 wc => ∃ (kq : Nat) (x35_6 : Bool), v35 = .bool x35_6 ∧ Aside0 (quoinlaw05_LinesBack.j0 kq l0 a1 t306 t307 t308 t309 x35_6 = some r) ∧ Aside0 (kq ≤ k) ∧ Aside0 (Below w.heap.size w wc))
    case first =>
      have H := HC7.out
      clear HC7
      by_cases c10 : a1 < 0
      · rw [if_pos c10] at H
        have c10b0 : decide (a1 < 0) = true := decide_eq_true c10
        clear c10
        (first | rw [c10b0] | (simp only [i64_w, i32_w]; rw [c10b0]) | skip)
        have H' := Aside0.mk H
        clear H
        go_wp2
        go_meet
        case rel => exact ⟨_, (true), (by first | rfl | (simp; done) | (simp [*]; done)), H', ⟨by first | omega | exact Nat.le_refl _⟩, ⟨by repeat (first | (with_reducible first | exact HB.out | apply below_alloc | apply pw_below_drewN | apply below_drew1) | exact HB.out)⟩⟩
      · rw [if_neg c10] at H
        have c10b0 : decide (a1 < 0) = false := decide_eq_false c10
        clear c10
        (first | rw [c10b0] | (simp only [i64_w, i32_w]; rw [c10b0]) | skip)
        have H' := Aside0.mk H
        clear H
        go_wp2
        go_meet
        case rel => exact ⟨_, (decide (a1 > (l0.length : Int))), (by first | rfl | (simp; done) | (simp [*]; done)), H', ⟨by first | omega | exact Nat.le_refl _⟩, ⟨by repeat (first | (with_reducible first | exact HB.out | apply below_alloc | apply pw_below_drewN | apply below_drew1) | exact HB.out)⟩⟩
    case rest =>
      clear HC7
      try clear c1
      try clear p2
      try clear c4
      try clear c7
      try clear c8
      try clear c10
      try clear c10b0
      obtain ⟨kq, x35_6, rfl, HA, HJ6, HB⟩ := hcut
      cases kq with
      | zero => exact absurd HA.out (by simp [quoinlaw05_LinesBack.j0])
      | succ kj6 =>
        have H := HA.out
        clear HA
        simp only [quoinlaw05_LinesBack.j0] at H
        by_cases c11 : x35_6 = true
        · subst c11
          have H1 : (if t307 = 2 then (some (t309 == 2)) else (some false)) = some r := by rw [if_pos rfl] at H; exact H
          clear H
          have H := H1
          clear H1
          by_cases c12 : t307 = 2
          · rw [if_pos c12] at H
            have c12b0 : (t307 == 2) = true := beq_iff_eq.mpr c12
            have c12b1 : (t307 != 2) = false := bne_eq_false_iff_eq.mpr c12
            clear c12
            obtain rfl := Option.some.inj H
            go_wp2
            go_ret
            exact ⟨by first | rfl | (simp [errW_none, errW_some] <;> rfl) | (simp [*, errW_none, errW_some] <;> rfl), by repeat (first | (with_reducible first | exact HB.out | apply below_alloc | apply pw_below_drewN | apply below_drew1) | exact HB.out)⟩
          · rw [if_neg c12] at H
            have c12b0 : (t307 == 2) = false := beq_eq_false_iff_ne.mpr c12
            have c12b1 : (t307 != 2) = true := bne_iff_ne.mpr c12
            obtain rfl := Option.some.inj H
            go_wp2
            go_ret
            exact ⟨by first | rfl | (simp [errW_none, errW_some] <;> rfl) | (simp [*, errW_none, errW_some] <;> rfl), by repeat (first | (with_reducible first | exact HB.out | apply below_alloc | apply pw_below_drewN | apply below_drew1) | exact HB.out)⟩
        · replace c11 := Bool.eq_false_iff.mpr c11
          subst c11
          have H1 : ((lines_Start.f kj6 l0 t306).bind fun bt310 => ((lines_End.f kj6 l0 t306).bind fun bt312 => (if t307 = 0 then (if t309 = 0 then (if bt310.2 = 0 then (if bt312.2 = 0 then (if (wrap64 (bt310.1 + t308)) = a1 then (if t308 < 0 then (quoinlaw05_LinesBack.j1 kj6 l0 bt310.1 bt312.1 true) else (if a1 > bt312.1 then (quoinlaw05_LinesBack.j1 kj6 l0 bt310.1 bt312.1 true) else (if t306 < 0 then (quoinlaw05_LinesBack.j1 kj6 l0 bt310.1 bt312.1 true) else ((lines_Count.f l0).bind fun t314 => (quoinlaw05_LinesBack.j1 kj6 l0 bt310.1 bt312.1 (decide (t306 ≥ t314))))))) else (quoinlaw05_LinesBack.j1 kj6 l0 bt310.1 bt312.1 true)) else (quoinlaw05_LinesBack.j1 kj6 l0 bt310.1 bt312.1 true)) else (quoinlaw05_LinesBack.j1 kj6 l0 bt310.1 bt312.1 true)) else (quoinlaw05_LinesBack.j1 kj6 l0 bt310.1 bt312.1 true)) else (quoinlaw05_LinesBack.j1 kj6 l0 bt310.1 bt312.1 true)))) = some r := by rw [if_neg (show ¬ (false = true) by decide)] at H; exact H
          clear H
          have H := H1
          clear H1
          replace H := Option.bind_eq_some_iff.mp H
          obtain ⟨⟨t310, t311⟩, A130, H⟩ := H
          replace H : ((lines_End.f kj6 l0 t306).bind fun bt312 => (if t307 = 0 then (if t309 = 0 then (if t311 = 0 then (if bt312.2 = 0 then (if (wrap64 (t310 + t308)) = a1 then (if t308 < 0 then (quoinlaw05_LinesBack.j1 kj6 l0 t310 bt312.1 true) else (if a1 > bt312.1 then (quoinlaw05_LinesBack.j1 kj6 l0 t310 bt312.1 true) else (if t306 < 0 then (quoinlaw05_LinesBack.j1 kj6 l0 t310 bt312.1 true) else ((lines_Count.f l0).bind fun t314 => (quoinlaw05_LinesBack.j1 kj6 l0 t310 bt312.1 (decide (t306 ≥ t314))))))) else (quoinlaw05_LinesBack.j1 kj6 l0 t310 bt312.1 true)) else (quoinlaw05_LinesBack.j1 kj6 l0 t310 bt312.1 true)) else (quoinlaw05_LinesBack.j1 kj6 l0 t310 bt312.1 true)) else (quoinlaw05_LinesBack.j1 kj6 l0 t310 bt312.1 true)) else (quoinlaw05_LinesBack.j1 kj6 l0 t310 bt312.1 true))) = some r := H
          have A13 := Aside0.mk A130
          clear A130
          replace H := Option.bind_eq_some_iff.mp H
          obtain ⟨⟨t312, t313⟩, A140, H⟩ := H
          replace H : (if t307 = 0 then (if t309 = 0 then (if t311 = 0 then (if t313 = 0 then (if (wrap64 (t310 + t308)) = a1 then (if t308 < 0 then (quoinlaw05_LinesBack.j1 kj6 l0 t310 t312 true) else (if a1 > t312 then (quoinlaw05_LinesBack.j1 kj6 l0 t310 t312 true) else (if t306 < 0 then (quoinlaw05_LinesBack.j1 kj6 l0 t310 t312 true) else ((lines_Count.f l0).bind fun t314 => (quoinlaw05_LinesBack.j1 kj6 l0 t310 t312 (decide (t306 ≥ t314))))))) else (quoinlaw05_LinesBack.j1 kj6 l0 t310 t312 true)) else (quoinlaw05_LinesBack.j1 kj6 l0 t310 t312 true)) else (quoinlaw05_LinesBack.j1 kj6 l0 t310 t312 true)) else (quoinlaw05_LinesBack.j1 kj6 l0 t310 t312 true)) else (quoinlaw05_LinesBack.j1 kj6 l0 t310 t312 true)) = some r := H
          have A14 := Aside0.mk A140
          clear A140
          have HC15 := Aside0.mk H
          clear H
          go_upto_region 9 with (first | ((with_reducible refine gate_callee (f := 13) rfl ?_); refine goesL_ (some 45) rfl rfl Tryd.func13 (by kernel_rfl) rfl #[.slice A0 l0.length c0, .int .i64 t306] rfl (by (try simp only [List.map_toArray, List.map_cons, List.map_nil]); first | done | rfl | (simp only [List.length_drop, List.length_take]; rfl)) ?_; (with_reducible refine (lines_Start.calls kj6 _ _ l0 t306 t310 t311 _ ?side1 ?side2 A13.out).mono ?_); (case side1 => repeat (first | exact (Kd.C_below HR0.out HB.out) | (with_reducible refine Kd.C_alloc ?_ _) | (with_reducible refine Kd.C_drewN ?_ _) | (with_reducible refine Kd.C_drew ?_))); (case side2 => exact HC0.out); rintro e w' ⟨rfl, ⟨nd, rfl⟩⟩; refine ⟨_, rfl, ?_⟩) | ((with_reducible refine gate_callee (f := 14) rfl ?_); refine goesL_ (some 51) rfl rfl Tryd.func14 (by kernel_rfl) rfl #[.slice A0 l0.length c0, .int .i64 t306] rfl (by (try simp only [List.map_toArray, List.map_cons, List.map_nil]); first | done | rfl | (simp only [List.length_drop, List.length_take]; rfl)) ?_; (with_reducible refine (lines_End.calls kj6 _ _ l0 t306 t312 t313 _ ?side1 ?side2 A14.out).mono ?_); (case side1 => repeat (first | exact (Kd.C_below HR0.out (by repeat (first | (with_reducible first | exact HB.out | apply below_alloc | apply pw_below_drewN | apply below_drew1) | exact HB.out))) | (with_reducible refine Kd.C_alloc ?_ _) | (with_reducible refine Kd.C_drewN ?_ _) | (with_reducible refine Kd.C_drew ?_))); (case side2 => exact HC0.out); rintro e w' ⟨rfl, ⟨nd, rfl⟩⟩; refine ⟨_, rfl, ?_⟩))
          (try simp only [Act.put, List.setIfInBounds_toArray, List.set_cons_zero, List.set_cons_succ])
          go_cut [93] (fun v93 wc => ∃ (kq : Nat) (x93_14 : Bool), v93 = .bool x93_14 ∧ Aside0 (quoinlaw05_LinesBack.j1 kq l0 t310 t312 x93_14 = some r) ∧ Aside0 (kq ≤ kj6) ∧ Aside0 (Below w.heap.size w wc))
          case first =>
            have H := HC15.out
            clear HC15
            by_cases c16 : t307 = 0
            · rw [if_pos c16] at H
              have c16b0 : (t307 == 0) = true := beq_iff_eq.mpr c16
              have c16b1 : (t307 != 0) = false := bne_eq_false_iff_eq.mpr c16
              clear c16
              (first | rw [c16b0] | (simp only [i64_w, i32_w]; rw [c16b0]) | skip)
              by_cases c17 : t309 = 0
              · rw [if_pos c17] at H
                have c17b0 : (t309 == 0) = true := beq_iff_eq.mpr c17
                have c17b1 : (t309 != 0) = false := bne_eq_false_iff_eq.mpr c17
                clear c17
                by_cases c18 : t311 = 0
                · rw [if_pos c18] at H
                  have c18b0 : (t311 == 0) = true := beq_iff_eq.mpr c18
                  have c18b1 : (t311 != 0) = false := bne_eq_false_iff_eq.mpr c18
                  clear c18
                  by_cases c19 : t313 = 0
                  · rw [if_pos c19] at H
                    have c19b0 : (t313 == 0) = true := beq_iff_eq.mpr c19
                    have c19b1 : (t313 != 0) = false := bne_eq_false_iff_eq.mpr c19
                    clear c19
                    by_cases c20 : (wrap64 (t310 + t308)) = a1
                    · rw [if_pos c20] at H
                      have c20b0 : ((wrap64 (t310 + t308)) == a1) = true := beq_iff_eq.mpr c20
                      have c20b1 : ((wrap64 (t310 + t308)) != a1) = false := bne_eq_false_iff_eq.mpr c20
                      clear c20
                      by_cases c21 : t308 < 0
                      · rw [if_pos c21] at H
                        have c21b0 : decide (t308 < 0) = true := decide_eq_true c21
                        clear c21
                        have H' := Aside0.mk H
                        clear H
                        go_wp2
                        go_meet
                        case rel => exact ⟨_, (true), (by first | rfl | (simp; done) | (simp [*]; done)), H', ⟨by have := HJ6.out; first | omega | exact Nat.le_refl _⟩, ⟨by repeat (first | (with_reducible first | exact HB.out | apply below_alloc | apply pw_below_drewN | apply below_drew1) | exact HB.out)⟩⟩
                      · rw [if_neg c21] at H
                        have c21b0 : decide (t308 < 0) = false := decide_eq_false c21
                        clear c21
                        by_cases c22 : a1 > t312
                        · rw [if_pos c22] at H
                          have c22b0 : decide (t312 < a1) = true := decide_eq_true c22
                          clear c22
                          have H' := Aside0.mk H
                          clear H
                          go_wp2
                          go_meet
                          case rel => exact ⟨_, (true), (by first | rfl | (simp; done) | (simp [*]; done)), H', ⟨by have := HJ6.out; first | omega | exact Nat.le_refl _⟩, ⟨by repeat (first | (with_reducible first | exact HB.out | apply below_alloc | apply pw_below_drewN | apply below_drew1) | exact HB.out)⟩⟩
                        · rw [if_neg c22] at H
                          have c22b0 : decide (t312 < a1) = false := decide_eq_false c22
                          clear c22
                          by_cases c23 : t306 < 0
                          · rw [if_pos c23] at H
                            have c23b0 : decide (t306 < 0) = true := decide_eq_true c23
                            clear c23
                            have H' := Aside0.mk H
                            clear H
                            go_wp2
                            go_meet
                            case rel => exact ⟨_, (true), (by first | rfl | (simp; done) | (simp [*]; done)), H', ⟨by have := HJ6.out; first | omega | exact Nat.le_refl _⟩, ⟨by repeat (first | (with_reducible first | exact HB.out | apply below_alloc | apply pw_below_drewN | apply below_drew1) | exact HB.out)⟩⟩
                          · rw [if_neg c23] at H
                            have c23b0 : decide (t306 < 0) = false := decide_eq_false c23
                            clear c23
                            replace H := Option.bind_eq_some_iff.mp H
                            obtain ⟨t314, A240, H⟩ := H
                            replace H : (quoinlaw05_LinesBack.j1 kj6 l0 t310 t312 (decide (t306 ≥ t314))) = some r := H
                            have A24 := Aside0.mk A240
                            clear A240
                            have H' := Aside0.mk H
                            clear H
                            go_wp2_with (first | (go_at_call 12; (with_reducible refine (lines_Count.calls _ _ l0 t314 _ ?side1 ?side2 A24.out).mono ?_); (case side1 => repeat (first | exact (Kd.C_below HR0.out HB.out) | (with_reducible refine Kd.C_alloc ?_ _) | (with_reducible refine Kd.C_drewN ?_ _) | (with_reducible refine Kd.C_drew ?_))); (case side2 => exact HC0.out); rintro e w25 ⟨rfl, hb⟩; have n0_ := Aside0.mk (below_step (by repeat (first | (with_reducible first | exact HB.out | apply below_alloc | apply pw_below_drewN | apply below_drew1) | exact HB.out)) hb); clear HB; have HB := n0_; clear n0_; (try clear hb); (try clear hb2); (try clear hk); (try clear hi)))
                            go_meet
                            case rel => exact ⟨_, (decide (t306 ≥ t314)), (by first | rfl | (simp; done) | (simp [*]; done)), H', ⟨by have := HJ6.out; first | omega | exact Nat.le_refl _⟩, ⟨by repeat (first | (with_reducible first | exact HB.out | apply below_alloc | apply pw_below_drewN | apply below_drew1) | exact HB.out)⟩⟩
                    · rw [if_neg c20] at H
                      have c20b0 : ((wrap64 (t310 + t308)) == a1) = false := beq_eq_false_iff_ne.mpr c20
                      have c20b1 : ((wrap64 (t310 + t308)) != a1) = true := bne_iff_ne.mpr c20
                      have H' := Aside0.mk H
                      clear H
                      go_wp2
                      go_meet
                      case rel => exact ⟨_, (true), (by first | rfl | (simp; done) | (simp [*]; done)), H', ⟨by have := HJ6.out; first | omega | exact Nat.le_refl _⟩, ⟨by repeat (first | (with_reducible first | exact HB.out | apply below_alloc | apply pw_below_drewN | apply below_drew1) | exact HB.out)⟩⟩
                  · rw [if_neg c19] at H
                    have c19b0 : (t313 == 0) = false := beq_eq_false_iff_ne.mpr c19
                    have c19b1 : (t313 != 0) = true := bne_iff_ne.mpr c19
                    have H' := Aside0.mk H
                    clear H
                    go_wp2
                    go_meet
                    case rel => exact ⟨_, (true), (by first | rfl | (simp; done) | (simp [*]; done)), H', ⟨by have := HJ6.out; first | omega | exact Nat.le_refl _⟩, ⟨by repeat (first | (with_reducible first | exact HB.out | apply below_alloc | apply pw_below_drewN | apply below_drew1) | exact HB.out)⟩⟩
                · rw [if_neg c18] at H
                  have c18b0 : (t311 == 0) = false := beq_eq_false_iff_ne.mpr c18
                  have c18b1 : (t311 != 0) = true := bne_iff_ne.mpr c18
                  have H' := Aside0.mk H
                  clear H
                  go_wp2
                  go_meet
                  case rel => exact ⟨_, (true), (by first | rfl | (simp; done) | (simp [*]; done)), H', ⟨by have := HJ6.out; first | omega | exact Nat.le_refl _⟩, ⟨by repeat (first | (with_reducible first | exact HB.out | apply below_alloc | apply pw_below_drewN | apply below_drew1) | exact HB.out)⟩⟩
              · rw [if_neg c17] at H
                have c17b0 : (t309 == 0) = false := beq_eq_false_iff_ne.mpr c17
                have c17b1 : (t309 != 0) = true := bne_iff_ne.mpr c17
                have H' := Aside0.mk H
                clear H
                go_wp2
                go_meet
                case rel => exact ⟨_, (true), (by first | rfl | (simp; done) | (simp [*]; done)), H', ⟨by have := HJ6.out; first | omega | exact Nat.le_refl _⟩, ⟨by repeat (first | (with_reducible first | exact HB.out | apply below_alloc | apply pw_below_drewN | apply below_drew1) | exact HB.out)⟩⟩
            · rw [if_neg c16] at H
              have c16b0 : (t307 == 0) = false := beq_eq_false_iff_ne.mpr c16
              have c16b1 : (t307 != 0) = true := bne_iff_ne.mpr c16
              (first | rw [c16b0] | (simp only [i64_w, i32_w]; rw [c16b0]) | skip)
              have H' := Aside0.mk H
              clear H
              go_wp2
              go_meet
              case rel => exact ⟨_, (true), (by first | rfl | (simp; done) | (simp [*]; done)), H', ⟨by have := HJ6.out; first | omega | exact Nat.le_refl _⟩, ⟨by repeat (first | (with_reducible first | exact HB.out | apply below_alloc | apply pw_below_drewN | apply below_drew1) | exact HB.out)⟩⟩
          case rest =>
            clear HC15
            try clear c1
            try clear c2
            try clear p2
            try clear c4
            try clear p6
            try clear c7
            try clear c8
            try clear c10
            try clear c10b0
            try clear c11
            try clear c12
            try clear c12b0
            try clear c12b1
            try clear c13
            try clear c14
            try clear c16
            try clear c16b0
            try clear c16b1
            try clear c17
            try clear c17b0
            try clear c17b1
            try clear c18
            try clear c18b0
            try clear c18b1
            try clear c19
            try clear c19b0
            try clear c19b1
            try clear c20
            try clear c20b0
            try clear c20b1
            try clear c21
            try clear c21b0
            try clear c22
            try clear c22b0
            try clear c23
            try clear c23b0
            try clear p2
            obtain ⟨kq, x93_14, rfl, HA, HJ14, HB⟩ := hcut
            cases kq with
            | zero => exact absurd HA.out (by simp [quoinlaw05_LinesBack.j1])
            | succ kj14 =>
              have H := HA.out
              clear HA
              simp only [quoinlaw05_LinesBack.j1] at H
              by_cases c26 : x93_14 = true
              · subst c26
                have H1 : (some false) = some r := by rw [if_pos rfl] at H; exact H
                clear H
                have H := H1
                clear H1
                obtain rfl := Option.some.inj H
                go_wp2
                go_ret
                exact ⟨by first | rfl | (simp [errW_none, errW_some] <;> rfl) | (simp [*, errW_none, errW_some] <;> rfl), by repeat (first | (with_reducible first | exact HB.out | apply below_alloc | apply pw_below_drewN | apply below_drew1) | exact HB.out)⟩
              · replace c26 := Bool.eq_false_iff.mpr c26
                subst c26
                have H1 : (quoinlaw05_LinesBack.l0 kj14 l0 t310 t312 t310) = some r := by rw [if_neg (show ¬ (false = true) by decide)] at H; exact H
                clear H
                have H := H1
                clear H1
                have H' := Aside0.mk H
                clear H
                go_wp2
                go_loopg [13] kj14 (fun kq v13 w' => ∃ (x13_3 : Int), v13 = .int .i64 x13_3 ∧ Aside0 (quoinlaw05_LinesBack.l0 kq l0 t310 t312 x13_3 = some r) ∧ Aside0 (kq ≤ kj14) ∧ Aside0 (Below w.heap.size w w'))
                case atStart => exact ⟨(t310), (by first | rfl | (simp; done) | (simp [*]; done)), H', ⟨Nat.le_refl _⟩, ⟨by repeat (first | (with_reducible first | exact HB.out | apply below_alloc | apply pw_below_drewN | apply below_drew1) | exact HB.out)⟩⟩
                case round =>
                  clear H'
                  try clear c1
                  try clear c2
                  try clear p2
                  try clear c4
                  try clear p6
                  try clear c7
                  try clear c8
                  try clear c10
                  try clear c10b0
                  try clear c11
                  try clear c12
                  try clear c12b0
                  try clear c12b1
                  try clear c13
                  try clear c14
                  try clear c16
                  try clear c16b0
                  try clear c16b1
                  try clear c17
                  try clear c17b0
                  try clear c17b1
                  try clear c18
                  try clear c18b0
                  try clear c18b1
                  try clear c19
                  try clear c19b0
                  try clear c19b1
                  try clear c20
                  try clear c20b0
                  try clear c20b1
                  try clear c21
                  try clear c21b0
                  try clear c22
                  try clear c22b0
                  try clear c23
                  try clear c23b0
                  try clear c26
                  try clear p2
                  try clear p6
                  obtain ⟨x13_3, rfl, HA, HK3, HB⟩ := hrel
                  cases gk with
                  | zero => exact absurd HA.out (by simp [quoinlaw05_LinesBack.l0])
                  | succ k3 =>
                    have H := HA.out
                    clear HA
                    simp only [quoinlaw05_LinesBack.l0] at H
                    by_cases c27 : x13_3 < t312
                    · rw [if_pos c27] at H
                      have c27b0 : decide (x13_3 < t312) = true := decide_eq_true c27
                      clear c27
                      by_cases c28 : 0 ≤ x13_3
                      · rw [if_pos c28] at H
                        have c28b0 : decide (0 ≤ x13_3) = true := decide_eq_true c28
                        clear c28
                        by_cases c29 : x13_3 < (l0.length : Int)
                        · rw [if_pos c29] at H
                          have c29b0 : decide (x13_3 < (l0.length : Int)) = true := decide_eq_true c29
                          clear c29
                          by_cases c30 : (rd l0 x13_3) = 10
                          · rw [if_pos c30] at H
                            have c30b0 : ((rd l0 x13_3) == 10) = true := beq_iff_eq.mpr c30
                            have c30b1 : ((rd l0 x13_3) != 10) = false := bne_eq_false_iff_eq.mpr c30
                            clear c30
                            obtain rfl := Option.some.inj H
                            have p315 : 0 ≤ (x13_3 : Int) := of_decide_eq_true (by first | (with_reducible assumption) | assumption)
                            have q315 : x13_3 < (l0.length : Int) := of_decide_eq_true (by first | (with_reducible assumption) | assumption)
                            obtain ⟨ad315, e315, hx315_0⟩ := Kd.at_int HR0.out x13_3 p315 q315
                            cases e315
                            replace hx315_0 := (HB.out.cell (World.block_lt_of_cell? w _ hx315_0)).trans hx315_0
                            replace p315 := eq_true p315
                            replace q315 := eq_true q315
                            go_wp2
                            go_ret
                            exact ⟨by first | rfl | (simp [errW_none, errW_some] <;> rfl) | (simp [*, errW_none, errW_some] <;> rfl), by repeat (first | (with_reducible first | exact HB.out | apply below_alloc | apply pw_below_drewN | apply below_drew1) | exact HB.out)⟩
                          · rw [if_neg c30] at H
                            have c30b0 : ((rd l0 x13_3) == 10) = false := beq_eq_false_iff_ne.mpr c30
                            have c30b1 : ((rd l0 x13_3) != 10) = true := bne_iff_ne.mpr c30
                            have H' := Aside0.mk H
                            clear H
                            have p315 : 0 ≤ (x13_3 : Int) := of_decide_eq_true (by first | (with_reducible assumption) | assumption)
                            have q315 : x13_3 < (l0.length : Int) := of_decide_eq_true (by first | (with_reducible assumption) | assumption)
                            obtain ⟨ad315, e315, hx315_0⟩ := Kd.at_int HR0.out x13_3 p315 q315
                            cases e315
                            replace hx315_0 := (HB.out.cell (World.block_lt_of_cell? w _ hx315_0)).trans hx315_0
                            replace p315 := eq_true p315
                            replace q315 := eq_true q315
                            go_wp2
                            go_roundg k3
                            case measure => have := HJ6.out; have := HJ14.out; have := HK3.out; omega
                            case rel => exact ⟨(wrap64 (x13_3 + 1)), (by first | rfl | (simp; done) | (simp [*]; done)), H', ⟨by have := HJ6.out; have := HJ14.out; have := HK3.out; omega⟩, ⟨by repeat (first | (with_reducible first | exact HB.out | apply below_alloc | apply pw_below_drewN | apply below_drew1) | exact HB.out)⟩⟩
                        · rw [if_neg c29] at H
                          exact absurd H (by simp)
                      · rw [if_neg c28] at H
                        exact absurd H (by simp)
                    · rw [if_neg c27] at H
                      have c27b0 : decide (x13_3 < t312) = false := decide_eq_false c27
                      clear c27
                      by_cases c31 : t310 = 0
                      · rw [if_pos c31] at H
                        have c31b0 : (t310 == 0) = true := beq_iff_eq.mpr c31
                        have c31b1 : (t310 != 0) = false := bne_eq_false_iff_eq.mpr c31
                        clear c31
                        by_cases c32 : t312 = (l0.length : Int)
                        · rw [if_pos c32] at H
                          have c32b0 : (t312 == (l0.length : Int)) = true := beq_iff_eq.mpr c32
                          have c32b1 : (t312 != (l0.length : Int)) = false := bne_eq_false_iff_eq.mpr c32
                          clear c32
                          obtain rfl := Option.some.inj H
                          go_wp2
                          go_ret
                          exact ⟨by first | rfl | (simp [errW_none, errW_some] <;> rfl) | (simp [*, errW_none, errW_some] <;> rfl), by repeat (first | (with_reducible first | exact HB.out | apply below_alloc | apply pw_below_drewN | apply below_drew1) | exact HB.out)⟩
                        · rw [if_neg c32] at H
                          have c32b0 : (t312 == (l0.length : Int)) = false := beq_eq_false_iff_ne.mpr c32
                          have c32b1 : (t312 != (l0.length : Int)) = true := bne_iff_ne.mpr c32
                          by_cases c33 : 0 ≤ t312
                          · rw [if_pos c33] at H
                            have c33b0 : decide (0 ≤ t312) = true := decide_eq_true c33
                            clear c33
                            by_cases c34 : t312 < (l0.length : Int)
                            · rw [if_pos c34] at H
                              have c34b0 : decide (t312 < (l0.length : Int)) = true := decide_eq_true c34
                              clear c34
                              obtain rfl := Option.some.inj H
                              have p316 : 0 ≤ (t312 : Int) := of_decide_eq_true (by first | (with_reducible assumption) | assumption)
                              have q316 : t312 < (l0.length : Int) := of_decide_eq_true (by first | (with_reducible assumption) | assumption)
                              obtain ⟨ad316, e316, hx316_0⟩ := Kd.at_int HR0.out t312 p316 q316
                              cases e316
                              replace hx316_0 := (HB.out.cell (World.block_lt_of_cell? w _ hx316_0)).trans hx316_0
                              replace p316 := eq_true p316
                              replace q316 := eq_true q316
                              go_wp2
                              go_ret
                              exact ⟨by first | rfl | (simp [errW_none, errW_some] <;> rfl) | (simp [*, errW_none, errW_some] <;> rfl), by repeat (first | (with_reducible first | exact HB.out | apply below_alloc | apply pw_below_drewN | apply below_drew1) | exact HB.out)⟩
                            · rw [if_neg c34] at H
                              exact absurd H (by simp)
                          · rw [if_neg c33] at H
                            exact absurd H (by simp)
                      · rw [if_neg c31] at H
                        have c31b0 : (t310 == 0) = false := beq_eq_false_iff_ne.mpr c31
                        have c31b1 : (t310 != 0) = true := bne_iff_ne.mpr c31
                        obtain ⟨ji35, hji35⟩ : ∃ j_ : Int, (wrap64 (t310 - 1)) = j_ := ⟨_, rfl⟩
                        replace H : (if 0 ≤ (ji35) then (if (ji35) < (l0.length : Int) then (if (rd l0 (ji35)) = 10 then (if t312 = (l0.length : Int) then (some true) else (if 0 ≤ t312 then (if t312 < (l0.length : Int) then (some ((rd l0 t312) == 10)) else (none)) else (none))) else (some false)) else (none)) else (none)) = some r := by first | (rw [hji35] at H; exact H) | (simp only [hji35] at H ⊢; exact H)
                        have hji35w : (IntKind.i64.wrap (t310 - 1)) = ji35 := (i64_w _).trans hji35
                        by_cases c36 : 0 ≤ (ji35)
                        · rw [if_pos c36] at H
                          have c36b0 : decide (0 ≤ (ji35)) = true := decide_eq_true c36
                          clear c36
                          by_cases c37 : (ji35) < (l0.length : Int)
                          · rw [if_pos c37] at H
                            have c37b0 : decide ((ji35) < (l0.length : Int)) = true := decide_eq_true c37
                            clear c37
                            by_cases c38 : (rd l0 (ji35)) = 10
                            · rw [if_pos c38] at H
                              have c38b0 : ((rd l0 (ji35)) == 10) = true := beq_iff_eq.mpr c38
                              have c38b1 : ((rd l0 (ji35)) != 10) = false := bne_eq_false_iff_eq.mpr c38
                              clear c38
                              by_cases c39 : t312 = (l0.length : Int)
                              · rw [if_pos c39] at H
                                have c39b0 : (t312 == (l0.length : Int)) = true := beq_iff_eq.mpr c39
                                have c39b1 : (t312 != (l0.length : Int)) = false := bne_eq_false_iff_eq.mpr c39
                                clear c39
                                obtain rfl := Option.some.inj H
                                have p317 : 0 ≤ ((ji35) : Int) := of_decide_eq_true (by first | (with_reducible assumption) | assumption)
                                have q317 : (ji35) < (l0.length : Int) := of_decide_eq_true (by first | (with_reducible assumption) | assumption)
                                obtain ⟨ad317, e317, hx317_0⟩ := Kd.at_int HR0.out (ji35) p317 q317
                                cases e317
                                replace hx317_0 := (HB.out.cell (World.block_lt_of_cell? w _ hx317_0)).trans hx317_0
                                replace p317 := eq_true p317
                                replace q317 := eq_true q317
                                go_wp2
                                go_ret
                                exact ⟨by first | rfl | (simp [errW_none, errW_some] <;> rfl) | (simp only [← hji35]; first | rfl | (simp [errW_none, errW_some] <;> rfl)) | (simp [*, errW_none, errW_some] <;> rfl), by repeat (first | (with_reducible first | exact HB.out | apply below_alloc | apply pw_below_drewN | apply below_drew1) | exact HB.out)⟩
                              · rw [if_neg c39] at H
                                have c39b0 : (t312 == (l0.length : Int)) = false := beq_eq_false_iff_ne.mpr c39
                                have c39b1 : (t312 != (l0.length : Int)) = true := bne_iff_ne.mpr c39
                                by_cases c40 : 0 ≤ t312
                                · rw [if_pos c40] at H
                                  have c40b0 : decide (0 ≤ t312) = true := decide_eq_true c40
                                  clear c40
                                  by_cases c41 : t312 < (l0.length : Int)
                                  · rw [if_pos c41] at H
                                    have c41b0 : decide (t312 < (l0.length : Int)) = true := decide_eq_true c41
                                    clear c41
                                    obtain rfl := Option.some.inj H
                                    have p317 : 0 ≤ ((ji35) : Int) := of_decide_eq_true (by first | (with_reducible assumption) | assumption)
                                    have q317 : (ji35) < (l0.length : Int) := of_decide_eq_true (by first | (with_reducible assumption) | assumption)
                                    obtain ⟨ad317, e317, hx317_0⟩ := Kd.at_int HR0.out (ji35) p317 q317
                                    cases e317
                                    replace hx317_0 := (HB.out.cell (World.block_lt_of_cell? w _ hx317_0)).trans hx317_0
                                    replace p317 := eq_true p317
                                    replace q317 := eq_true q317
                                    have p318 : 0 ≤ (t312 : Int) := of_decide_eq_true (by first | (with_reducible assumption) | assumption)
                                    have q318 : t312 < (l0.length : Int) := of_decide_eq_true (by first | (with_reducible assumption) | assumption)
                                    obtain ⟨ad318, e318, hx318_0⟩ := Kd.at_int HR0.out t312 p318 q318
                                    obtain rfl : ad317 = ad318 := (by injection e318)
                                    replace hx318_0 := (HB.out.cell (World.block_lt_of_cell? w _ hx318_0)).trans hx318_0
                                    replace p318 := eq_true p318
                                    replace q318 := eq_true q318
                                    go_wp2
                                    go_ret
                                    exact ⟨by first | rfl | (simp [errW_none, errW_some] <;> rfl) | (simp only [← hji35]; first | rfl | (simp [errW_none, errW_some] <;> rfl)) | (simp [*, errW_none, errW_some] <;> rfl), by repeat (first | (with_reducible first | exact HB.out | apply below_alloc | apply pw_below_drewN | apply below_drew1) | exact HB.out)⟩
                                  · rw [if_neg c41] at H
                                    exact absurd H (by simp)
                                · rw [if_neg c40] at H
                                  exact absurd H (by simp)
                            · rw [if_neg c38] at H
                              have c38b0 : ((rd l0 (ji35)) == 10) = false := beq_eq_false_iff_ne.mpr c38
                              have c38b1 : ((rd l0 (ji35)) != 10) = true := bne_iff_ne.mpr c38
                              obtain rfl := Option.some.inj H
                              have p317 : 0 ≤ ((ji35) : Int) := of_decide_eq_true (by first | (with_reducible assumption) | assumption)
                              have q317 : (ji35) < (l0.length : Int) := of_decide_eq_true (by first | (with_reducible assumption) | assumption)
                              obtain ⟨ad317, e317, hx317_0⟩ := Kd.at_int HR0.out (ji35) p317 q317
                              cases e317
                              replace hx317_0 := (HB.out.cell (World.block_lt_of_cell? w _ hx317_0)).trans hx317_0
                              replace p317 := eq_true p317
                              replace q317 := eq_true q317
                              go_wp2
                              go_ret
                              exact ⟨by first | rfl | (simp [errW_none, errW_some] <;> rfl) | (simp only [← hji35]; first | rfl | (simp [errW_none, errW_some] <;> rfl)) | (simp [*, errW_none, errW_some] <;> rfl), by repeat (first | (with_reducible first | exact HB.out | apply below_alloc | apply pw_below_drewN | apply below_drew1) | exact HB.out)⟩
                          · rw [if_neg c37] at H
                            exact absurd H (by simp)
                        · rw [if_neg c36] at H
                          exact absurd H (by simp)
  · replace c4 := Bool.eq_false_iff.mpr c4
    subst c4
    have H1 : (some false) = some r := by rw [if_neg (show ¬ (false = true) by decide)] at H; exact H
    clear H
    have H := H1
    clear H1
    obtain rfl := Option.some.inj H
    go_enter Tryd.func7, Tryd.ntmps7
    go_wp2_with (first | ((with_reducible refine gate_callee (f := 8) rfl ?_); refine goesL_ (some 14) rfl rfl Tryd.func8 (by kernel_rfl) rfl #[] rfl (by (try simp only [List.map_toArray, List.map_cons, List.map_nil]); first | done | rfl | (simp only [List.length_drop, List.length_take]; rfl)) ?_; (with_reducible refine (quoinlaw05_alive.calls k  false _ A3.out).mono ?_); rintro e w42 ⟨rfl, hb⟩; refine ⟨_, rfl, ?_⟩; have n0_ := Aside0.mk (below_step (by repeat (first | (with_reducible first | exact HB.out | apply below_alloc | apply pw_below_drewN | apply below_drew1) | exact HB.out)) hb); clear HB; have HB := n0_; clear n0_; (try clear hb); (try clear hb2); (try clear hk); (try clear hi)))
    go_ret
    exact ⟨by first | rfl | (simp [errW_none, errW_some] <;> rfl) | (simp [*, errW_none, errW_some] <;> rfl), by repeat (first | (with_reducible first | exact HB.out | apply below_alloc | apply pw_below_drewN | apply below_drew1) | exact HB.out)⟩

end Go.Proofs.YtaljihphjppjgaaDoor.X
