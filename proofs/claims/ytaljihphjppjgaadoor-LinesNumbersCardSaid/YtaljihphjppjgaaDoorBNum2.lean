/-
  Texts of one proof in one file (wip/bundle.py): X11, X13, LNP, X24, X25, X26, X27, X28, X29, X31, X32, X30.
  Conditions: none.
-/
import Derived.Test.YtaljihphjppjgaaDoorBNum1
section
-- Written by wip/xprint.py over the kit's print.py: the Lean function of each Go function, and the proof that the Go text comes to it.
namespace Go.Proofs.YtaljihphjppjgaaDoor.X
open Go.RowKit Go.Proofs.YtaljihphjppjgaaDoorW.PrintWords Go.Proofs.YtaljihphjppjgaaDoorW.PrintLast Go.Proofs.YtaljihphjppjgaaDoorW.PrintMore
attribute [local go_sem] max2_int min2_int max_two min_two max_three min_three max_four min_four   -- for this text's walks alone
set_option linter.unusedVariables false
set_option linter.unusedSimpArgs false

/-! ### lines_Rest: function 15 -/
def lines_Rest.f (k : Nat) (l0 : List Int) (a1 : Int) : Option (Int) := (lines_head.f k l0 (mn (mx a1 0) (l0.length : Int))).bind fun t113 => (if (mn (mx a1 0) (l0.length : Int)) > t113 then ((lines_tail.f l0 (mn (mx a1 0) (l0.length : Int))).bind fun t114 => (if (mn (mx a1 0) (l0.length : Int)) = t114 then (some (wrap64 ((mn (mx a1 0) (l0.length : Int)) - 1))) else (some (mn (mx a1 0) (l0.length : Int))))) else (some (mn (mx a1 0) (l0.length : Int))))
theorem lines_Rest.mono : ∀ a0 a1 k, LeO (lines_Rest.f k a0 a1) (lines_Rest.f (k + 1) a0 a1) := by
  intro a0 a1 k
  unfold lines_Rest.f
  repeat' first
      | (with_reducible exact lines_head.mono _ _ _)
      | (with_reducible exact LeO.refl _)
      | (with_reducible exact LeO.none _)
      | (with_reducible refine LeO.ite ?_ ?_)
      | (with_reducible refine LeO.bind ?_ (fun _ => ?_))
      | exact lines_head.mono _ _ _
      | exact LeO.none _
      | refine LeO.ite ?_ ?_
      | refine LeO.bind ?_ (fun _ => ?_)
set_option maxHeartbeats 8000000 in
set_option maxRecDepth 100000 in
theorem lines_Rest.calls (k : Nat) (A0 : Option Addr) (c0 : Nat) (l0 : List Int) (a1 : Int) (r : Int) (w : World) (hr0 : Kd.C (Kd.int .u8) w A0 l0.length l0) (hc0 : l0.length ≤ c0) (h : lines_Rest.f k l0 a1 = some r) :
    Calls Tryd.prog 15 #[.slice A0 l0.length c0, .int .i64 a1] w fun e w' => e = .returned (.int .i64 r) ∧ Below w.heap.size w w' := by
  have HR0 := Aside0.mk hr0
  have HC0 := Aside0.mk hc0
  clear hr0 hc0
  have HB := Aside0.mk (Below.refl w.heap.size w)
  have H : ((lines_head.f k l0 (mn (mx a1 0) (l0.length : Int))).bind fun t113 => (if (mn (mx a1 0) (l0.length : Int)) > t113 then ((lines_tail.f l0 (mn (mx a1 0) (l0.length : Int))).bind fun t114 => (if (mn (mx a1 0) (l0.length : Int)) = t114 then (some (wrap64 ((mn (mx a1 0) (l0.length : Int)) - 1))) else (some (mn (mx a1 0) (l0.length : Int))))) else (some (mn (mx a1 0) (l0.length : Int))))) = some r := h
  clear h
  obtain ⟨ji3, hji3⟩ : ∃ j_ : Int, (mx a1 0) = j_ := ⟨_, rfl⟩
  replace H : ((lines_head.f k l0 (mn (ji3) (l0.length : Int))).bind fun t113 => (if (mn (ji3) (l0.length : Int)) > t113 then ((lines_tail.f l0 (mn (ji3) (l0.length : Int))).bind fun t114 => (if (mn (ji3) (l0.length : Int)) = t114 then (some (wrap64 ((mn (ji3) (l0.length : Int)) - 1))) else (some (mn (ji3) (l0.length : Int))))) else (some (mn (ji3) (l0.length : Int))))) = some r := by first | (rw [hji3] at H; exact H) | (simp only [hji3] at H ⊢; exact H)
  (try (have hji3l : 0 ≤ ji3 := by (rw [← hji3]; unfold mx; (repeat' split) <;> omega)))
  (try (have hji3m : 0 ≤ ji3 := by omega))
  have hji3_ : (if a1 < 0 then 0 else a1) = ji3 := hji3
  obtain ⟨ji4, hji4⟩ : ∃ j_ : Int, (mn (ji3) (l0.length : Int)) = j_ := ⟨_, rfl⟩
  replace H : ((lines_head.f k l0 (ji4)).bind fun t113 => (if (ji4) > t113 then ((lines_tail.f l0 (ji4)).bind fun t114 => (if (ji4) = t114 then (some (wrap64 ((ji4) - 1))) else (some ji4))) else (some ji4))) = some r := by first | (rw [hji4] at H; exact H) | (simp only [hji4] at H ⊢; exact H)
  have hji4_ : (if (l0.length : Int) < (ji3) then (l0.length : Int) else (ji3)) = ji4 := hji4
  replace H := Option.bind_eq_some_iff.mp H
  obtain ⟨t113, A50, H⟩ := H
  replace H : (if (ji4) > t113 then ((lines_tail.f l0 (ji4)).bind fun t114 => (if (ji4) = t114 then (some (wrap64 ((ji4) - 1))) else (some ji4))) else (some ji4)) = some r := H
  have A5 := Aside0.mk A50
  clear A50
  by_cases c6 : (ji4) > t113
  · rw [if_pos c6] at H
    have c6b0 : decide (t113 < (ji4)) = true := decide_eq_true c6
    clear c6
    replace H := Option.bind_eq_some_iff.mp H
    obtain ⟨t114, A70, H⟩ := H
    replace H : (if (ji4) = t114 then (some (wrap64 ((ji4) - 1))) else (some ji4)) = some r := H
    have A7 := Aside0.mk A70
    clear A70
    by_cases c8 : (ji4) = t114
    · rw [if_pos c8] at H
      have c8b0 : ((ji4) == t114) = true := beq_iff_eq.mpr c8
      have c8b1 : ((ji4) != t114) = false := bne_eq_false_iff_eq.mpr c8
      clear c8
      obtain rfl := Option.some.inj H
      go_enter Tryd.func15, Tryd.ntmps15
      go_wp2_with (first | ((with_reducible refine gate_callee (f := 33) rfl ?_); refine goesL_ (some 13) rfl rfl Tryd.func33 (by kernel_rfl) rfl #[.slice A0 l0.length c0, .int .i64 ji4] rfl (by (try simp only [List.map_toArray, List.map_cons, List.map_nil]); first | done | (simp only [hji4]; rfl) | rfl | (simp only [List.length_drop, List.length_take]; rfl)) ?_; (with_reducible refine (lines_head.calls k _ _ l0 ji4 t113 _ ?side1 ?side2 A5.out).mono ?_); (case side1 => repeat (first | exact HR0.out | (with_reducible refine Kd.C_alloc ?_ _) | (with_reducible refine Kd.C_drewN ?_ _) | (with_reducible refine Kd.C_drew ?_))); (case side2 => exact HC0.out); rintro e w' ⟨rfl, ⟨nd, rfl⟩⟩; refine ⟨_, rfl, ?_⟩) | (go_at_call 32; (with_reducible refine (lines_tail.calls _ _ l0 ji4 t114 _ ?side1 ?side2 A7.out).mono ?_); (case side1 => repeat (first | exact HR0.out | (with_reducible refine Kd.C_alloc ?_ _) | (with_reducible refine Kd.C_drewN ?_ _) | (with_reducible refine Kd.C_drew ?_))); (case side2 => exact HC0.out); rintro e w' ⟨rfl, ⟨nd, rfl⟩⟩))
      go_ret
      exact ⟨by first | rfl | (simp [errW_none, errW_some] <;> rfl) | (simp only [← hji3, ← hji4]; first | rfl | (simp [errW_none, errW_some] <;> rfl)) | (simp [*, errW_none, errW_some] <;> rfl), by repeat (first | (with_reducible first | exact HB.out | apply below_alloc | apply pw_below_drewN | apply below_drew1) | exact HB.out)⟩
    · rw [if_neg c8] at H
      have c8b0 : ((ji4) == t114) = false := beq_eq_false_iff_ne.mpr c8
      have c8b1 : ((ji4) != t114) = true := bne_iff_ne.mpr c8
      obtain rfl := Option.some.inj H
      go_enter Tryd.func15, Tryd.ntmps15
      go_wp2_with (first | ((with_reducible refine gate_callee (f := 33) rfl ?_); refine goesL_ (some 13) rfl rfl Tryd.func33 (by kernel_rfl) rfl #[.slice A0 l0.length c0, .int .i64 ji4] rfl (by (try simp only [List.map_toArray, List.map_cons, List.map_nil]); first | done | (simp only [hji4]; rfl) | rfl | (simp only [List.length_drop, List.length_take]; rfl)) ?_; (with_reducible refine (lines_head.calls k _ _ l0 ji4 t113 _ ?side1 ?side2 A5.out).mono ?_); (case side1 => repeat (first | exact HR0.out | (with_reducible refine Kd.C_alloc ?_ _) | (with_reducible refine Kd.C_drewN ?_ _) | (with_reducible refine Kd.C_drew ?_))); (case side2 => exact HC0.out); rintro e w' ⟨rfl, ⟨nd, rfl⟩⟩; refine ⟨_, rfl, ?_⟩) | (go_at_call 32; (with_reducible refine (lines_tail.calls _ _ l0 ji4 t114 _ ?side1 ?side2 A7.out).mono ?_); (case side1 => repeat (first | exact HR0.out | (with_reducible refine Kd.C_alloc ?_ _) | (with_reducible refine Kd.C_drewN ?_ _) | (with_reducible refine Kd.C_drew ?_))); (case side2 => exact HC0.out); rintro e w' ⟨rfl, ⟨nd, rfl⟩⟩))
      go_ret
      exact ⟨by first | rfl | (simp [errW_none, errW_some] <;> rfl) | (simp only [← hji3, ← hji4]; first | rfl | (simp [errW_none, errW_some] <;> rfl)) | (simp [*, errW_none, errW_some] <;> rfl), by repeat (first | (with_reducible first | exact HB.out | apply below_alloc | apply pw_below_drewN | apply below_drew1) | exact HB.out)⟩
  · rw [if_neg c6] at H
    have c6b0 : decide (t113 < (ji4)) = false := decide_eq_false c6
    clear c6
    obtain rfl := Option.some.inj H
    go_enter Tryd.func15, Tryd.ntmps15
    go_wp2_with (first | ((with_reducible refine gate_callee (f := 33) rfl ?_); refine goesL_ (some 13) rfl rfl Tryd.func33 (by kernel_rfl) rfl #[.slice A0 l0.length c0, .int .i64 ji4] rfl (by (try simp only [List.map_toArray, List.map_cons, List.map_nil]); first | done | (simp only [hji4]; rfl) | rfl | (simp only [List.length_drop, List.length_take]; rfl)) ?_; (with_reducible refine (lines_head.calls k _ _ l0 ji4 t113 _ ?side1 ?side2 A5.out).mono ?_); (case side1 => repeat (first | exact HR0.out | (with_reducible refine Kd.C_alloc ?_ _) | (with_reducible refine Kd.C_drewN ?_ _) | (with_reducible refine Kd.C_drew ?_))); (case side2 => exact HC0.out); rintro e w' ⟨rfl, ⟨nd, rfl⟩⟩; refine ⟨_, rfl, ?_⟩))
    go_ret
    exact ⟨by first | rfl | (simp [errW_none, errW_some] <;> rfl) | (simp only [← hji3, ← hji4]; first | rfl | (simp [errW_none, errW_some] <;> rfl)) | (simp [*, errW_none, errW_some] <;> rfl), by repeat (first | (with_reducible first | exact HB.out | apply below_alloc | apply pw_below_drewN | apply below_drew1) | exact HB.out)⟩

end Go.Proofs.YtaljihphjppjgaaDoor.X
end
section
-- Written by wip/xprint.py over the kit's print.py: the Lean function of each Go function, and the proof that the Go text comes to it.
namespace Go.Proofs.YtaljihphjppjgaaDoor.X
open Go.RowKit Go.Proofs.YtaljihphjppjgaaDoorW.PrintWords Go.Proofs.YtaljihphjppjgaaDoorW.PrintLast Go.Proofs.YtaljihphjppjgaaDoorW.PrintMore
attribute [local go_sem] max2_int min2_int max_two min_two max_three min_three max_four min_four   -- for this text's walks alone
set_option linter.unusedVariables false
set_option linter.unusedSimpArgs false

/-! ### lines_First: function 24 -/
def lines_First.l0 : Nat → List Int → Int → Int → Int → Option (Int × Int)
  | 0, _, _, _, _ => none
  | k + 1, x0, x6, x8, x9 => if x9 < x8 then (if 0 ≤ x9 then (if x9 < (x0.length : Int) then (if (rd x0 x9) = 32 then (lines_First.l0 k x0 x6 x8 (wrap64 (x9 + 1))) else (if (rd x0 x9) = 9 then (lines_First.l0 k x0 x6 x8 (wrap64 (x9 + 1))) else (some (x9, 0)))) else (none)) else (none)) else (some (mx x6 (wrap64 (x8 - 1)), 0))
def lines_First.f (k : Nat) (l0 : List Int) (a1 : Int) : Option (Int × Int) := (lines_Start.f k l0 a1).bind fun bt118 => (if bt118.2 = 0 then ((lines_tail.f l0 bt118.1).bind fun t120 => (lines_First.l0 k l0 bt118.1 t120 bt118.1)) else (some (0, bt118.2)))
theorem lines_First.mono_l : ∀ k, (∀ y0 y1 y2 y3, LeO (lines_First.l0 k y0 y1 y2 y3) (lines_First.l0 (k + 1) y0 y1 y2 y3))
  | 0 => fun _ _ _ _ r h => by simp [lines_First.l0] at h
  | k + 1 => by
    have ih0 := lines_First.mono_l k
    · intro y0 y1 y2 y3
      unfold lines_First.l0
      repeat' first
      | (with_reducible exact ih0 _ _ _ _)
      | (with_reducible exact lines_Start.mono _ _ _)
      | (with_reducible exact LeO.refl _)
      | (with_reducible exact LeO.none _)
      | (with_reducible refine LeO.ite ?_ ?_)
      | (with_reducible refine LeO.bind ?_ (fun _ => ?_))
      | exact ih0 _ _ _ _
      | exact lines_Start.mono _ _ _
      | exact LeO.none _
      | refine LeO.ite ?_ ?_
      | refine LeO.bind ?_ (fun _ => ?_)
theorem lines_First.mono : ∀ a0 a1 k, LeO (lines_First.f k a0 a1) (lines_First.f (k + 1) a0 a1) := by
  intro a0 a1 k
  have ih0 := lines_First.mono_l k
  unfold lines_First.f
  repeat' first
      | (with_reducible exact ih0 _ _ _ _)
      | (with_reducible exact lines_Start.mono _ _ _)
      | (with_reducible exact LeO.refl _)
      | (with_reducible exact LeO.none _)
      | (with_reducible refine LeO.ite ?_ ?_)
      | (with_reducible refine LeO.bind ?_ (fun _ => ?_))
      | exact ih0 _ _ _ _
      | exact lines_Start.mono _ _ _
      | exact LeO.none _
      | refine LeO.ite ?_ ?_
      | refine LeO.bind ?_ (fun _ => ?_)
set_option maxHeartbeats 8000000 in
set_option maxRecDepth 100000 in
theorem lines_First.calls (k : Nat) (A0 : Option Addr) (c0 : Nat) (l0 : List Int) (a1 : Int) (r1 : Int) (r2 : Int) (w : World) (hr0 : Kd.C (Kd.int .u8) w A0 l0.length l0) (hc0 : l0.length ≤ c0) (h : lines_First.f k l0 a1 = some (r1, r2)) :
    Calls Tryd.prog 24 #[.slice A0 l0.length c0, .int .i64 a1] w fun e w' => e = .returned (.tuple #[.int .i64 r1, .int .i64 r2]) ∧ Below w.heap.size w w' := by
  have HR0 := Aside0.mk hr0
  have HC0 := Aside0.mk hc0
  clear hr0 hc0
  have HB := Aside0.mk (Below.refl w.heap.size w)
  have H : ((lines_Start.f k l0 a1).bind fun bt118 => (if bt118.2 = 0 then ((lines_tail.f l0 bt118.1).bind fun t120 => (lines_First.l0 k l0 bt118.1 t120 bt118.1)) else (some (0, bt118.2)))) = some (r1, r2) := h
  clear h
  replace H := Option.bind_eq_some_iff.mp H
  obtain ⟨⟨t118, t119⟩, A30, H⟩ := H
  replace H : (if t119 = 0 then ((lines_tail.f l0 t118).bind fun t120 => (lines_First.l0 k l0 t118 t120 t118)) else (some (0, t119))) = some (r1, r2) := H
  have A3 := Aside0.mk A30
  clear A30
  by_cases c4 : t119 = 0
  · rw [if_pos c4] at H
    have c4b0 : (t119 == 0) = true := beq_iff_eq.mpr c4
    have c4b1 : (t119 != 0) = false := bne_eq_false_iff_eq.mpr c4
    clear c4
    replace H := Option.bind_eq_some_iff.mp H
    obtain ⟨t120, A50, H⟩ := H
    replace H : (lines_First.l0 k l0 t118 t120 t118) = some (r1, r2) := H
    have A5 := Aside0.mk A50
    clear A50
    have H' := Aside0.mk H
    clear H
    go_enter Tryd.func24, Tryd.ntmps24
    go_wp2_with (first | ((with_reducible refine gate_callee (f := 13) rfl ?_); refine goesL_ (some 13) rfl rfl Tryd.func13 (by kernel_rfl) rfl #[.slice A0 l0.length c0, .int .i64 a1] rfl (by (try simp only [List.map_toArray, List.map_cons, List.map_nil]); first | done | rfl | (simp only [List.length_drop, List.length_take]; rfl)) ?_; (with_reducible refine (lines_Start.calls k _ _ l0 a1 t118 t119 _ ?side1 ?side2 A3.out).mono ?_); (case side1 => repeat (first | exact HR0.out | (with_reducible refine Kd.C_alloc ?_ _) | (with_reducible refine Kd.C_drewN ?_ _) | (with_reducible refine Kd.C_drew ?_))); (case side2 => exact HC0.out); rintro e w' ⟨rfl, ⟨nd, rfl⟩⟩; refine ⟨_, rfl, ?_⟩) | ((with_reducible refine gate_callee (f := 32) rfl ?_); refine goesL_ (some 21) rfl rfl Tryd.func32 (by kernel_rfl) rfl #[.slice A0 l0.length c0, .int .i64 t118] rfl (by (try simp only [List.map_toArray, List.map_cons, List.map_nil]); first | done | rfl | (simp only [List.length_drop, List.length_take]; rfl)) ?_; (with_reducible refine (lines_tail.calls _ _ l0 t118 t120 _ ?side1 ?side2 A5.out).mono ?_); (case side1 => repeat (first | exact HR0.out | (with_reducible refine Kd.C_alloc ?_ _) | (with_reducible refine Kd.C_drewN ?_ _) | (with_reducible refine Kd.C_drew ?_))); (case side2 => exact HC0.out); rintro e w' ⟨rfl, ⟨nd, rfl⟩⟩; refine ⟨_, rfl, ?_⟩))
    go_loopg [9] k (fun kq v9 w' => ∃ (x9_1 : Int), v9 = .int .i64 x9_1 ∧ Aside0 (lines_First.l0 kq l0 t118 t120 x9_1 = some (r1, r2)) ∧ Aside0 (kq ≤ k) ∧ Aside0 (Below w.heap.size w w'))
    case atStart => exact ⟨(t118), (by first | rfl | (simp; done) | (simp [*]; done)), H', ⟨Nat.le_refl _⟩, ⟨by repeat (first | (with_reducible first | exact HB.out | apply below_alloc | apply pw_below_drewN | apply below_drew1) | exact HB.out)⟩⟩
    case round =>
      clear H'
      try clear c1
      try clear c2
      try clear p2
      try clear c3
      try clear c4
      try clear c4b0
      try clear c4b1
      obtain ⟨x9_1, rfl, HA, HK1, HB⟩ := hrel
      cases gk with
      | zero => exact absurd HA.out (by simp [lines_First.l0])
      | succ k1 =>
        have H := HA.out
        clear HA
        simp only [lines_First.l0] at H
        by_cases c6 : x9_1 < t120
        · rw [if_pos c6] at H
          have c6b0 : decide (x9_1 < t120) = true := decide_eq_true c6
          clear c6
          by_cases c7 : 0 ≤ x9_1
          · rw [if_pos c7] at H
            have c7b0 : decide (0 ≤ x9_1) = true := decide_eq_true c7
            clear c7
            by_cases c8 : x9_1 < (l0.length : Int)
            · rw [if_pos c8] at H
              have c8b0 : decide (x9_1 < (l0.length : Int)) = true := decide_eq_true c8
              clear c8
              by_cases c9 : (rd l0 x9_1) = 32
              · rw [if_pos c9] at H
                have c9b0 : ((rd l0 x9_1) == 32) = true := beq_iff_eq.mpr c9
                have c9b1 : ((rd l0 x9_1) != 32) = false := bne_eq_false_iff_eq.mpr c9
                clear c9
                have H' := Aside0.mk H
                clear H
                have p121 : 0 ≤ (x9_1 : Int) := of_decide_eq_true (by first | (with_reducible assumption) | assumption)
                have q121 : x9_1 < (l0.length : Int) := of_decide_eq_true (by first | (with_reducible assumption) | assumption)
                obtain ⟨ad121, e121, hx121_0⟩ := Kd.at_int HR0.out x9_1 p121 q121
                cases e121
                replace hx121_0 := (HB.out.cell (World.block_lt_of_cell? w _ hx121_0)).trans hx121_0
                replace p121 := eq_true p121
                replace q121 := eq_true q121
                go_wp2
                go_roundg k1
                case measure => have := HK1.out; omega
                case rel => exact ⟨(wrap64 (x9_1 + 1)), (by first | rfl | (simp; done) | (simp [*]; done)), H', ⟨by have := HK1.out; omega⟩, ⟨by repeat (first | (with_reducible first | exact HB.out | apply below_alloc | apply pw_below_drewN | apply below_drew1) | exact HB.out)⟩⟩
              · rw [if_neg c9] at H
                have c9b0 : ((rd l0 x9_1) == 32) = false := beq_eq_false_iff_ne.mpr c9
                have c9b1 : ((rd l0 x9_1) != 32) = true := bne_iff_ne.mpr c9
                by_cases c10 : (rd l0 x9_1) = 9
                · rw [if_pos c10] at H
                  have c10b0 : ((rd l0 x9_1) == 9) = true := beq_iff_eq.mpr c10
                  have c10b1 : ((rd l0 x9_1) != 9) = false := bne_eq_false_iff_eq.mpr c10
                  clear c10
                  have H' := Aside0.mk H
                  clear H
                  have p121 : 0 ≤ (x9_1 : Int) := of_decide_eq_true (by first | (with_reducible assumption) | assumption)
                  have q121 : x9_1 < (l0.length : Int) := of_decide_eq_true (by first | (with_reducible assumption) | assumption)
                  obtain ⟨ad121, e121, hx121_0⟩ := Kd.at_int HR0.out x9_1 p121 q121
                  cases e121
                  replace hx121_0 := (HB.out.cell (World.block_lt_of_cell? w _ hx121_0)).trans hx121_0
                  replace p121 := eq_true p121
                  replace q121 := eq_true q121
                  have p122 : 0 ≤ (x9_1 : Int) := of_decide_eq_true (by first | (with_reducible assumption) | assumption)
                  have q122 : x9_1 < (l0.length : Int) := of_decide_eq_true (by first | (with_reducible assumption) | assumption)
                  obtain ⟨ad122, e122, hx122_0⟩ := Kd.at_int HR0.out x9_1 p122 q122
                  obtain rfl : ad121 = ad122 := (by injection e122)
                  replace hx122_0 := (HB.out.cell (World.block_lt_of_cell? w _ hx122_0)).trans hx122_0
                  replace p122 := eq_true p122
                  replace q122 := eq_true q122
                  go_wp2
                  go_roundg k1
                  case measure => have := HK1.out; omega
                  case rel => exact ⟨(wrap64 (x9_1 + 1)), (by first | rfl | (simp; done) | (simp [*]; done)), H', ⟨by have := HK1.out; omega⟩, ⟨by repeat (first | (with_reducible first | exact HB.out | apply below_alloc | apply pw_below_drewN | apply below_drew1) | exact HB.out)⟩⟩
                · rw [if_neg c10] at H
                  have c10b0 : ((rd l0 x9_1) == 9) = false := beq_eq_false_iff_ne.mpr c10
                  have c10b1 : ((rd l0 x9_1) != 9) = true := bne_iff_ne.mpr c10
                  simp only [Option.some.injEq, Prod.mk.injEq] at H
                  obtain ⟨rfl, rfl⟩ := H
                  have p121 : 0 ≤ (x9_1 : Int) := of_decide_eq_true (by first | (with_reducible assumption) | assumption)
                  have q121 : x9_1 < (l0.length : Int) := of_decide_eq_true (by first | (with_reducible assumption) | assumption)
                  obtain ⟨ad121, e121, hx121_0⟩ := Kd.at_int HR0.out x9_1 p121 q121
                  cases e121
                  replace hx121_0 := (HB.out.cell (World.block_lt_of_cell? w _ hx121_0)).trans hx121_0
                  replace p121 := eq_true p121
                  replace q121 := eq_true q121
                  have p122 : 0 ≤ (x9_1 : Int) := of_decide_eq_true (by first | (with_reducible assumption) | assumption)
                  have q122 : x9_1 < (l0.length : Int) := of_decide_eq_true (by first | (with_reducible assumption) | assumption)
                  obtain ⟨ad122, e122, hx122_0⟩ := Kd.at_int HR0.out x9_1 p122 q122
                  obtain rfl : ad121 = ad122 := (by injection e122)
                  replace hx122_0 := (HB.out.cell (World.block_lt_of_cell? w _ hx122_0)).trans hx122_0
                  replace p122 := eq_true p122
                  replace q122 := eq_true q122
                  go_wp2
                  go_ret2
                  exact ⟨by first | rfl | (simp [errW_none, errW_some] <;> rfl) | (simp [*, errW_none, errW_some] <;> rfl), by repeat (first | (with_reducible first | exact HB.out | apply below_alloc | apply pw_below_drewN | apply below_drew1) | exact HB.out)⟩
            · rw [if_neg c8] at H
              exact absurd H (by simp)
          · rw [if_neg c7] at H
            exact absurd H (by simp)
        · rw [if_neg c6] at H
          have c6b0 : decide (x9_1 < t120) = false := decide_eq_false c6
          clear c6
          obtain ⟨ji11, hji11⟩ : ∃ j_ : Int, (mx t118 (wrap64 (t120 - 1))) = j_ := ⟨_, rfl⟩
          replace H : (some (ji11, 0)) = some (r1, r2) := by first | (rw [hji11] at H; exact H) | (simp only [hji11] at H ⊢; exact H)
          have hji11_ : (if t118 < (wrap64 (t120 - 1)) then (wrap64 (t120 - 1)) else t118) = ji11 := hji11
          simp only [Option.some.injEq, Prod.mk.injEq] at H
          obtain ⟨rfl, rfl⟩ := H
          go_wp2
          go_ret2
          exact ⟨by first | rfl | (simp [errW_none, errW_some] <;> rfl) | (simp only [← hji11]; first | rfl | (simp [errW_none, errW_some] <;> rfl)) | (simp [*, errW_none, errW_some] <;> rfl), by repeat (first | (with_reducible first | exact HB.out | apply below_alloc | apply pw_below_drewN | apply below_drew1) | exact HB.out)⟩
  · rw [if_neg c4] at H
    have c4b0 : (t119 == 0) = false := beq_eq_false_iff_ne.mpr c4
    have c4b1 : (t119 != 0) = true := bne_iff_ne.mpr c4
    simp only [Option.some.injEq, Prod.mk.injEq] at H
    obtain ⟨rfl, rfl⟩ := H
    go_enter Tryd.func24, Tryd.ntmps24
    go_wp2_with (first | ((with_reducible refine gate_callee (f := 13) rfl ?_); refine goesL_ (some 13) rfl rfl Tryd.func13 (by kernel_rfl) rfl #[.slice A0 l0.length c0, .int .i64 a1] rfl (by (try simp only [List.map_toArray, List.map_cons, List.map_nil]); first | done | rfl | (simp only [List.length_drop, List.length_take]; rfl)) ?_; (with_reducible refine (lines_Start.calls k _ _ l0 a1 t118 t119 _ ?side1 ?side2 A3.out).mono ?_); (case side1 => repeat (first | exact HR0.out | (with_reducible refine Kd.C_alloc ?_ _) | (with_reducible refine Kd.C_drewN ?_ _) | (with_reducible refine Kd.C_drew ?_))); (case side2 => exact HC0.out); rintro e w' ⟨rfl, ⟨nd, rfl⟩⟩; refine ⟨_, rfl, ?_⟩))
    go_ret2
    exact ⟨by first | rfl | (simp [errW_none, errW_some] <;> rfl) | (simp [*, errW_none, errW_some] <;> rfl), by repeat (first | (with_reducible first | exact HB.out | apply below_alloc | apply pw_below_drewN | apply below_drew1) | exact HB.out)⟩

end Go.Proofs.YtaljihphjppjgaaDoor.X
end
section
namespace Go.Proofs.YtaljihphjppjgaaDoor.LN
open Go.RowKit Go.Proofs.YtaljihphjppjgaaDoorW.PrintWords Go.Proofs.YtaljihphjppjgaaDoorW.PrintMore Go.Proofs.YtaljihphjppjgaaDoor.X Go.Proofs.YtaljihphjppjgaaDoor.XL Go.Proofs.YtaljihphjppjgaaDoor.XO
theorem rd_at (t : List Int) (p : Nat) : rd t (p : Int) = t.getD p 0 := by unfold rd; rw [Int.toNat_natCast]
theorem getD_take {t : List Int} {n j : Nat} (h : j < n) : (t.take n).getD j 0 = t.getD j 0 := by
  rw [List.getD_eq_getElem?_getD, List.getD_eq_getElem?_getD, List.getElem?_take, if_pos h]
/-- The place where the cursor rests, nearest to a place of the text. -/
def rest (t : List Int) (p : Nat) : Nat := if beg t p < p ∧ fin t p = p then p - 1 else p
def clamp (t : List Int) (a : Int) : Nat := (mn (mx a 0) (t.length : Int)).toNat
theorem clamp_le (t : List Int) (a : Int) : clamp t a ≤ t.length := by unfold clamp; rw [mn_eq, mx_eq]; omega
theorem clamp_int (t : List Int) (a : Int) : mn (mx a 0) (t.length : Int) = (clamp t a : Int) := by unfold clamp; rw [mn_eq, mx_eq]; omega
theorem clamp_id {t : List Int} {p : Nat} (h : p ≤ t.length) : clamp t (p : Int) = p := by unfold clamp; rw [mn_eq, mx_eq]; omega
/-- The last column of a line that begins at q, as a place. -/
def last (t : List Int) (q : Nat) : Nat := max q (fin t q - 1)
def atV (t : List Int) (q : Nat) (c : Int) : Int := if c = -1 then (last t q : Int) else if c > (last t q : Int) - q then (last t q : Int) else (q : Int) + c
def atR (t : List Int) (n c : Int) : Int × Int := if (startR t n).2 = 0 then (if c < -1 then (0, 2) else (atV t (startR t n).1.toNat c, 0)) else (0, 2)
def colR (t : List Int) (a : Int) : Int × Int := if 0 ≤ a ∧ a ≤ t.length then (a - beg t a.toNat, 0) else (0, 2)
/-- Behind the blanks, at most d of them. -/
def skip (t : List Int) (i : Nat) : Nat → Nat
  | 0 => i
  | d + 1 => if t.getD i 0 = 32 then skip t (i + 1) d else if t.getD i 0 = 9 then skip t (i + 1) d else i
theorem skip_ge (t : List Int) (d : Nat) : ∀ i, i ≤ skip t i d ∧ skip t i d ≤ i + d := by
  induction d with
  | zero => intro i; unfold skip; omega
  | succ d ih =>
    intro i
    have h := ih (i + 1)
    unfold skip
    split
    · omega
    · split <;> omega
def firstV (t : List Int) (q : Nat) : Nat := if skip t q (fin t q - q) < fin t q then skip t q (fin t q - q) else last t q
def firstR (t : List Int) (n : Int) : Int × Int := if (startR t n).2 = 0 then ((firstV t (startR t n).1.toNat : Int), 0) else (0, (startR t n).2)
theorem startR_cases (t : List Int) (n : Int) : (startR t n = (0, 2)) ∨ ∃ q : Nat, q ≤ t.length ∧ isSt t q ∧ startR t n = ((q : Int), 0) ∧ 0 ≤ n ∧ cnt 10 (t.take q) = n := by
  unfold startR
  by_cases h : n < 0
  · rw [if_pos h]; exact .inl rfl
  · rw [if_neg h]
    cases e : sg t 0 n.toNat with
    | none => exact .inl rfl
    | some q =>
      obtain ⟨h1, _, h3, h4⟩ := sg_some (Nat.zero_le _) (.inl rfl) e
      rw [show cnt 10 (t.take 0) = 0 from rfl] at h4
      exact .inr ⟨q, h3, h1, rfl, by omega, by omega⟩
section
variable {t : List Int}
theorem Lib_l0 {t : List Int} (hl : t.length ≤ 140737488355328) (p : Nat) (hp : p ≤ t.length) : ∀ j, j ≤ p → (∀ i, j ≤ i → i < p → t.getD i 0 ≠ 10) → Ev (fun k => bytealg_LastIndexByte.l0 k (t.take p) 10 ((j : Int) - 1)) ((beg t p : Int) - 1) := by
  intro j
  have hlen : (t.take p).length = p := by rw [List.length_take]; omega
  induction j with
  | zero =>
    intro _ hn
    have e : beg t p = 0 := (beg_unique (Nat.zero_le _) (.inl rfl) (fun i h1 h2 => hn i h1 h2)).symm
    rw [e]
    exact Ev.step (fun _ => rfl) (Ev.neg (by omega) (Ev.eq (Ev.now _) (by omega)))
  | succ j ih =>
    intro hj hn
    refine Ev.step (f := fun k => if ((j + 1 : Nat) : Int) - 1 ≥ 0 then (if 0 ≤ ((j + 1 : Nat) : Int) - 1 then (if ((j + 1 : Nat) : Int) - 1 < ((t.take p).length : Int) then (if (rd (t.take p) (((j + 1 : Nat) : Int) - 1)) = 10 then (some (((j + 1 : Nat) : Int) - 1)) else (bytealg_LastIndexByte.l0 k (t.take p) 10 (wrap64 (((j + 1 : Nat) : Int) - 1 - 1)))) else (none)) else (none)) else (some (-1))) (fun _ => rfl) (Ev.pos (by omega) (Ev.pos (by omega) (Ev.pos (by omega) ?_)))
    rw [show ((j + 1 : Nat) : Int) - 1 = (j : Int) from by omega, rd_at, getD_take (by omega), wrap64_id (n := (j : Int) - 1) (by omega) (by omega)]
    by_cases hx : t.getD j 0 = 10
    · have e : j + 1 = beg t p := beg_unique hj (.inr hx) (fun i h1 h2 => hn i h1 h2)
      exact Ev.pos hx (Ev.eq (Ev.now _) (by omega))
    · refine Ev.neg hx (ih (by omega) (fun i h1 h2 => ?_))
      rcases Nat.lt_or_eq_of_le h1 with h | h
      · exact hn i h h2
      · rw [← h]; exact hx
theorem head_ev (hl : t.length ≤ 140737488355328) {p : Nat} (hp : p ≤ t.length) : Ev (fun k => lines_head.f k t (p : Int)) (beg t p : Int) := by
  have hb := beg_le t p
  have hlen : (t.take p).length = p := by rw [List.length_take]; omega
  have h := Lib_l0 hl p hp p (Nat.le_refl _) (fun i h1 h2 => by omega)
  have h2 : Ev (fun k => bytes_LastIndexByte.f k (t.take p) 10) ((beg t p : Int) - 1) := by
    refine Ev.pass ?_
    unfold bytealg_LastIndexByte.f
    rw [hlen, wrap64_id (n := (p : Int) - 1) (by omega) (by omega)]
    exact h
  unfold lines_head.f
  rw [Int.toNat_natCast]
  refine Ev.pos (by omega) (Ev.pos (by omega) (Ev.done h2 ?_))
  rw [wrap64_id (by omega) (by omega)]
  omega
theorem Column_ev (hl : t.length ≤ 140737488355328) (a : Int) : Ev (fun k => lines_Column.f k t a) (colR t a) := by
  unfold colR lines_Column.f lines_has.f
  by_cases h0 : a ≥ 0
  · rw [if_pos h0]
    by_cases h1 : a ≤ (t.length : Int)
    · rw [if_pos ⟨h0, h1⟩, decide_eq_true h1]
      obtain ⟨p, rfl⟩ := Int.eq_ofNat_of_zero_le h0
      have hb := beg_le t p
      refine Ev.cbind rfl (Ev.pos rfl (Ev.done (head_ev hl (p := p) (by omega)) ?_))
      rw [wrap64_id (by omega) (by omega), Int.toNat_natCast]
    · rw [if_neg (fun h => h1 h.2), decide_eq_false h1]
      exact Ev.cbind rfl (Ev.neg (by decide) (Ev.now _))
  · rw [if_neg h0, if_neg (fun h => h0 h.1)]
    exact Ev.cbind rfl (Ev.neg (by decide) (Ev.now _))
section
variable (hu : u8s t = true) (hl : t.length ≤ 140737488355328)
include hu hl
theorem Rest_ev (a : Int) : Ev (fun k => lines_Rest.f k t a) (rest t (clamp t a) : Int) := by
  unfold lines_Rest.f
  rw [clamp_int]
  have hp := clamp_le t a
  generalize clamp t a = p at hp
  have hb := beg_le t p
  refine Ev.bind (head_ev hl hp) ?_
  by_cases h1 : (p : Int) > (beg t p : Int)
  · refine Ev.pos h1 (Ev.cbind (tail_eq hu hl hp) ?_)
    by_cases h2 : (p : Int) = (fin t p : Int)
    · have hr : rest t p = p - 1 := by unfold rest; rw [if_pos ⟨by omega, by omega⟩]
      rw [hr]
      refine Ev.pos h2 (Ev.const ?_)
      rw [wrap64_id (by omega) (by omega)]
      congr 1
      omega
    · have hr : rest t p = p := by unfold rest; rw [if_neg (fun h => h2 (by omega))]
      rw [hr]
      exact Ev.neg h2 (Ev.now _)
  · have hr : rest t p = p := by unfold rest; rw [if_neg (fun h => h1 (by omega))]
    rw [hr]
    exact Ev.neg h1 (Ev.now _)
theorem At_j0 {q : Nat} (hq : q ≤ t.length) (c : Int) (hc : -1 ≤ c) : Ev (fun k => lines_At.j0 k t c (q : Int) false) (atV t q c, 0) := by
  have hf := fin_ge t q
  have hf2 := fin_le hq
  have e1 : mx (q : Int) (wrap64 ((fin t q : Int) - 1)) = (last t q : Int) := by
    rw [mx_eq, wrap64_id (by omega) (by omega)]
    unfold last
    omega
  have e2 : wrap64 ((last t q : Int) - q) = (last t q : Int) - q := by
    unfold last
    exact wrap64_id (by omega) (by omega)
  refine Ev.step (f := fun _ => (lines_tail.f t (q : Int)).bind fun t117 => (if c = (-1) then (some (mx (q : Int) (wrap64 (t117 - 1)), 0)) else (if c > (wrap64 ((mx (q : Int) (wrap64 (t117 - 1))) - (q : Int))) then (some (mx (q : Int) (wrap64 (t117 - 1)), 0)) else (some (wrap64 ((q : Int) + c), 0))))) (fun _ => rfl) (Ev.cbind (tail_eq hu hl hq) ?_)
  rw [e1, e2]
  by_cases h1 : c = -1
  · have hr : atV t q c = (last t q : Int) := by unfold atV; rw [if_pos h1]
    rw [hr]
    exact Ev.pos h1 (Ev.now _)
  · by_cases h2 : c > (last t q : Int) - q
    · have hr : atV t q c = (last t q : Int) := by unfold atV; rw [if_neg h1, if_pos h2]
      rw [hr]
      exact Ev.neg h1 (Ev.pos h2 (Ev.now _))
    · have hr : atV t q c = (q : Int) + c := by unfold atV; rw [if_neg h1, if_neg h2]
      rw [hr]
      refine Ev.neg h1 (Ev.neg h2 (Ev.const ?_))
      have hla : (last t q : Int) ≤ 140737488355328 := by unfold last; omega
      rw [wrap64_id (by omega) (by omega)]
theorem At_ev (n c : Int) (hn : n ≤ 9223372036854775807) : Ev (fun k => lines_At.f k t n c) (atR t n c) := by
  refine Ev.bind (Start_ev hu hl n hn) ?_
  unfold atR
  have bad : Ev (fun k => lines_At.j0 k t c (startR t n).1 true) (0, 2) := Ev.step (f := fun _ => some (0, 2)) (fun _ => rfl) (Ev.now _)
  by_cases h : (startR t n).2 = 0
  · rw [if_pos h]
    refine Ev.pos h ?_
    by_cases hc : c < -1
    · rw [if_pos hc, decide_eq_true hc]
      exact bad
    · rw [if_neg hc, decide_eq_false hc]
      rcases startR_cases t n with e | ⟨q, hq, _, e, _⟩
      · rw [e] at h; cases h
      · rw [e]
        exact At_j0 hu hl hq c (by omega)
  · rw [if_neg h]
    exact Ev.neg h bad
omit hu in
theorem First_l0 (from_ to_ : Nat) (ht : to_ ≤ t.length) : ∀ (d i : Nat), i + d = to_ → Ev (fun k => lines_First.l0 k t (from_ : Int) (to_ : Int) (i : Int)) ((if skip t i d < to_ then (skip t i d : Int) else mx (from_ : Int) (wrap64 ((to_ : Int) - 1))), 0) := by
  intro d
  induction d with
  | zero =>
    intro i hi
    unfold skip
    rw [if_neg (by omega)]
    exact Ev.step (fun _ => rfl) (Ev.neg (by omega) (Ev.now _))
  | succ d ih =>
    intro i hi
    have hw : wrap64 ((i : Int) + 1) = ((i + 1 : Nat) : Int) := by rw [wrap64_id (by omega) (by omega)]; omega
    refine Ev.step (f := fun k => if (i : Int) < (to_ : Int) then (if 0 ≤ (i : Int) then (if (i : Int) < (t.length : Int) then (if (rd t (i : Int)) = 32 then (lines_First.l0 k t (from_ : Int) (to_ : Int) (wrap64 ((i : Int) + 1))) else (if (rd t (i : Int)) = 9 then (lines_First.l0 k t (from_ : Int) (to_ : Int) (wrap64 ((i : Int) + 1))) else (some ((i : Int), 0)))) else (none)) else (none)) else (some (mx (from_ : Int) (wrap64 ((to_ : Int) - 1)), 0))) (fun _ => rfl) ?_
    rw [hw, rd_at]
    clear hw
    refine Ev.pos (by omega) (Ev.pos (by omega) (Ev.pos (by omega) ?_))
    unfold skip
    by_cases h1 : t.getD i 0 = 32
    · rw [if_pos h1]
      exact Ev.pos h1 (ih (i + 1) (by omega))
    · rw [if_neg h1]
      by_cases h2 : t.getD i 0 = 9
      · rw [if_pos h2]
        exact Ev.neg h1 (Ev.pos h2 (ih (i + 1) (by omega)))
      · rw [if_neg h2, if_pos (by omega)]
        exact Ev.neg h1 (Ev.neg h2 (Ev.now _))
theorem First_ev (n : Int) (hn : n ≤ 9223372036854775807) : Ev (fun k => lines_First.f k t n) (firstR t n) := by
  refine Ev.bind (Start_ev hu hl n hn) ?_
  unfold firstR
  by_cases h : (startR t n).2 = 0
  · rw [if_pos h]
    refine Ev.pos h ?_
    rcases startR_cases t n with e | ⟨q, hq, _, e, _⟩
    · rw [e] at h; cases h
    · rw [e]
      have hf := fin_ge t q
      have hf2 := fin_le hq
      refine Ev.cbind (tail_eq hu hl hq) (Ev.eq (First_l0 hl q (fin t q) hf2 (fin t q - q) q (by omega)) ?_)
      simp only [Int.toNat_natCast]
      unfold firstV
      by_cases hs : skip t q (fin t q - q) < fin t q
      · rw [if_pos hs, if_pos hs]
      · rw [if_neg hs, if_neg hs, mx_eq, wrap64_id (by omega) (by omega)]
        unfold last
        congr 1
        omega
  · rw [if_neg h]
    exact Ev.neg h (Ev.now _)
theorem Count_eq : lines_Count.f t = some (cnt 10 t + 1) := by
  have h0 := cnt_nonneg 10 t
  have h1 := cnt_le 10 t
  unfold lines_Count.f bytes_Count.f
  rw [hu]
  simp only [show u8s [10] = true from rfl, Bool.and_self, if_true, List.length_cons, List.length_nil, Option.bind_some]
  rw [show rd [10] 0 = 10 from rfl, wrap64_id (by omega) (by omega)]
end
end
end Go.Proofs.YtaljihphjppjgaaDoor.LN
end
section
-- Written by wip/xprint.py over the kit's print.py: the Lean function of each Go function, and the proof that the Go text comes to it.
namespace Go.Proofs.YtaljihphjppjgaaDoor.X
open Go.RowKit Go.Proofs.YtaljihphjppjgaaDoorW.PrintWords Go.Proofs.YtaljihphjppjgaaDoorW.PrintLast Go.Proofs.YtaljihphjppjgaaDoorW.PrintMore
attribute [local go_sem] max2_int min2_int max_two min_two max_three min_three max_four min_four   -- for this text's walks alone
set_option linter.unusedVariables false
set_option linter.unusedSimpArgs false

/-! ### quoinref05_Count: function 19 -/
def quoinref05_Count.l0 : Nat → List Int → Int → Int → Option (Int)
  | 0, _, _, _ => none
  | k + 1, x0, x3, x4 => if x4 < (x0.length : Int) then (if 0 ≤ x4 then (if (rd x0 x4) = 10 then (quoinref05_Count.l0 k x0 (wrap64 (x3 + 1)) (wrap64 (x4 + 1))) else (quoinref05_Count.l0 k x0 x3 (wrap64 (x4 + 1)))) else (none)) else (some x3)
def quoinref05_Count.f (k : Nat) (l0 : List Int) : Option (Int) := quoinref05_Count.l0 k l0 1 0
theorem quoinref05_Count.mono_l : ∀ k, (∀ y0 y1 y2, LeO (quoinref05_Count.l0 k y0 y1 y2) (quoinref05_Count.l0 (k + 1) y0 y1 y2))
  | 0 => fun _ _ _ r h => by simp [quoinref05_Count.l0] at h
  | k + 1 => by
    have ih0 := quoinref05_Count.mono_l k
    · intro y0 y1 y2
      unfold quoinref05_Count.l0
      repeat' first
      | (with_reducible exact ih0 _ _ _)
      | (with_reducible exact LeO.refl _)
      | (with_reducible exact LeO.none _)
      | (with_reducible refine LeO.ite ?_ ?_)
      | (with_reducible refine LeO.bind ?_ (fun _ => ?_))
      | exact ih0 _ _ _
      | exact LeO.none _
      | refine LeO.ite ?_ ?_
      | refine LeO.bind ?_ (fun _ => ?_)
theorem quoinref05_Count.mono : ∀ a0 k, LeO (quoinref05_Count.f k a0) (quoinref05_Count.f (k + 1) a0) := by
  intro a0 k
  have ih0 := quoinref05_Count.mono_l k
  unfold quoinref05_Count.f
  repeat' first
      | (with_reducible exact ih0 _ _ _)
      | (with_reducible exact LeO.refl _)
      | (with_reducible exact LeO.none _)
      | (with_reducible refine LeO.ite ?_ ?_)
      | (with_reducible refine LeO.bind ?_ (fun _ => ?_))
      | exact ih0 _ _ _
      | exact LeO.none _
      | refine LeO.ite ?_ ?_
      | refine LeO.bind ?_ (fun _ => ?_)
set_option maxHeartbeats 8000000 in
set_option maxRecDepth 100000 in
theorem quoinref05_Count.calls (k : Nat) (A0 : Option Addr) (c0 : Nat) (l0 : List Int) (r : Int) (w : World) (hr0 : Kd.C (Kd.int .u8) w A0 l0.length l0) (hc0 : l0.length ≤ c0) (h : quoinref05_Count.f k l0 = some r) :
    Calls Tryd.prog 19 #[.slice A0 l0.length c0] w fun e w' => e = .returned (.int .i64 r) ∧ Drawn0 w w' := by
  have HR0 := Aside0.mk hr0
  have HC0 := Aside0.mk hc0
  clear hr0 hc0
  have H : (quoinref05_Count.l0 k l0 1 0) = some r := h
  clear h
  have H' := Aside0.mk H
  clear H
  go_enter Tryd.func19, Tryd.ntmps19
  go_wp2
  go_loopg [3, 4] k (fun kq v3 v4 w' => ∃ (x3_1 : Int) (x4_1 : Int), v3 = .int .i64 x3_1 ∧ v4 = .int .i64 x4_1 ∧ Aside0 (quoinref05_Count.l0 kq l0 x3_1 x4_1 = some r) ∧ Aside0 (kq ≤ k) ∧ Drawn0 w w')
  case atStart => exact ⟨(1), (0), (by first | rfl | (simp; done) | (simp [*]; done)), (by first | rfl | (simp; done) | (simp [*]; done)), H', ⟨Nat.le_refl _⟩, by repeat (first | exact Drawn0.refl _ | apply Drawn0.step)⟩
  case round =>
    clear H'
    try clear c1
    obtain ⟨x3_1, x4_1, rfl, rfl, HA, HK1, ⟨m1, rfl⟩⟩ := hrel
    cases gk with
    | zero => exact absurd HA.out (by simp [quoinref05_Count.l0])
    | succ k1 =>
      have H := HA.out
      clear HA
      simp only [quoinref05_Count.l0] at H
      by_cases c2 : x4_1 < (l0.length : Int)
      · rw [if_pos c2] at H
        have c2b0 : decide (x4_1 < (l0.length : Int)) = true := decide_eq_true c2
        clear c2
        by_cases c3 : 0 ≤ x4_1
        · rw [if_pos c3] at H
          have c3b0 : decide (0 ≤ x4_1) = true := decide_eq_true c3
          clear c3
          by_cases c4 : (rd l0 x4_1) = 10
          · rw [if_pos c4] at H
            have c4b0 : ((rd l0 x4_1) == 10) = true := beq_iff_eq.mpr c4
            have c4b1 : ((rd l0 x4_1) != 10) = false := bne_eq_false_iff_eq.mpr c4
            clear c4
            have H' := Aside0.mk H
            clear H
            have p253 : 0 ≤ (x4_1 : Int) := of_decide_eq_true (by first | (with_reducible assumption) | assumption)
            have q253 : x4_1 < (l0.length : Int) := of_decide_eq_true (by first | (with_reducible assumption) | assumption)
            obtain ⟨ad253, e253, hx253_0⟩ := Kd.at_int HR0.out x4_1 p253 q253
            cases e253
            replace p253 := eq_true p253
            replace q253 := eq_true q253
            go_wp2
            go_roundg k1
            case measure => have := HK1.out; omega
            case rel => exact ⟨(wrap64 (x3_1 + 1)), (wrap64 (x4_1 + 1)), (by first | rfl | (simp; done) | (simp [*]; done)), (by first | rfl | (simp; done) | (simp [*]; done)), H', ⟨by have := HK1.out; omega⟩, by repeat (first | exact Drawn0.refl _ | apply Drawn0.step)⟩
          · rw [if_neg c4] at H
            have c4b0 : ((rd l0 x4_1) == 10) = false := beq_eq_false_iff_ne.mpr c4
            have c4b1 : ((rd l0 x4_1) != 10) = true := bne_iff_ne.mpr c4
            have H' := Aside0.mk H
            clear H
            have p253 : 0 ≤ (x4_1 : Int) := of_decide_eq_true (by first | (with_reducible assumption) | assumption)
            have q253 : x4_1 < (l0.length : Int) := of_decide_eq_true (by first | (with_reducible assumption) | assumption)
            obtain ⟨ad253, e253, hx253_0⟩ := Kd.at_int HR0.out x4_1 p253 q253
            cases e253
            replace p253 := eq_true p253
            replace q253 := eq_true q253
            go_wp2
            go_roundg k1
            case measure => have := HK1.out; omega
            case rel => exact ⟨(x3_1), (wrap64 (x4_1 + 1)), (by first | rfl | (simp; done) | (simp [*]; done)), (by first | rfl | (simp; done) | (simp [*]; done)), H', ⟨by have := HK1.out; omega⟩, by repeat (first | exact Drawn0.refl _ | apply Drawn0.step)⟩
        · rw [if_neg c3] at H
          exact absurd H (by simp)
      · rw [if_neg c2] at H
        have c2b0 : decide (x4_1 < (l0.length : Int)) = false := decide_eq_false c2
        clear c2
        obtain rfl := Option.some.inj H
        go_wp2
        go_ret
        exact ⟨by first | rfl | (simp; done) | (simp [*]; done), by repeat (first | exact Drawn0.refl _ | apply Drawn0.step)⟩

end Go.Proofs.YtaljihphjppjgaaDoor.X
end
section
-- Written by wip/xprint.py over the kit's print.py: the Lean function of each Go function, and the proof that the Go text comes to it.
namespace Go.Proofs.YtaljihphjppjgaaDoor.X
open Go.RowKit Go.Proofs.YtaljihphjppjgaaDoorW.PrintWords Go.Proofs.YtaljihphjppjgaaDoorW.PrintLast Go.Proofs.YtaljihphjppjgaaDoorW.PrintMore
attribute [local go_sem] max2_int min2_int max_two min_two max_three min_three max_four min_four   -- for this text's walks alone
set_option linter.unusedVariables false
set_option linter.unusedSimpArgs false

/-! ### quoinref05_Start: function 20 -/
def quoinref05_Start.l0 : Nat → List Int → Int → Int → Option (Int × Int)
  | 0, _, _, _ => none
  | k + 1, x0, x1, x6 => if x6 < (x0.length : Int) then (if 0 ≤ x6 then (if (rd x0 x6) = 10 then (if (wrap64 (x1 - 1)) = 0 then (some (wrap64 (x6 + 1), 0)) else (quoinref05_Start.l0 k x0 (wrap64 (x1 - 1)) (wrap64 (x6 + 1)))) else (quoinref05_Start.l0 k x0 x1 (wrap64 (x6 + 1)))) else (none)) else (some (0, 2))
def quoinref05_Start.f (k : Nat) (l0 : List Int) (a1 : Int) : Option (Int × Int) := if a1 < 0 then (some (0, 2)) else (if a1 = 0 then (some (0, 0)) else (quoinref05_Start.l0 k l0 a1 0))
theorem quoinref05_Start.mono_l : ∀ k, (∀ y0 y1 y2, LeO (quoinref05_Start.l0 k y0 y1 y2) (quoinref05_Start.l0 (k + 1) y0 y1 y2))
  | 0 => fun _ _ _ r h => by simp [quoinref05_Start.l0] at h
  | k + 1 => by
    have ih0 := quoinref05_Start.mono_l k
    · intro y0 y1 y2
      unfold quoinref05_Start.l0
      repeat' first
      | (with_reducible exact ih0 _ _ _)
      | (with_reducible exact LeO.refl _)
      | (with_reducible exact LeO.none _)
      | (with_reducible refine LeO.ite ?_ ?_)
      | (with_reducible refine LeO.bind ?_ (fun _ => ?_))
      | exact ih0 _ _ _
      | exact LeO.none _
      | refine LeO.ite ?_ ?_
      | refine LeO.bind ?_ (fun _ => ?_)
theorem quoinref05_Start.mono : ∀ a0 a1 k, LeO (quoinref05_Start.f k a0 a1) (quoinref05_Start.f (k + 1) a0 a1) := by
  intro a0 a1 k
  have ih0 := quoinref05_Start.mono_l k
  unfold quoinref05_Start.f
  repeat' first
      | (with_reducible exact ih0 _ _ _)
      | (with_reducible exact LeO.refl _)
      | (with_reducible exact LeO.none _)
      | (with_reducible refine LeO.ite ?_ ?_)
      | (with_reducible refine LeO.bind ?_ (fun _ => ?_))
      | exact ih0 _ _ _
      | exact LeO.none _
      | refine LeO.ite ?_ ?_
      | refine LeO.bind ?_ (fun _ => ?_)
set_option maxHeartbeats 8000000 in
set_option maxRecDepth 100000 in
theorem quoinref05_Start.calls (k : Nat) (A0 : Option Addr) (c0 : Nat) (l0 : List Int) (a1 : Int) (r1 : Int) (r2 : Int) (w : World) (hr0 : Kd.C (Kd.int .u8) w A0 l0.length l0) (hc0 : l0.length ≤ c0) (h : quoinref05_Start.f k l0 a1 = some (r1, r2)) :
    Calls Tryd.prog 20 #[.slice A0 l0.length c0, .int .i64 a1] w fun e w' => e = .returned (.tuple #[.int .i64 r1, .int .i64 r2]) ∧ Drawn0 w w' := by
  have HR0 := Aside0.mk hr0
  have HC0 := Aside0.mk hc0
  clear hr0 hc0
  have H : (if a1 < 0 then (some (0, 2)) else (if a1 = 0 then (some (0, 0)) else (quoinref05_Start.l0 k l0 a1 0))) = some (r1, r2) := h
  clear h
  by_cases c3 : a1 < 0
  · rw [if_pos c3] at H
    have c3b0 : decide (a1 < 0) = true := decide_eq_true c3
    clear c3
    simp only [Option.some.injEq, Prod.mk.injEq] at H
    obtain ⟨rfl, rfl⟩ := H
    go_enter Tryd.func20, Tryd.ntmps20
    go_wp2
    go_ret2
    exact ⟨by first | rfl | (simp; done) | (simp [*]; done), by repeat (first | exact Drawn0.refl _ | apply Drawn0.step)⟩
  · rw [if_neg c3] at H
    have c3b0 : decide (a1 < 0) = false := decide_eq_false c3
    clear c3
    by_cases c4 : a1 = 0
    · rw [if_pos c4] at H
      have c4b0 : (a1 == 0) = true := beq_iff_eq.mpr c4
      have c4b1 : (a1 != 0) = false := bne_eq_false_iff_eq.mpr c4
      clear c4
      simp only [Option.some.injEq, Prod.mk.injEq] at H
      obtain ⟨rfl, rfl⟩ := H
      go_enter Tryd.func20, Tryd.ntmps20
      go_wp2
      go_ret2
      exact ⟨by first | rfl | (simp; done) | (simp [*]; done), by repeat (first | exact Drawn0.refl _ | apply Drawn0.step)⟩
    · rw [if_neg c4] at H
      have c4b0 : (a1 == 0) = false := beq_eq_false_iff_ne.mpr c4
      have c4b1 : (a1 != 0) = true := bne_iff_ne.mpr c4
      have H' := Aside0.mk H
      clear H
      go_enter Tryd.func20, Tryd.ntmps20
      go_wp2
      go_loopg [1, 6] k (fun kq v1 v6 w' => ∃ (x1_1 : Int) (x6_1 : Int), v1 = .int .i64 x1_1 ∧ v6 = .int .i64 x6_1 ∧ Aside0 (quoinref05_Start.l0 kq l0 x1_1 x6_1 = some (r1, r2)) ∧ Aside0 (kq ≤ k) ∧ Drawn0 w w')
      case atStart => exact ⟨(a1), (0), (by first | rfl | (simp; done) | (simp [*]; done)), (by first | rfl | (simp; done) | (simp [*]; done)), H', ⟨Nat.le_refl _⟩, by repeat (first | exact Drawn0.refl _ | apply Drawn0.step)⟩
      case round =>
        clear H'
        try clear c2
        try clear p2
        try clear c3
        try clear c3b0
        try clear c4
        try clear c4b0
        try clear c4b1
        obtain ⟨x1_1, x6_1, rfl, rfl, HA, HK1, ⟨m1, rfl⟩⟩ := hrel
        cases gk with
        | zero => exact absurd HA.out (by simp [quoinref05_Start.l0])
        | succ k1 =>
          have H := HA.out
          clear HA
          simp only [quoinref05_Start.l0] at H
          by_cases c5 : x6_1 < (l0.length : Int)
          · rw [if_pos c5] at H
            have c5b0 : decide (x6_1 < (l0.length : Int)) = true := decide_eq_true c5
            clear c5
            by_cases c6 : 0 ≤ x6_1
            · rw [if_pos c6] at H
              have c6b0 : decide (0 ≤ x6_1) = true := decide_eq_true c6
              clear c6
              by_cases c7 : (rd l0 x6_1) = 10
              · rw [if_pos c7] at H
                have c7b0 : ((rd l0 x6_1) == 10) = true := beq_iff_eq.mpr c7
                have c7b1 : ((rd l0 x6_1) != 10) = false := bne_eq_false_iff_eq.mpr c7
                clear c7
                by_cases c8 : (wrap64 (x1_1 - 1)) = 0
                · rw [if_pos c8] at H
                  have c8b0 : ((wrap64 (x1_1 - 1)) == 0) = true := beq_iff_eq.mpr c8
                  have c8b1 : ((wrap64 (x1_1 - 1)) != 0) = false := bne_eq_false_iff_eq.mpr c8
                  clear c8
                  simp only [Option.some.injEq, Prod.mk.injEq] at H
                  obtain ⟨rfl, rfl⟩ := H
                  have p254 : 0 ≤ (x6_1 : Int) := of_decide_eq_true (by first | (with_reducible assumption) | assumption)
                  have q254 : x6_1 < (l0.length : Int) := of_decide_eq_true (by first | (with_reducible assumption) | assumption)
                  obtain ⟨ad254, e254, hx254_0⟩ := Kd.at_int HR0.out x6_1 p254 q254
                  cases e254
                  replace p254 := eq_true p254
                  replace q254 := eq_true q254
                  go_wp2
                  go_ret2
                  exact ⟨by first | rfl | (simp; done) | (simp [*]; done), by repeat (first | exact Drawn0.refl _ | apply Drawn0.step)⟩
                · rw [if_neg c8] at H
                  have c8b0 : ((wrap64 (x1_1 - 1)) == 0) = false := beq_eq_false_iff_ne.mpr c8
                  have c8b1 : ((wrap64 (x1_1 - 1)) != 0) = true := bne_iff_ne.mpr c8
                  have H' := Aside0.mk H
                  clear H
                  have p254 : 0 ≤ (x6_1 : Int) := of_decide_eq_true (by first | (with_reducible assumption) | assumption)
                  have q254 : x6_1 < (l0.length : Int) := of_decide_eq_true (by first | (with_reducible assumption) | assumption)
                  obtain ⟨ad254, e254, hx254_0⟩ := Kd.at_int HR0.out x6_1 p254 q254
                  cases e254
                  replace p254 := eq_true p254
                  replace q254 := eq_true q254
                  go_wp2
                  go_roundg k1
                  case measure => have := HK1.out; omega
                  case rel => exact ⟨(wrap64 (x1_1 - 1)), (wrap64 (x6_1 + 1)), (by first | rfl | (simp; done) | (simp [*]; done)), (by first | rfl | (simp; done) | (simp [*]; done)), H', ⟨by have := HK1.out; omega⟩, by repeat (first | exact Drawn0.refl _ | apply Drawn0.step)⟩
              · rw [if_neg c7] at H
                have c7b0 : ((rd l0 x6_1) == 10) = false := beq_eq_false_iff_ne.mpr c7
                have c7b1 : ((rd l0 x6_1) != 10) = true := bne_iff_ne.mpr c7
                have H' := Aside0.mk H
                clear H
                have p254 : 0 ≤ (x6_1 : Int) := of_decide_eq_true (by first | (with_reducible assumption) | assumption)
                have q254 : x6_1 < (l0.length : Int) := of_decide_eq_true (by first | (with_reducible assumption) | assumption)
                obtain ⟨ad254, e254, hx254_0⟩ := Kd.at_int HR0.out x6_1 p254 q254
                cases e254
                replace p254 := eq_true p254
                replace q254 := eq_true q254
                go_wp2
                go_roundg k1
                case measure => have := HK1.out; omega
                case rel => exact ⟨(x1_1), (wrap64 (x6_1 + 1)), (by first | rfl | (simp; done) | (simp [*]; done)), (by first | rfl | (simp; done) | (simp [*]; done)), H', ⟨by have := HK1.out; omega⟩, by repeat (first | exact Drawn0.refl _ | apply Drawn0.step)⟩
            · rw [if_neg c6] at H
              exact absurd H (by simp)
          · rw [if_neg c5] at H
            have c5b0 : decide (x6_1 < (l0.length : Int)) = false := decide_eq_false c5
            clear c5
            simp only [Option.some.injEq, Prod.mk.injEq] at H
            obtain ⟨rfl, rfl⟩ := H
            go_wp2
            go_ret2
            exact ⟨by first | rfl | (simp; done) | (simp [*]; done), by repeat (first | exact Drawn0.refl _ | apply Drawn0.step)⟩

end Go.Proofs.YtaljihphjppjgaaDoor.X
end
section
-- Written by wip/xprint.py over the kit's print.py: the Lean function of each Go function, and the proof that the Go text comes to it.
namespace Go.Proofs.YtaljihphjppjgaaDoor.X
open Go.RowKit Go.Proofs.YtaljihphjppjgaaDoorW.PrintWords Go.Proofs.YtaljihphjppjgaaDoorW.PrintLast Go.Proofs.YtaljihphjppjgaaDoorW.PrintMore
attribute [local go_sem] max2_int min2_int max_two min_two max_three min_three max_four min_four   -- for this text's walks alone
set_option linter.unusedVariables false
set_option linter.unusedSimpArgs false

/-! ### quoinref05_End: function 21 -/
def quoinref05_End.l0 : Nat → List Int → Int → Option (Int × Int)
  | 0, _, _ => none
  | k + 1, x0, x6 => if x6 < (x0.length : Int) then (if 0 ≤ x6 then (if (rd x0 x6) = 10 then (some (x6, 0)) else (quoinref05_End.l0 k x0 (wrap64 (x6 + 1)))) else (none)) else (some (x6, 0))
def quoinref05_End.f (k : Nat) (l0 : List Int) (a1 : Int) : Option (Int × Int) := (quoinref05_Start.f k l0 a1).bind fun bt255 => (if bt255.2 = 0 then (quoinref05_End.l0 k l0 bt255.1) else (some (0, bt255.2)))
theorem quoinref05_End.mono_l : ∀ k, (∀ y0 y1, LeO (quoinref05_End.l0 k y0 y1) (quoinref05_End.l0 (k + 1) y0 y1))
  | 0 => fun _ _ r h => by simp [quoinref05_End.l0] at h
  | k + 1 => by
    have ih0 := quoinref05_End.mono_l k
    · intro y0 y1
      unfold quoinref05_End.l0
      repeat' first
      | (with_reducible exact ih0 _ _)
      | (with_reducible exact quoinref05_Start.mono _ _ _)
      | (with_reducible exact LeO.refl _)
      | (with_reducible exact LeO.none _)
      | (with_reducible refine LeO.ite ?_ ?_)
      | (with_reducible refine LeO.bind ?_ (fun _ => ?_))
      | exact ih0 _ _
      | exact quoinref05_Start.mono _ _ _
      | exact LeO.none _
      | refine LeO.ite ?_ ?_
      | refine LeO.bind ?_ (fun _ => ?_)
theorem quoinref05_End.mono : ∀ a0 a1 k, LeO (quoinref05_End.f k a0 a1) (quoinref05_End.f (k + 1) a0 a1) := by
  intro a0 a1 k
  have ih0 := quoinref05_End.mono_l k
  unfold quoinref05_End.f
  repeat' first
      | (with_reducible exact ih0 _ _)
      | (with_reducible exact quoinref05_Start.mono _ _ _)
      | (with_reducible exact LeO.refl _)
      | (with_reducible exact LeO.none _)
      | (with_reducible refine LeO.ite ?_ ?_)
      | (with_reducible refine LeO.bind ?_ (fun _ => ?_))
      | exact ih0 _ _
      | exact quoinref05_Start.mono _ _ _
      | exact LeO.none _
      | refine LeO.ite ?_ ?_
      | refine LeO.bind ?_ (fun _ => ?_)
set_option maxHeartbeats 8000000 in
set_option maxRecDepth 100000 in
theorem quoinref05_End.calls (k : Nat) (A0 : Option Addr) (c0 : Nat) (l0 : List Int) (a1 : Int) (r1 : Int) (r2 : Int) (w : World) (hr0 : Kd.C (Kd.int .u8) w A0 l0.length l0) (hc0 : l0.length ≤ c0) (h : quoinref05_End.f k l0 a1 = some (r1, r2)) :
    Calls Tryd.prog 21 #[.slice A0 l0.length c0, .int .i64 a1] w fun e w' => e = .returned (.tuple #[.int .i64 r1, .int .i64 r2]) ∧ Drawn0 w w' := by
  have HR0 := Aside0.mk hr0
  have HC0 := Aside0.mk hc0
  clear hr0 hc0
  have H : ((quoinref05_Start.f k l0 a1).bind fun bt255 => (if bt255.2 = 0 then (quoinref05_End.l0 k l0 bt255.1) else (some (0, bt255.2)))) = some (r1, r2) := h
  clear h
  replace H := Option.bind_eq_some_iff.mp H
  obtain ⟨⟨t255, t256⟩, A30, H⟩ := H
  replace H : (if t256 = 0 then (quoinref05_End.l0 k l0 t255) else (some (0, t256))) = some (r1, r2) := H
  have A3 := Aside0.mk A30
  clear A30
  by_cases c4 : t256 = 0
  · rw [if_pos c4] at H
    have c4b0 : (t256 == 0) = true := beq_iff_eq.mpr c4
    have c4b1 : (t256 != 0) = false := bne_eq_false_iff_eq.mpr c4
    clear c4
    have H' := Aside0.mk H
    clear H
    go_enter Tryd.func21, Tryd.ntmps21
    go_wp2_with (first | ((with_reducible refine gate_callee (f := 20) rfl ?_); refine goesL_ (some 11) rfl rfl Tryd.func20 (by kernel_rfl) rfl #[.slice A0 l0.length c0, .int .i64 a1] rfl (by (try simp only [List.map_toArray, List.map_cons, List.map_nil]); first | done | rfl | (simp only [List.length_drop, List.length_take]; rfl)) ?_; (with_reducible refine (quoinref05_Start.calls k _ _ l0 a1 t255 t256 _ ?side1 ?side2 A3.out).mono ?_); (case side1 => repeat (first | exact HR0.out | (with_reducible refine Kd.C_alloc ?_ _) | (with_reducible refine Kd.C_drewN ?_ _) | (with_reducible refine Kd.C_drew ?_))); (case side2 => exact HC0.out); rintro e w' ⟨rfl, ⟨nd, rfl⟩⟩; refine ⟨_, rfl, ?_⟩))
    go_loopg [6] k (fun kq v6 w' => ∃ (x6_1 : Int), v6 = .int .i64 x6_1 ∧ Aside0 (quoinref05_End.l0 kq l0 x6_1 = some (r1, r2)) ∧ Aside0 (kq ≤ k) ∧ Drawn0 w w')
    case atStart => exact ⟨(t255), (by first | rfl | (simp; done) | (simp [*]; done)), H', ⟨Nat.le_refl _⟩, by repeat (first | exact Drawn0.refl _ | apply Drawn0.step)⟩
    case round =>
      clear H'
      try clear c2
      try clear p2
      try clear c4
      try clear c4b0
      try clear c4b1
      obtain ⟨x6_1, rfl, HA, HK1, ⟨m1, rfl⟩⟩ := hrel
      cases gk with
      | zero => exact absurd HA.out (by simp [quoinref05_End.l0])
      | succ k1 =>
        have H := HA.out
        clear HA
        simp only [quoinref05_End.l0] at H
        by_cases c5 : x6_1 < (l0.length : Int)
        · rw [if_pos c5] at H
          have c5b0 : decide (x6_1 < (l0.length : Int)) = true := decide_eq_true c5
          clear c5
          by_cases c6 : 0 ≤ x6_1
          · rw [if_pos c6] at H
            have c6b0 : decide (0 ≤ x6_1) = true := decide_eq_true c6
            clear c6
            by_cases c7 : (rd l0 x6_1) = 10
            · rw [if_pos c7] at H
              have c7b0 : ((rd l0 x6_1) == 10) = true := beq_iff_eq.mpr c7
              have c7b1 : ((rd l0 x6_1) != 10) = false := bne_eq_false_iff_eq.mpr c7
              clear c7
              simp only [Option.some.injEq, Prod.mk.injEq] at H
              obtain ⟨rfl, rfl⟩ := H
              have p257 : 0 ≤ (x6_1 : Int) := of_decide_eq_true (by first | (with_reducible assumption) | assumption)
              have q257 : x6_1 < (l0.length : Int) := of_decide_eq_true (by first | (with_reducible assumption) | assumption)
              obtain ⟨ad257, e257, hx257_0⟩ := Kd.at_int HR0.out x6_1 p257 q257
              cases e257
              replace p257 := eq_true p257
              replace q257 := eq_true q257
              go_wp2
              go_ret2
              exact ⟨by first | rfl | (simp; done) | (simp [*]; done), by repeat (first | exact Drawn0.refl _ | apply Drawn0.step)⟩
            · rw [if_neg c7] at H
              have c7b0 : ((rd l0 x6_1) == 10) = false := beq_eq_false_iff_ne.mpr c7
              have c7b1 : ((rd l0 x6_1) != 10) = true := bne_iff_ne.mpr c7
              have H' := Aside0.mk H
              clear H
              have p257 : 0 ≤ (x6_1 : Int) := of_decide_eq_true (by first | (with_reducible assumption) | assumption)
              have q257 : x6_1 < (l0.length : Int) := of_decide_eq_true (by first | (with_reducible assumption) | assumption)
              obtain ⟨ad257, e257, hx257_0⟩ := Kd.at_int HR0.out x6_1 p257 q257
              cases e257
              replace p257 := eq_true p257
              replace q257 := eq_true q257
              go_wp2
              go_roundg k1
              case measure => have := HK1.out; omega
              case rel => exact ⟨(wrap64 (x6_1 + 1)), (by first | rfl | (simp; done) | (simp [*]; done)), H', ⟨by have := HK1.out; omega⟩, by repeat (first | exact Drawn0.refl _ | apply Drawn0.step)⟩
          · rw [if_neg c6] at H
            exact absurd H (by simp)
        · rw [if_neg c5] at H
          have c5b0 : decide (x6_1 < (l0.length : Int)) = false := decide_eq_false c5
          clear c5
          simp only [Option.some.injEq, Prod.mk.injEq] at H
          obtain ⟨rfl, rfl⟩ := H
          go_wp2
          go_ret2
          exact ⟨by first | rfl | (simp; done) | (simp [*]; done), by repeat (first | exact Drawn0.refl _ | apply Drawn0.step)⟩
  · rw [if_neg c4] at H
    have c4b0 : (t256 == 0) = false := beq_eq_false_iff_ne.mpr c4
    have c4b1 : (t256 != 0) = true := bne_iff_ne.mpr c4
    simp only [Option.some.injEq, Prod.mk.injEq] at H
    obtain ⟨rfl, rfl⟩ := H
    go_enter Tryd.func21, Tryd.ntmps21
    go_wp2_with (first | ((with_reducible refine gate_callee (f := 20) rfl ?_); refine goesL_ (some 11) rfl rfl Tryd.func20 (by kernel_rfl) rfl #[.slice A0 l0.length c0, .int .i64 a1] rfl (by (try simp only [List.map_toArray, List.map_cons, List.map_nil]); first | done | rfl | (simp only [List.length_drop, List.length_take]; rfl)) ?_; (with_reducible refine (quoinref05_Start.calls k _ _ l0 a1 t255 t256 _ ?side1 ?side2 A3.out).mono ?_); (case side1 => repeat (first | exact HR0.out | (with_reducible refine Kd.C_alloc ?_ _) | (with_reducible refine Kd.C_drewN ?_ _) | (with_reducible refine Kd.C_drew ?_))); (case side2 => exact HC0.out); rintro e w' ⟨rfl, ⟨nd, rfl⟩⟩; refine ⟨_, rfl, ?_⟩))
    go_ret2
    exact ⟨by first | rfl | (simp; done) | (simp [*]; done), by repeat (first | exact Drawn0.refl _ | apply Drawn0.step)⟩

end Go.Proofs.YtaljihphjppjgaaDoor.X
end
section
-- Written by wip/xprint.py over the kit's print.py: the Lean function of each Go function, and the proof that the Go text comes to it.
namespace Go.Proofs.YtaljihphjppjgaaDoor.X
open Go.RowKit Go.Proofs.YtaljihphjppjgaaDoorW.PrintWords Go.Proofs.YtaljihphjppjgaaDoorW.PrintLast Go.Proofs.YtaljihphjppjgaaDoorW.PrintMore
attribute [local go_sem] max2_int min2_int max_two min_two max_three min_three max_four min_four   -- for this text's walks alone
set_option linter.unusedVariables false
set_option linter.unusedSimpArgs false

/-! ### quoinref05_Of: function 22 -/
def quoinref05_Of.f (k : Nat) (l0 : List Int) (a1 : Int) : Option (Int × Int) := if a1 < 0 then (some (0, 2)) else (if a1 > (l0.length : Int) then (some (0, 2)) else (if 0 ≤ a1 then (if a1 ≤ (l0.length : Int) then ((quoinref05_Count.f k (l0.take (a1 : Int).toNat)).bind fun t259 => (some (wrap64 (t259 - 1), 0))) else (none)) else (none)))
theorem quoinref05_Of.mono : ∀ a0 a1 k, LeO (quoinref05_Of.f k a0 a1) (quoinref05_Of.f (k + 1) a0 a1) := by
  intro a0 a1 k
  unfold quoinref05_Of.f
  repeat' first
      | (with_reducible exact quoinref05_Count.mono _ _)
      | (with_reducible exact LeO.refl _)
      | (with_reducible exact LeO.none _)
      | (with_reducible refine LeO.ite ?_ ?_)
      | (with_reducible refine LeO.bind ?_ (fun _ => ?_))
      | exact quoinref05_Count.mono _ _
      | exact LeO.none _
      | refine LeO.ite ?_ ?_
      | refine LeO.bind ?_ (fun _ => ?_)
set_option maxHeartbeats 8000000 in
set_option maxRecDepth 100000 in
theorem quoinref05_Of.calls (k : Nat) (A0 : Option Addr) (c0 : Nat) (l0 : List Int) (a1 : Int) (r1 : Int) (r2 : Int) (w : World) (hr0 : Kd.C (Kd.int .u8) w A0 l0.length l0) (hc0 : l0.length ≤ c0) (h : quoinref05_Of.f k l0 a1 = some (r1, r2)) :
    Calls Tryd.prog 22 #[.slice A0 l0.length c0, .int .i64 a1] w fun e w' => e = .returned (.tuple #[.int .i64 r1, .int .i64 r2]) ∧ Drawn0 w w' := by
  have HR0 := Aside0.mk hr0
  have HC0 := Aside0.mk hc0
  clear hr0 hc0
  have H : (if a1 < 0 then (some (0, 2)) else (if a1 > (l0.length : Int) then (some (0, 2)) else (if 0 ≤ a1 then (if a1 ≤ (l0.length : Int) then ((quoinref05_Count.f k (l0.take (a1 : Int).toNat)).bind fun t259 => (some (wrap64 (t259 - 1), 0))) else (none)) else (none)))) = some (r1, r2) := h
  clear h
  by_cases c3 : a1 < 0
  · rw [if_pos c3] at H
    have c3b0 : decide (a1 < 0) = true := decide_eq_true c3
    clear c3
    simp only [Option.some.injEq, Prod.mk.injEq] at H
    obtain ⟨rfl, rfl⟩ := H
    go_enter Tryd.func22, Tryd.ntmps22
    go_wp2
    go_ret2
    exact ⟨by first | rfl | (simp; done) | (simp [*]; done), by repeat (first | exact Drawn0.refl _ | apply Drawn0.step)⟩
  · rw [if_neg c3] at H
    have c3b0 : decide (a1 < 0) = false := decide_eq_false c3
    clear c3
    by_cases c4 : a1 > (l0.length : Int)
    · rw [if_pos c4] at H
      have c4b0 : decide ((l0.length : Int) < a1) = true := decide_eq_true c4
      clear c4
      simp only [Option.some.injEq, Prod.mk.injEq] at H
      obtain ⟨rfl, rfl⟩ := H
      go_enter Tryd.func22, Tryd.ntmps22
      go_wp2
      go_ret2
      exact ⟨by first | rfl | (simp; done) | (simp [*]; done), by repeat (first | exact Drawn0.refl _ | apply Drawn0.step)⟩
    · rw [if_neg c4] at H
      have c4b0 : decide ((l0.length : Int) < a1) = false := decide_eq_false c4
      clear c4
      by_cases c5 : 0 ≤ a1
      · rw [if_pos c5] at H
        have c5b0 := eq_true c5
        have c5b1 : decide (0 ≤ a1) = true := decide_eq_true c5
        clear c5
        by_cases c6 : a1 ≤ (l0.length : Int)
        · rw [if_pos c6] at H
          have c6b0 := eq_true c6
          have c6b1 : decide (a1 ≤ (l0.length : Int)) = true := decide_eq_true c6
          clear c6
          replace H := Option.bind_eq_some_iff.mp H
          obtain ⟨t259, A70, H⟩ := H
          replace H : (some (wrap64 (t259 - 1), 0)) = some (r1, r2) := H
          have A7 := Aside0.mk A70
          clear A70
          simp only [Option.some.injEq, Prod.mk.injEq] at H
          obtain ⟨rfl, rfl⟩ := H
          obtain ⟨i08, hi08, _, hsz8, _⟩ := info_parts info5
          obtain ⟨hcut8, hA8, hC8⟩ := print_take_of (P := Tryd.prog) (Value.int .u8) 0 22 5 .i64 Tryd.underlying22 hi08 hsz8 A0 c0 l0 a1 (of_decide_eq_true (by first | (with_reducible assumption) | assumption)) (of_decide_eq_true (by first | (with_reducible assumption) | assumption)) HC0.out
          have HR258 := Aside0.mk (Kd.C_of_reads (h1 := fun _ => rfl) (hA8 _ (Kd.reads_of_C HR0.out)))
          have HC258 := Aside0.mk hC8
          clear hA8 hC8 hi08 hsz8
          go_enter Tryd.func22, Tryd.ntmps22
          go_wp2_with (first | ((with_reducible refine gate_callee (f := 19) rfl ?_); refine goesL_ (some 17) rfl rfl Tryd.func19 (by kernel_rfl) rfl #[.slice A0 (l0.take (a1 : Int).toNat).length c0] rfl (by (try simp only [List.map_toArray, List.map_cons, List.map_nil]); first | done | (rw [show (l0.take (a1 : Int).toNat).length = a1.toNat from (by rw [List.length_take]; have h_ : (a1 : Int) ≤ (l0.length : Int) := of_decide_eq_true (by first | (with_reducible assumption) | assumption); omega)] <;> rfl) | rfl | (simp only [List.length_drop, List.length_take]; rfl)) ?_; (with_reducible refine (quoinref05_Count.calls k _ _ (l0.take (a1 : Int).toNat) t259 _ ?side1 ?side2 A7.out).mono ?_); (case side1 => repeat (first | exact HR258.out | (with_reducible refine Kd.C_alloc ?_ _) | (with_reducible refine Kd.C_drewN ?_ _) | (with_reducible refine Kd.C_drew ?_))); (case side2 => exact HC258.out); rintro e w' ⟨rfl, ⟨nd, rfl⟩⟩; refine ⟨_, rfl, ?_⟩))
          go_ret2
          exact ⟨by first | rfl | (simp; done) | (simp [*]; done), by repeat (first | exact Drawn0.refl _ | apply Drawn0.step)⟩
        · rw [if_neg c6] at H
          exact absurd H (by simp)
      · rw [if_neg c5] at H
        exact absurd H (by simp)

end Go.Proofs.YtaljihphjppjgaaDoor.X
end
section
-- Written by wip/xprint.py over the kit's print.py: the Lean function of each Go function, and the proof that the Go text comes to it.
namespace Go.Proofs.YtaljihphjppjgaaDoor.X
open Go.RowKit Go.Proofs.YtaljihphjppjgaaDoorW.PrintWords Go.Proofs.YtaljihphjppjgaaDoorW.PrintLast Go.Proofs.YtaljihphjppjgaaDoorW.PrintMore
attribute [local go_sem] max2_int min2_int max_two min_two max_three min_three max_four min_four   -- for this text's walks alone
set_option linter.unusedVariables false
set_option linter.unusedSimpArgs false

/-! ### quoinref05_begin: function 35 -/
def quoinref05_begin.l0 : Nat → List Int → Int → Option (Int)
  | 0, _, _ => none
  | k + 1, x0, x1 => if x1 > 0 then (if 0 ≤ (wrap64 (x1 - 1)) then (if (wrap64 (x1 - 1)) < (x0.length : Int) then (if (rd x0 (wrap64 (x1 - 1))) = 10 then (some x1) else (quoinref05_begin.l0 k x0 (wrap64 (x1 - 1)))) else (none)) else (none)) else (some x1)
def quoinref05_begin.f (k : Nat) (l0 : List Int) (a1 : Int) : Option (Int) := quoinref05_begin.l0 k l0 a1
theorem quoinref05_begin.mono_l : ∀ k, (∀ y0 y1, LeO (quoinref05_begin.l0 k y0 y1) (quoinref05_begin.l0 (k + 1) y0 y1))
  | 0 => fun _ _ r h => by simp [quoinref05_begin.l0] at h
  | k + 1 => by
    have ih0 := quoinref05_begin.mono_l k
    · intro y0 y1
      unfold quoinref05_begin.l0
      repeat' first
      | (with_reducible exact ih0 _ _)
      | (with_reducible exact LeO.refl _)
      | (with_reducible exact LeO.none _)
      | (with_reducible refine LeO.ite ?_ ?_)
      | (with_reducible refine LeO.bind ?_ (fun _ => ?_))
      | exact ih0 _ _
      | exact LeO.none _
      | refine LeO.ite ?_ ?_
      | refine LeO.bind ?_ (fun _ => ?_)
theorem quoinref05_begin.mono : ∀ a0 a1 k, LeO (quoinref05_begin.f k a0 a1) (quoinref05_begin.f (k + 1) a0 a1) := by
  intro a0 a1 k
  have ih0 := quoinref05_begin.mono_l k
  unfold quoinref05_begin.f
  repeat' first
      | (with_reducible exact ih0 _ _)
      | (with_reducible exact LeO.refl _)
      | (with_reducible exact LeO.none _)
      | (with_reducible refine LeO.ite ?_ ?_)
      | (with_reducible refine LeO.bind ?_ (fun _ => ?_))
      | exact ih0 _ _
      | exact LeO.none _
      | refine LeO.ite ?_ ?_
      | refine LeO.bind ?_ (fun _ => ?_)
set_option maxHeartbeats 8000000 in
set_option maxRecDepth 100000 in
theorem quoinref05_begin.calls (k : Nat) (A0 : Option Addr) (c0 : Nat) (l0 : List Int) (a1 : Int) (r : Int) (w : World) (hr0 : Kd.C (Kd.int .u8) w A0 l0.length l0) (hc0 : l0.length ≤ c0) (h : quoinref05_begin.f k l0 a1 = some r) :
    Calls Tryd.prog 35 #[.slice A0 l0.length c0, .int .i64 a1] w fun e w' => e = .returned (.int .i64 r) ∧ Drawn0 w w' := by
  have HR0 := Aside0.mk hr0
  have HC0 := Aside0.mk hc0
  clear hr0 hc0
  have H : (quoinref05_begin.l0 k l0 a1) = some r := h
  clear h
  have H' := Aside0.mk H
  clear H
  go_enter Tryd.func35, Tryd.ntmps35
  go_wp2
  go_loopg [1] k (fun kq v1 w' => ∃ (x1_1 : Int), v1 = .int .i64 x1_1 ∧ Aside0 (quoinref05_begin.l0 kq l0 x1_1 = some r) ∧ Aside0 (kq ≤ k) ∧ Drawn0 w w')
  case atStart => exact ⟨(a1), (by first | rfl | (simp; done) | (simp [*]; done)), H', ⟨Nat.le_refl _⟩, by repeat (first | exact Drawn0.refl _ | apply Drawn0.step)⟩
  case round =>
    clear H'
    try clear p2
    obtain ⟨x1_1, rfl, HA, HK1, ⟨m1, rfl⟩⟩ := hrel
    cases gk with
    | zero => exact absurd HA.out (by simp [quoinref05_begin.l0])
    | succ k1 =>
      have H := HA.out
      clear HA
      simp only [quoinref05_begin.l0] at H
      by_cases c3 : x1_1 > 0
      · rw [if_pos c3] at H
        have c3b0 : decide (0 < x1_1) = true := decide_eq_true c3
        clear c3
        obtain ⟨ji4, hji4⟩ : ∃ j_ : Int, (wrap64 (x1_1 - 1)) = j_ := ⟨_, rfl⟩
        replace H : (if 0 ≤ (ji4) then (if (ji4) < (l0.length : Int) then (if (rd l0 (ji4)) = 10 then (some x1_1) else (quoinref05_begin.l0 k1 l0 ji4)) else (none)) else (none)) = some r := by first | (rw [hji4] at H; exact H) | (simp only [hji4] at H ⊢; exact H)
        have hji4w : (IntKind.i64.wrap (x1_1 - 1)) = ji4 := (i64_w _).trans hji4
        by_cases c5 : 0 ≤ (ji4)
        · rw [if_pos c5] at H
          have c5b0 : decide (0 ≤ (ji4)) = true := decide_eq_true c5
          clear c5
          by_cases c6 : (ji4) < (l0.length : Int)
          · rw [if_pos c6] at H
            have c6b0 : decide ((ji4) < (l0.length : Int)) = true := decide_eq_true c6
            clear c6
            by_cases c7 : (rd l0 (ji4)) = 10
            · rw [if_pos c7] at H
              have c7b0 : ((rd l0 (ji4)) == 10) = true := beq_iff_eq.mpr c7
              have c7b1 : ((rd l0 (ji4)) != 10) = false := bne_eq_false_iff_eq.mpr c7
              clear c7
              obtain rfl := Option.some.inj H
              have p260 : 0 ≤ ((ji4) : Int) := of_decide_eq_true (by first | (with_reducible assumption) | assumption)
              have q260 : (ji4) < (l0.length : Int) := of_decide_eq_true (by first | (with_reducible assumption) | assumption)
              obtain ⟨ad260, e260, hx260_0⟩ := Kd.at_int HR0.out (ji4) p260 q260
              cases e260
              replace p260 := eq_true p260
              replace q260 := eq_true q260
              go_wp2
              go_ret
              exact ⟨by first | rfl | (simp; done) | (simp only [← hji4] <;> (first | rfl | simp)) | (simp [*]; done), by repeat (first | exact Drawn0.refl _ | apply Drawn0.step)⟩
            · rw [if_neg c7] at H
              have c7b0 : ((rd l0 (ji4)) == 10) = false := beq_eq_false_iff_ne.mpr c7
              have c7b1 : ((rd l0 (ji4)) != 10) = true := bne_iff_ne.mpr c7
              have H' := Aside0.mk H
              clear H
              have p260 : 0 ≤ ((ji4) : Int) := of_decide_eq_true (by first | (with_reducible assumption) | assumption)
              have q260 : (ji4) < (l0.length : Int) := of_decide_eq_true (by first | (with_reducible assumption) | assumption)
              obtain ⟨ad260, e260, hx260_0⟩ := Kd.at_int HR0.out (ji4) p260 q260
              cases e260
              replace p260 := eq_true p260
              replace q260 := eq_true q260
              go_wp2
              go_roundg k1
              case measure => have := HK1.out; omega
              case rel => exact ⟨(ji4), (by first | rfl | (simp; done) | (simp only [← hji4] <;> (first | rfl | simp)) | (simp [*]; done)), H', ⟨by have := HK1.out; omega⟩, by repeat (first | exact Drawn0.refl _ | apply Drawn0.step)⟩
          · rw [if_neg c6] at H
            exact absurd H (by simp)
        · rw [if_neg c5] at H
          exact absurd H (by simp)
      · rw [if_neg c3] at H
        have c3b0 : decide (0 < x1_1) = false := decide_eq_false c3
        clear c3
        obtain rfl := Option.some.inj H
        go_wp2
        go_ret
        exact ⟨by first | rfl | (simp; done) | (simp [*]; done), by repeat (first | exact Drawn0.refl _ | apply Drawn0.step)⟩

end Go.Proofs.YtaljihphjppjgaaDoor.X
end
section
-- Written by wip/xprint.py over the kit's print.py: the Lean function of each Go function, and the proof that the Go text comes to it.
namespace Go.Proofs.YtaljihphjppjgaaDoor.X
open Go.RowKit Go.Proofs.YtaljihphjppjgaaDoorW.PrintWords Go.Proofs.YtaljihphjppjgaaDoorW.PrintLast Go.Proofs.YtaljihphjppjgaaDoorW.PrintMore
attribute [local go_sem] max2_int min2_int max_two min_two max_three min_three max_four min_four   -- for this text's walks alone
set_option linter.unusedVariables false
set_option linter.unusedSimpArgs false

/-! ### quoinref05_Column: function 23 -/
def quoinref05_Column.f (k : Nat) (l0 : List Int) (a1 : Int) : Option (Int × Int) := if a1 < 0 then (some (0, 2)) else (if a1 > (l0.length : Int) then (some (0, 2)) else ((quoinref05_begin.f k l0 a1).bind fun t261 => (some (wrap64 (a1 - t261), 0))))
theorem quoinref05_Column.mono : ∀ a0 a1 k, LeO (quoinref05_Column.f k a0 a1) (quoinref05_Column.f (k + 1) a0 a1) := by
  intro a0 a1 k
  unfold quoinref05_Column.f
  repeat' first
      | (with_reducible exact quoinref05_begin.mono _ _ _)
      | (with_reducible exact LeO.refl _)
      | (with_reducible exact LeO.none _)
      | (with_reducible refine LeO.ite ?_ ?_)
      | (with_reducible refine LeO.bind ?_ (fun _ => ?_))
      | exact quoinref05_begin.mono _ _ _
      | exact LeO.none _
      | refine LeO.ite ?_ ?_
      | refine LeO.bind ?_ (fun _ => ?_)
set_option maxHeartbeats 8000000 in
set_option maxRecDepth 100000 in
theorem quoinref05_Column.calls (k : Nat) (A0 : Option Addr) (c0 : Nat) (l0 : List Int) (a1 : Int) (r1 : Int) (r2 : Int) (w : World) (hr0 : Kd.C (Kd.int .u8) w A0 l0.length l0) (hc0 : l0.length ≤ c0) (h : quoinref05_Column.f k l0 a1 = some (r1, r2)) :
    Calls Tryd.prog 23 #[.slice A0 l0.length c0, .int .i64 a1] w fun e w' => e = .returned (.tuple #[.int .i64 r1, .int .i64 r2]) ∧ Drawn0 w w' := by
  have HR0 := Aside0.mk hr0
  have HC0 := Aside0.mk hc0
  clear hr0 hc0
  have H : (if a1 < 0 then (some (0, 2)) else (if a1 > (l0.length : Int) then (some (0, 2)) else ((quoinref05_begin.f k l0 a1).bind fun t261 => (some (wrap64 (a1 - t261), 0))))) = some (r1, r2) := h
  clear h
  by_cases c3 : a1 < 0
  · rw [if_pos c3] at H
    have c3b0 : decide (a1 < 0) = true := decide_eq_true c3
    clear c3
    simp only [Option.some.injEq, Prod.mk.injEq] at H
    obtain ⟨rfl, rfl⟩ := H
    go_enter Tryd.func23, Tryd.ntmps23
    go_wp2
    go_ret2
    exact ⟨by first | rfl | (simp; done) | (simp [*]; done), by repeat (first | exact Drawn0.refl _ | apply Drawn0.step)⟩
  · rw [if_neg c3] at H
    have c3b0 : decide (a1 < 0) = false := decide_eq_false c3
    clear c3
    by_cases c4 : a1 > (l0.length : Int)
    · rw [if_pos c4] at H
      have c4b0 : decide ((l0.length : Int) < a1) = true := decide_eq_true c4
      clear c4
      simp only [Option.some.injEq, Prod.mk.injEq] at H
      obtain ⟨rfl, rfl⟩ := H
      go_enter Tryd.func23, Tryd.ntmps23
      go_wp2
      go_ret2
      exact ⟨by first | rfl | (simp; done) | (simp [*]; done), by repeat (first | exact Drawn0.refl _ | apply Drawn0.step)⟩
    · rw [if_neg c4] at H
      have c4b0 : decide ((l0.length : Int) < a1) = false := decide_eq_false c4
      clear c4
      replace H := Option.bind_eq_some_iff.mp H
      obtain ⟨t261, A50, H⟩ := H
      replace H : (some (wrap64 (a1 - t261), 0)) = some (r1, r2) := H
      have A5 := Aside0.mk A50
      clear A50
      simp only [Option.some.injEq, Prod.mk.injEq] at H
      obtain ⟨rfl, rfl⟩ := H
      go_enter Tryd.func23, Tryd.ntmps23
      go_wp2_with (first | ((with_reducible refine gate_callee (f := 35) rfl ?_); refine goesL_ (some 17) rfl rfl Tryd.func35 (by kernel_rfl) rfl #[.slice A0 l0.length c0, .int .i64 a1] rfl (by (try simp only [List.map_toArray, List.map_cons, List.map_nil]); first | done | rfl | (simp only [List.length_drop, List.length_take]; rfl)) ?_; (with_reducible refine (quoinref05_begin.calls k _ _ l0 a1 t261 _ ?side1 ?side2 A5.out).mono ?_); (case side1 => repeat (first | exact HR0.out | (with_reducible refine Kd.C_alloc ?_ _) | (with_reducible refine Kd.C_drewN ?_ _) | (with_reducible refine Kd.C_drew ?_))); (case side2 => exact HC0.out); rintro e w' ⟨rfl, ⟨nd, rfl⟩⟩; refine ⟨_, rfl, ?_⟩))
      go_ret2
      exact ⟨by first | rfl | (simp; done) | (simp [*]; done), by repeat (first | exact Drawn0.refl _ | apply Drawn0.step)⟩

end Go.Proofs.YtaljihphjppjgaaDoor.X
end
section
-- Written by wip/xprint.py over the kit's print.py: the Lean function of each Go function, and the proof that the Go text comes to it.
namespace Go.Proofs.YtaljihphjppjgaaDoor.X
open Go.RowKit Go.Proofs.YtaljihphjppjgaaDoorW.PrintWords Go.Proofs.YtaljihphjppjgaaDoorW.PrintLast Go.Proofs.YtaljihphjppjgaaDoorW.PrintMore
attribute [local go_sem] max2_int min2_int max_two min_two max_three min_three max_four min_four   -- for this text's walks alone
set_option linter.unusedVariables false
set_option linter.unusedSimpArgs false

/-! ### quoinref05_At: function 26 -/
mutual
def quoinref05_At.j0 : Nat → List Int → Int → Int → Int → Bool → Option (Int × Int)
  | 0, _, _, _, _, _ => none
  | k + 1, x0, x1, x2, x8, x23 => if x23 = true then (some (0, 2)) else ((quoinref05_End.f k x0 x1).bind fun bt270 => (if x2 ≥ 0 then (quoinref05_At.j1 k x2 x8 bt270.1 (decide (x2 < (wrap64 (bt270.1 - x8))))) else (quoinref05_At.j1 k x2 x8 bt270.1 false)))
def quoinref05_At.j1 : Nat → Int → Int → Int → Bool → Option (Int × Int)
  | 0, _, _, _, _ => none
  | k + 1, x2, x8, x10, x38 => if x38 = true then (some (wrap64 (x8 + x2), 0)) else (if x8 < x10 then (some (wrap64 (x10 - 1), 0)) else (some (x8, 0)))
end
def quoinref05_At.f (k : Nat) (l0 : List Int) (a1 : Int) (a2 : Int) : Option (Int × Int) := (quoinref05_Start.f k l0 a1).bind fun bt268 => (if bt268.2 = 0 then (quoinref05_At.j0 k l0 a1 a2 bt268.1 (decide (a2 < (-1)))) else (quoinref05_At.j0 k l0 a1 a2 bt268.1 true))
theorem quoinref05_At.mono_l : ∀ k, (∀ y0 y1 y2 y3 y4, LeO (quoinref05_At.j0 k y0 y1 y2 y3 y4) (quoinref05_At.j0 (k + 1) y0 y1 y2 y3 y4)) ∧ (∀ y0 y1 y2 y3, LeO (quoinref05_At.j1 k y0 y1 y2 y3) (quoinref05_At.j1 (k + 1) y0 y1 y2 y3))
  | 0 => ⟨fun _ _ _ _ _ r h => by simp [quoinref05_At.j0] at h, fun _ _ _ _ r h => by simp [quoinref05_At.j1] at h⟩
  | k + 1 => by
    obtain ⟨ih0, ih1⟩ := quoinref05_At.mono_l k
    refine ⟨?_, ?_⟩
    · intro y0 y1 y2 y3 y4
      unfold quoinref05_At.j0
      repeat' first
      | (with_reducible exact ih0 _ _ _ _ _)
      | (with_reducible exact ih1 _ _ _ _)
      | (with_reducible exact quoinref05_End.mono _ _ _)
      | (with_reducible exact quoinref05_Start.mono _ _ _)
      | (with_reducible exact LeO.refl _)
      | (with_reducible exact LeO.none _)
      | (with_reducible refine LeO.ite ?_ ?_)
      | (with_reducible refine LeO.bind ?_ (fun _ => ?_))
      | exact ih0 _ _ _ _ _
      | exact ih1 _ _ _ _
      | exact quoinref05_End.mono _ _ _
      | exact quoinref05_Start.mono _ _ _
      | exact LeO.none _
      | refine LeO.ite ?_ ?_
      | refine LeO.bind ?_ (fun _ => ?_)
    · intro y0 y1 y2 y3
      unfold quoinref05_At.j1
      repeat' first
      | (with_reducible exact ih0 _ _ _ _ _)
      | (with_reducible exact ih1 _ _ _ _)
      | (with_reducible exact quoinref05_End.mono _ _ _)
      | (with_reducible exact quoinref05_Start.mono _ _ _)
      | (with_reducible exact LeO.refl _)
      | (with_reducible exact LeO.none _)
      | (with_reducible refine LeO.ite ?_ ?_)
      | (with_reducible refine LeO.bind ?_ (fun _ => ?_))
      | exact ih0 _ _ _ _ _
      | exact ih1 _ _ _ _
      | exact quoinref05_End.mono _ _ _
      | exact quoinref05_Start.mono _ _ _
      | exact LeO.none _
      | refine LeO.ite ?_ ?_
      | refine LeO.bind ?_ (fun _ => ?_)
theorem quoinref05_At.mono : ∀ a0 a1 a2 k, LeO (quoinref05_At.f k a0 a1 a2) (quoinref05_At.f (k + 1) a0 a1 a2) := by
  intro a0 a1 a2 k
  obtain ⟨ih0, ih1⟩ := quoinref05_At.mono_l k
  unfold quoinref05_At.f
  repeat' first
      | (with_reducible exact ih0 _ _ _ _ _)
      | (with_reducible exact ih1 _ _ _ _)
      | (with_reducible exact quoinref05_End.mono _ _ _)
      | (with_reducible exact quoinref05_Start.mono _ _ _)
      | (with_reducible exact LeO.refl _)
      | (with_reducible exact LeO.none _)
      | (with_reducible refine LeO.ite ?_ ?_)
      | (with_reducible refine LeO.bind ?_ (fun _ => ?_))
      | exact ih0 _ _ _ _ _
      | exact ih1 _ _ _ _
      | exact quoinref05_End.mono _ _ _
      | exact quoinref05_Start.mono _ _ _
      | exact LeO.none _
      | refine LeO.ite ?_ ?_
      | refine LeO.bind ?_ (fun _ => ?_)
set_option maxHeartbeats 8000000 in
set_option maxRecDepth 100000 in
theorem quoinref05_At.calls (k : Nat) (A0 : Option Addr) (c0 : Nat) (l0 : List Int) (a1 : Int) (a2 : Int) (r1 : Int) (r2 : Int) (w : World) (hr0 : Kd.C (Kd.int .u8) w A0 l0.length l0) (hc0 : l0.length ≤ c0) (h : quoinref05_At.f k l0 a1 a2 = some (r1, r2)) :
    Calls Tryd.prog 26 #[.slice A0 l0.length c0, .int .i64 a1, .int .i64 a2] w fun e w' => e = .returned (.tuple #[.int .i64 r1, .int .i64 r2]) ∧ Drawn0 w w' := by
  have HR0 := Aside0.mk hr0
  have HC0 := Aside0.mk hc0
  clear hr0 hc0
  have H : ((quoinref05_Start.f k l0 a1).bind fun bt268 => (if bt268.2 = 0 then (quoinref05_At.j0 k l0 a1 a2 bt268.1 (decide (a2 < (-1)))) else (quoinref05_At.j0 k l0 a1 a2 bt268.1 true))) = some (r1, r2) := h
  clear h
  replace H := Option.bind_eq_some_iff.mp H
  obtain ⟨⟨t268, t269⟩, A40, H⟩ := H
  replace H : (if t269 = 0 then (quoinref05_At.j0 k l0 a1 a2 t268 (decide (a2 < (-1)))) else (quoinref05_At.j0 k l0 a1 a2 t268 true)) = some (r1, r2) := H
  have A4 := Aside0.mk A40
  clear A40
  have HC5 := Aside0.mk H
  clear H
  go_enter Tryd.func26, Tryd.ntmps26
  go_upto_region 2 with (first | ((with_reducible refine gate_callee (f := 20) rfl ?_); refine goesL_ (some 15) rfl rfl Tryd.func20 (by kernel_rfl) rfl #[.slice A0 l0.length c0, .int .i64 a1] rfl (by (try simp only [List.map_toArray, List.map_cons, List.map_nil]); first | done | rfl | (simp only [List.length_drop, List.length_take]; rfl)) ?_; (with_reducible refine (quoinref05_Start.calls k _ _ l0 a1 t268 t269 _ ?side1 ?side2 A4.out).mono ?_); (case side1 => repeat (first | exact HR0.out | (with_reducible refine Kd.C_alloc ?_ _) | (with_reducible refine Kd.C_drewN ?_ _) | (with_reducible refine Kd.C_drew ?_))); (case side2 => exact HC0.out); rintro e w' ⟨rfl, ⟨nd, rfl⟩⟩; refine ⟨_, rfl, ?_⟩))
  (try simp only [Act.put, List.setIfInBounds_toArray, List.set_cons_zero, List.set_cons_succ])
  go_cut [23] (fun v23 wc => ∃ (kq : Nat) (x23_4 : Bool), v23 = .bool x23_4 ∧ Aside0 (quoinref05_At.j0 kq l0 a1 a2 t268 x23_4 = some (r1, r2)) ∧ Aside0 (kq ≤ k) ∧ Drawn0 w wc)
  case first =>
    have H := HC5.out
    clear HC5
    by_cases c6 : t269 = 0
    · rw [if_pos c6] at H
      have c6b0 : (t269 == 0) = true := beq_iff_eq.mpr c6
      have c6b1 : (t269 != 0) = false := bne_eq_false_iff_eq.mpr c6
      clear c6
      (first | rw [c6b0] | (simp only [i64_w, i32_w]; rw [c6b0]) | skip)
      have H' := Aside0.mk H
      clear H
      go_wp2
      go_meet
      case rel => exact ⟨_, (decide (a2 < (-1))), (by first | rfl | (simp; done) | (simp [*]; done)), H', ⟨by first | omega | exact Nat.le_refl _⟩, by repeat (first | exact Drawn0.refl _ | apply Drawn0.step)⟩
    · rw [if_neg c6] at H
      have c6b0 : (t269 == 0) = false := beq_eq_false_iff_ne.mpr c6
      have c6b1 : (t269 != 0) = true := bne_iff_ne.mpr c6
      (first | rw [c6b0] | (simp only [i64_w, i32_w]; rw [c6b0]) | skip)
      have H' := Aside0.mk H
      clear H
      go_wp2
      go_meet
      case rel => exact ⟨_, (true), (by first | rfl | (simp; done) | (simp [*]; done)), H', ⟨by first | omega | exact Nat.le_refl _⟩, by repeat (first | exact Drawn0.refl _ | apply Drawn0.step)⟩
  case rest =>
    clear HC5
    try clear c2
    try clear p2
    try clear c6
    try clear c6b0
    try clear c6b1
    obtain ⟨kq, x23_4, rfl, HA, HJ4, ⟨mc4, rfl⟩⟩ := hcut
    cases kq with
    | zero => exact absurd HA.out (by simp [quoinref05_At.j0])
    | succ kj4 =>
      have H := HA.out
      clear HA
      simp only [quoinref05_At.j0] at H
      by_cases c7 : x23_4 = true
      · subst c7
        have H1 : (some (0, 2)) = some (r1, r2) := by rw [if_pos rfl] at H; exact H
        clear H
        have H := H1
        clear H1
        simp only [Option.some.injEq, Prod.mk.injEq] at H
        obtain ⟨rfl, rfl⟩ := H
        go_wp2
        go_ret2
        exact ⟨by first | rfl | (simp; done) | (simp [*]; done), by repeat (first | exact Drawn0.refl _ | apply Drawn0.step)⟩
      · replace c7 := Bool.eq_false_iff.mpr c7
        subst c7
        have H1 : ((quoinref05_End.f kj4 l0 a1).bind fun bt270 => (if a2 ≥ 0 then (quoinref05_At.j1 kj4 a2 t268 bt270.1 (decide (a2 < (wrap64 (bt270.1 - t268))))) else (quoinref05_At.j1 kj4 a2 t268 bt270.1 false))) = some (r1, r2) := by rw [if_neg (show ¬ (false = true) by decide)] at H; exact H
        clear H
        have H := H1
        clear H1
        replace H := Option.bind_eq_some_iff.mp H
        obtain ⟨⟨t270, t271⟩, A80, H⟩ := H
        replace H : (if a2 ≥ 0 then (quoinref05_At.j1 kj4 a2 t268 t270 (decide (a2 < (wrap64 (t270 - t268))))) else (quoinref05_At.j1 kj4 a2 t268 t270 false)) = some (r1, r2) := H
        have A8 := Aside0.mk A80
        clear A80
        have HC9 := Aside0.mk H
        clear H
        go_upto_region 5 with (first | ((with_reducible refine gate_callee (f := 21) rfl ?_); refine goesL_ (some 27) rfl rfl Tryd.func21 (by kernel_rfl) rfl #[.slice A0 l0.length c0, .int .i64 a1] rfl (by (try simp only [List.map_toArray, List.map_cons, List.map_nil]); first | done | rfl | (simp only [List.length_drop, List.length_take]; rfl)) ?_; (with_reducible refine (quoinref05_End.calls kj4 _ _ l0 a1 t270 t271 _ ?side1 ?side2 A8.out).mono ?_); (case side1 => repeat (first | exact HR0.out | (with_reducible refine Kd.C_alloc ?_ _) | (with_reducible refine Kd.C_drewN ?_ _) | (with_reducible refine Kd.C_drew ?_))); (case side2 => exact HC0.out); rintro e w' ⟨rfl, ⟨nd, rfl⟩⟩; refine ⟨_, rfl, ?_⟩))
        (try simp only [Act.put, List.setIfInBounds_toArray, List.set_cons_zero, List.set_cons_succ])
        go_cut [38] (fun v38 wc => ∃ (kq : Nat) (x38_8 : Bool), v38 = .bool x38_8 ∧ Aside0 (quoinref05_At.j1 kq a2 t268 t270 x38_8 = some (r1, r2)) ∧ Aside0 (kq ≤ kj4) ∧ Drawn0 w wc)
        case first =>
          have H := HC9.out
          clear HC9
          by_cases c10 : a2 ≥ 0
          · rw [if_pos c10] at H
            have c10b0 : decide (0 ≤ a2) = true := decide_eq_true c10
            clear c10
            (first | rw [c10b0] | (simp only [i64_w, i32_w]; rw [c10b0]) | skip)
            have H' := Aside0.mk H
            clear H
            go_wp2
            go_meet
            case rel => exact ⟨_, (decide (a2 < (wrap64 (t270 - t268)))), (by first | rfl | (simp; done) | (simp [*]; done)), H', ⟨by have := HJ4.out; first | omega | exact Nat.le_refl _⟩, by repeat (first | exact Drawn0.refl _ | apply Drawn0.step)⟩
          · rw [if_neg c10] at H
            have c10b0 : decide (0 ≤ a2) = false := decide_eq_false c10
            clear c10
            (first | rw [c10b0] | (simp only [i64_w, i32_w]; rw [c10b0]) | skip)
            have H' := Aside0.mk H
            clear H
            go_wp2
            go_meet
            case rel => exact ⟨_, (false), (by first | rfl | (simp; done) | (simp [*]; done)), H', ⟨by have := HJ4.out; first | omega | exact Nat.le_refl _⟩, by repeat (first | exact Drawn0.refl _ | apply Drawn0.step)⟩
        case rest =>
          clear HC9
          try clear c1
          try clear c2
          try clear p2
          try clear c4
          try clear c6
          try clear c6b0
          try clear c6b1
          try clear p6
          try clear c7
          try clear c10
          try clear c10b0
          try clear p2
          obtain ⟨kq, x38_8, rfl, HA, HJ8, ⟨mc8, rfl⟩⟩ := hcut
          cases kq with
          | zero => exact absurd HA.out (by simp [quoinref05_At.j1])
          | succ kj8 =>
            have H := HA.out
            clear HA
            simp only [quoinref05_At.j1] at H
            by_cases c11 : x38_8 = true
            · subst c11
              have H1 : (some (wrap64 (t268 + a2), 0)) = some (r1, r2) := by rw [if_pos rfl] at H; exact H
              clear H
              have H := H1
              clear H1
              simp only [Option.some.injEq, Prod.mk.injEq] at H
              obtain ⟨rfl, rfl⟩ := H
              go_wp2
              go_ret2
              exact ⟨by first | rfl | (simp; done) | (simp [*]; done), by repeat (first | exact Drawn0.refl _ | apply Drawn0.step)⟩
            · replace c11 := Bool.eq_false_iff.mpr c11
              subst c11
              have H1 : (if t268 < t270 then (some (wrap64 (t270 - 1), 0)) else (some (t268, 0))) = some (r1, r2) := by rw [if_neg (show ¬ (false = true) by decide)] at H; exact H
              clear H
              have H := H1
              clear H1
              by_cases c12 : t268 < t270
              · rw [if_pos c12] at H
                have c12b0 : decide (t268 < t270) = true := decide_eq_true c12
                clear c12
                simp only [Option.some.injEq, Prod.mk.injEq] at H
                obtain ⟨rfl, rfl⟩ := H
                go_wp2
                go_ret2
                exact ⟨by first | rfl | (simp; done) | (simp [*]; done), by repeat (first | exact Drawn0.refl _ | apply Drawn0.step)⟩
              · rw [if_neg c12] at H
                have c12b0 : decide (t268 < t270) = false := decide_eq_false c12
                clear c12
                simp only [Option.some.injEq, Prod.mk.injEq] at H
                obtain ⟨rfl, rfl⟩ := H
                go_wp2
                go_ret2
                exact ⟨by first | rfl | (simp; done) | (simp [*]; done), by repeat (first | exact Drawn0.refl _ | apply Drawn0.step)⟩

end Go.Proofs.YtaljihphjppjgaaDoor.X
end
section
-- Written by wip/xprint.py over the kit's print.py: the Lean function of each Go function, and the proof that the Go text comes to it.
namespace Go.Proofs.YtaljihphjppjgaaDoor.X
open Go.RowKit Go.Proofs.YtaljihphjppjgaaDoorW.PrintWords Go.Proofs.YtaljihphjppjgaaDoorW.PrintLast Go.Proofs.YtaljihphjppjgaaDoorW.PrintMore
attribute [local go_sem] max2_int min2_int max_two min_two max_three min_three max_four min_four   -- for this text's walks alone
set_option linter.unusedVariables false
set_option linter.unusedSimpArgs false

/-! ### quoinref05_Rest: function 27 -/
def quoinref05_Rest.f (k : Nat) (l0 : List Int) (a1 : Int) : Option (Int) := if (mn (mx a1 0) (l0.length : Int)) < (l0.length : Int) then (if 0 ≤ (mn (mx a1 0) (l0.length : Int)) then (if (rd l0 (mn (mx a1 0) (l0.length : Int))) = 10 then ((quoinref05_begin.f k l0 (mn (mx a1 0) (l0.length : Int))).bind fun t273 => (if (mn (mx a1 0) (l0.length : Int)) = t273 then (some (mn (mx a1 0) (l0.length : Int))) else (some (wrap64 ((mn (mx a1 0) (l0.length : Int)) - 1))))) else (some (mn (mx a1 0) (l0.length : Int)))) else (none)) else ((quoinref05_begin.f k l0 (mn (mx a1 0) (l0.length : Int))).bind fun t274 => (if (mn (mx a1 0) (l0.length : Int)) = t274 then (some (mn (mx a1 0) (l0.length : Int))) else (some (wrap64 ((mn (mx a1 0) (l0.length : Int)) - 1)))))
theorem quoinref05_Rest.mono : ∀ a0 a1 k, LeO (quoinref05_Rest.f k a0 a1) (quoinref05_Rest.f (k + 1) a0 a1) := by
  intro a0 a1 k
  unfold quoinref05_Rest.f
  repeat' first
      | (with_reducible exact quoinref05_begin.mono _ _ _)
      | (with_reducible exact LeO.refl _)
      | (with_reducible exact LeO.none _)
      | (with_reducible refine LeO.ite ?_ ?_)
      | (with_reducible refine LeO.bind ?_ (fun _ => ?_))
      | exact quoinref05_begin.mono _ _ _
      | exact LeO.none _
      | refine LeO.ite ?_ ?_
      | refine LeO.bind ?_ (fun _ => ?_)
set_option maxHeartbeats 8000000 in
set_option maxRecDepth 100000 in
theorem quoinref05_Rest.calls (k : Nat) (A0 : Option Addr) (c0 : Nat) (l0 : List Int) (a1 : Int) (r : Int) (w : World) (hr0 : Kd.C (Kd.int .u8) w A0 l0.length l0) (hc0 : l0.length ≤ c0) (h : quoinref05_Rest.f k l0 a1 = some r) :
    Calls Tryd.prog 27 #[.slice A0 l0.length c0, .int .i64 a1] w fun e w' => e = .returned (.int .i64 r) ∧ Below w.heap.size w w' := by
  have HR0 := Aside0.mk hr0
  have HC0 := Aside0.mk hc0
  clear hr0 hc0
  have HB := Aside0.mk (Below.refl w.heap.size w)
  have H : (if (mn (mx a1 0) (l0.length : Int)) < (l0.length : Int) then (if 0 ≤ (mn (mx a1 0) (l0.length : Int)) then (if (rd l0 (mn (mx a1 0) (l0.length : Int))) = 10 then ((quoinref05_begin.f k l0 (mn (mx a1 0) (l0.length : Int))).bind fun t273 => (if (mn (mx a1 0) (l0.length : Int)) = t273 then (some (mn (mx a1 0) (l0.length : Int))) else (some (wrap64 ((mn (mx a1 0) (l0.length : Int)) - 1))))) else (some (mn (mx a1 0) (l0.length : Int)))) else (none)) else ((quoinref05_begin.f k l0 (mn (mx a1 0) (l0.length : Int))).bind fun t274 => (if (mn (mx a1 0) (l0.length : Int)) = t274 then (some (mn (mx a1 0) (l0.length : Int))) else (some (wrap64 ((mn (mx a1 0) (l0.length : Int)) - 1)))))) = some r := h
  clear h
  obtain ⟨ji3, hji3⟩ : ∃ j_ : Int, (mx a1 0) = j_ := ⟨_, rfl⟩
  replace H : (if (mn (ji3) (l0.length : Int)) < (l0.length : Int) then (if 0 ≤ (mn (ji3) (l0.length : Int)) then (if (rd l0 (mn (ji3) (l0.length : Int))) = 10 then ((quoinref05_begin.f k l0 (mn (ji3) (l0.length : Int))).bind fun t273 => (if (mn (ji3) (l0.length : Int)) = t273 then (some (mn (ji3) (l0.length : Int))) else (some (wrap64 ((mn (ji3) (l0.length : Int)) - 1))))) else (some (mn (ji3) (l0.length : Int)))) else (none)) else ((quoinref05_begin.f k l0 (mn (ji3) (l0.length : Int))).bind fun t274 => (if (mn (ji3) (l0.length : Int)) = t274 then (some (mn (ji3) (l0.length : Int))) else (some (wrap64 ((mn (ji3) (l0.length : Int)) - 1)))))) = some r := by first | (rw [hji3] at H; exact H) | (simp only [hji3] at H ⊢; exact H)
  (try (have hji3l : 0 ≤ ji3 := by (rw [← hji3]; unfold mx; (repeat' split) <;> omega)))
  (try (have hji3m : 0 ≤ ji3 := by omega))
  have hji3_ : (if a1 < 0 then 0 else a1) = ji3 := hji3
  obtain ⟨ji4, hji4⟩ : ∃ j_ : Int, (mn (ji3) (l0.length : Int)) = j_ := ⟨_, rfl⟩
  replace H : (if (ji4) < (l0.length : Int) then (if 0 ≤ (ji4) then (if (rd l0 (ji4)) = 10 then ((quoinref05_begin.f k l0 (ji4)).bind fun t273 => (if (ji4) = t273 then (some ji4) else (some (wrap64 ((ji4) - 1))))) else (some ji4)) else (none)) else ((quoinref05_begin.f k l0 (ji4)).bind fun t274 => (if (ji4) = t274 then (some ji4) else (some (wrap64 ((ji4) - 1)))))) = some r := by first | (rw [hji4] at H; exact H) | (simp only [hji4] at H ⊢; exact H)
  have hji4_ : (if (l0.length : Int) < (ji3) then (l0.length : Int) else (ji3)) = ji4 := hji4
  by_cases c5 : (ji4) < (l0.length : Int)
  · rw [if_pos c5] at H
    have c5b0 : decide ((ji4) < (l0.length : Int)) = true := decide_eq_true c5
    clear c5
    by_cases c6 : 0 ≤ (ji4)
    · rw [if_pos c6] at H
      have c6b0 : decide (0 ≤ (ji4)) = true := decide_eq_true c6
      clear c6
      by_cases c7 : (rd l0 (ji4)) = 10
      · rw [if_pos c7] at H
        have c7b0 : ((rd l0 (ji4)) == 10) = true := beq_iff_eq.mpr c7
        have c7b1 : ((rd l0 (ji4)) != 10) = false := bne_eq_false_iff_eq.mpr c7
        clear c7
        replace H := Option.bind_eq_some_iff.mp H
        obtain ⟨t273, A80, H⟩ := H
        replace H : (if (ji4) = t273 then (some ji4) else (some (wrap64 ((ji4) - 1)))) = some r := H
        have A8 := Aside0.mk A80
        clear A80
        by_cases c9 : (ji4) = t273
        · rw [if_pos c9] at H
          have c9b0 : ((ji4) == t273) = true := beq_iff_eq.mpr c9
          have c9b1 : ((ji4) != t273) = false := bne_eq_false_iff_eq.mpr c9
          clear c9
          obtain rfl := Option.some.inj H
          have p272 : 0 ≤ ((ji4) : Int) := of_decide_eq_true (by first | (with_reducible assumption) | assumption)
          have q272 : (ji4) < (l0.length : Int) := of_decide_eq_true (by first | (with_reducible assumption) | assumption)
          obtain ⟨ad272, e272, hx272_0⟩ := Kd.at_int HR0.out (ji4) p272 q272
          cases e272
          replace p272 := eq_true p272
          replace q272 := eq_true q272
          go_enter Tryd.func27, Tryd.ntmps27
          go_wp2_with (first | (go_at_call 35; (with_reducible refine (quoinref05_begin.calls k _ _ l0 ji4 t273 _ ?side1 ?side2 A8.out).mono ?_); (case side1 => repeat (first | exact HR0.out | (with_reducible refine Kd.C_alloc ?_ _) | (with_reducible refine Kd.C_drewN ?_ _) | (with_reducible refine Kd.C_drew ?_))); (case side2 => exact HC0.out); rintro e w' ⟨rfl, ⟨nd, rfl⟩⟩))
          go_ret
          exact ⟨by first | rfl | (simp [errW_none, errW_some] <;> rfl) | (simp only [← hji3, ← hji4]; first | rfl | (simp [errW_none, errW_some] <;> rfl)) | (simp [*, errW_none, errW_some] <;> rfl), by repeat (first | (with_reducible first | exact HB.out | apply below_alloc | apply pw_below_drewN | apply below_drew1) | exact HB.out)⟩
        · rw [if_neg c9] at H
          have c9b0 : ((ji4) == t273) = false := beq_eq_false_iff_ne.mpr c9
          have c9b1 : ((ji4) != t273) = true := bne_iff_ne.mpr c9
          obtain rfl := Option.some.inj H
          have p272 : 0 ≤ ((ji4) : Int) := of_decide_eq_true (by first | (with_reducible assumption) | assumption)
          have q272 : (ji4) < (l0.length : Int) := of_decide_eq_true (by first | (with_reducible assumption) | assumption)
          obtain ⟨ad272, e272, hx272_0⟩ := Kd.at_int HR0.out (ji4) p272 q272
          cases e272
          replace p272 := eq_true p272
          replace q272 := eq_true q272
          go_enter Tryd.func27, Tryd.ntmps27
          go_wp2_with (first | (go_at_call 35; (with_reducible refine (quoinref05_begin.calls k _ _ l0 ji4 t273 _ ?side1 ?side2 A8.out).mono ?_); (case side1 => repeat (first | exact HR0.out | (with_reducible refine Kd.C_alloc ?_ _) | (with_reducible refine Kd.C_drewN ?_ _) | (with_reducible refine Kd.C_drew ?_))); (case side2 => exact HC0.out); rintro e w' ⟨rfl, ⟨nd, rfl⟩⟩))
          go_ret
          exact ⟨by first | rfl | (simp [errW_none, errW_some] <;> rfl) | (simp only [← hji3, ← hji4]; first | rfl | (simp [errW_none, errW_some] <;> rfl)) | (simp [*, errW_none, errW_some] <;> rfl), by repeat (first | (with_reducible first | exact HB.out | apply below_alloc | apply pw_below_drewN | apply below_drew1) | exact HB.out)⟩
      · rw [if_neg c7] at H
        have c7b0 : ((rd l0 (ji4)) == 10) = false := beq_eq_false_iff_ne.mpr c7
        have c7b1 : ((rd l0 (ji4)) != 10) = true := bne_iff_ne.mpr c7
        obtain rfl := Option.some.inj H
        have p272 : 0 ≤ ((ji4) : Int) := of_decide_eq_true (by first | (with_reducible assumption) | assumption)
        have q272 : (ji4) < (l0.length : Int) := of_decide_eq_true (by first | (with_reducible assumption) | assumption)
        obtain ⟨ad272, e272, hx272_0⟩ := Kd.at_int HR0.out (ji4) p272 q272
        cases e272
        replace p272 := eq_true p272
        replace q272 := eq_true q272
        go_enter Tryd.func27, Tryd.ntmps27
        go_wp2
        go_ret
        exact ⟨by first | rfl | (simp [errW_none, errW_some] <;> rfl) | (simp only [← hji3, ← hji4]; first | rfl | (simp [errW_none, errW_some] <;> rfl)) | (simp [*, errW_none, errW_some] <;> rfl), by repeat (first | (with_reducible first | exact HB.out | apply below_alloc | apply pw_below_drewN | apply below_drew1) | exact HB.out)⟩
    · rw [if_neg c6] at H
      exact absurd H (by simp)
  · rw [if_neg c5] at H
    have c5b0 : decide ((ji4) < (l0.length : Int)) = false := decide_eq_false c5
    clear c5
    replace H := Option.bind_eq_some_iff.mp H
    obtain ⟨t274, A100, H⟩ := H
    replace H : (if (ji4) = t274 then (some ji4) else (some (wrap64 ((ji4) - 1)))) = some r := H
    have A10 := Aside0.mk A100
    clear A100
    by_cases c11 : (ji4) = t274
    · rw [if_pos c11] at H
      have c11b0 : ((ji4) == t274) = true := beq_iff_eq.mpr c11
      have c11b1 : ((ji4) != t274) = false := bne_eq_false_iff_eq.mpr c11
      clear c11
      obtain rfl := Option.some.inj H
      go_enter Tryd.func27, Tryd.ntmps27
      go_wp2_with (first | (go_at_call 35; (with_reducible refine (quoinref05_begin.calls k _ _ l0 ji4 t274 _ ?side1 ?side2 A10.out).mono ?_); (case side1 => repeat (first | exact HR0.out | (with_reducible refine Kd.C_alloc ?_ _) | (with_reducible refine Kd.C_drewN ?_ _) | (with_reducible refine Kd.C_drew ?_))); (case side2 => exact HC0.out); rintro e w' ⟨rfl, ⟨nd, rfl⟩⟩))
      go_ret
      exact ⟨by first | rfl | (simp [errW_none, errW_some] <;> rfl) | (simp only [← hji3, ← hji4]; first | rfl | (simp [errW_none, errW_some] <;> rfl)) | (simp [*, errW_none, errW_some] <;> rfl), by repeat (first | (with_reducible first | exact HB.out | apply below_alloc | apply pw_below_drewN | apply below_drew1) | exact HB.out)⟩
    · rw [if_neg c11] at H
      have c11b0 : ((ji4) == t274) = false := beq_eq_false_iff_ne.mpr c11
      have c11b1 : ((ji4) != t274) = true := bne_iff_ne.mpr c11
      obtain rfl := Option.some.inj H
      go_enter Tryd.func27, Tryd.ntmps27
      go_wp2_with (first | (go_at_call 35; (with_reducible refine (quoinref05_begin.calls k _ _ l0 ji4 t274 _ ?side1 ?side2 A10.out).mono ?_); (case side1 => repeat (first | exact HR0.out | (with_reducible refine Kd.C_alloc ?_ _) | (with_reducible refine Kd.C_drewN ?_ _) | (with_reducible refine Kd.C_drew ?_))); (case side2 => exact HC0.out); rintro e w' ⟨rfl, ⟨nd, rfl⟩⟩))
      go_ret
      exact ⟨by first | rfl | (simp [errW_none, errW_some] <;> rfl) | (simp only [← hji3, ← hji4]; first | rfl | (simp [errW_none, errW_some] <;> rfl)) | (simp [*, errW_none, errW_some] <;> rfl), by repeat (first | (with_reducible first | exact HB.out | apply below_alloc | apply pw_below_drewN | apply below_drew1) | exact HB.out)⟩

end Go.Proofs.YtaljihphjppjgaaDoor.X
end
section
-- Written by wip/xprint.py over the kit's print.py: the Lean function of each Go function, and the proof that the Go text comes to it.
namespace Go.Proofs.YtaljihphjppjgaaDoor.X
open Go.RowKit Go.Proofs.YtaljihphjppjgaaDoorW.PrintWords Go.Proofs.YtaljihphjppjgaaDoorW.PrintLast Go.Proofs.YtaljihphjppjgaaDoorW.PrintMore
attribute [local go_sem] max2_int min2_int max_two min_two max_three min_three max_four min_four   -- for this text's walks alone
set_option linter.unusedVariables false
set_option linter.unusedSimpArgs false

/-! ### quoinref05_First: function 25 -/
def quoinref05_First.l0 : Nat → List Int → Int → Int → Int → Option (Int × Int)
  | 0, _, _, _, _ => none
  | k + 1, x0, x6, x8, x10 => if x10 < x8 then (if 0 ≤ x10 then (if x10 < (x0.length : Int) then (if (rd x0 x10) = 32 then (quoinref05_First.l0 k x0 x6 x8 (wrap64 (x10 + 1))) else (if (rd x0 x10) = 9 then (quoinref05_First.l0 k x0 x6 x8 (wrap64 (x10 + 1))) else (some (x10, 0)))) else (none)) else (none)) else (if x6 < x8 then (some (wrap64 (x8 - 1), 0)) else (some (x6, 0)))
def quoinref05_First.f (k : Nat) (l0 : List Int) (a1 : Int) : Option (Int × Int) := (quoinref05_Start.f k l0 a1).bind fun bt262 => (if bt262.2 = 0 then ((quoinref05_End.f k l0 a1).bind fun bt264 => (quoinref05_First.l0 k l0 bt262.1 bt264.1 bt262.1)) else (some (0, bt262.2)))
theorem quoinref05_First.mono_l : ∀ k, (∀ y0 y1 y2 y3, LeO (quoinref05_First.l0 k y0 y1 y2 y3) (quoinref05_First.l0 (k + 1) y0 y1 y2 y3))
  | 0 => fun _ _ _ _ r h => by simp [quoinref05_First.l0] at h
  | k + 1 => by
    have ih0 := quoinref05_First.mono_l k
    · intro y0 y1 y2 y3
      unfold quoinref05_First.l0
      repeat' first
      | (with_reducible exact ih0 _ _ _ _)
      | (with_reducible exact quoinref05_End.mono _ _ _)
      | (with_reducible exact quoinref05_Start.mono _ _ _)
      | (with_reducible exact LeO.refl _)
      | (with_reducible exact LeO.none _)
      | (with_reducible refine LeO.ite ?_ ?_)
      | (with_reducible refine LeO.bind ?_ (fun _ => ?_))
      | exact ih0 _ _ _ _
      | exact quoinref05_End.mono _ _ _
      | exact quoinref05_Start.mono _ _ _
      | exact LeO.none _
      | refine LeO.ite ?_ ?_
      | refine LeO.bind ?_ (fun _ => ?_)
theorem quoinref05_First.mono : ∀ a0 a1 k, LeO (quoinref05_First.f k a0 a1) (quoinref05_First.f (k + 1) a0 a1) := by
  intro a0 a1 k
  have ih0 := quoinref05_First.mono_l k
  unfold quoinref05_First.f
  repeat' first
      | (with_reducible exact ih0 _ _ _ _)
      | (with_reducible exact quoinref05_End.mono _ _ _)
      | (with_reducible exact quoinref05_Start.mono _ _ _)
      | (with_reducible exact LeO.refl _)
      | (with_reducible exact LeO.none _)
      | (with_reducible refine LeO.ite ?_ ?_)
      | (with_reducible refine LeO.bind ?_ (fun _ => ?_))
      | exact ih0 _ _ _ _
      | exact quoinref05_End.mono _ _ _
      | exact quoinref05_Start.mono _ _ _
      | exact LeO.none _
      | refine LeO.ite ?_ ?_
      | refine LeO.bind ?_ (fun _ => ?_)
set_option maxHeartbeats 8000000 in
set_option maxRecDepth 100000 in
theorem quoinref05_First.calls (k : Nat) (A0 : Option Addr) (c0 : Nat) (l0 : List Int) (a1 : Int) (r1 : Int) (r2 : Int) (w : World) (hr0 : Kd.C (Kd.int .u8) w A0 l0.length l0) (hc0 : l0.length ≤ c0) (h : quoinref05_First.f k l0 a1 = some (r1, r2)) :
    Calls Tryd.prog 25 #[.slice A0 l0.length c0, .int .i64 a1] w fun e w' => e = .returned (.tuple #[.int .i64 r1, .int .i64 r2]) ∧ Drawn0 w w' := by
  have HR0 := Aside0.mk hr0
  have HC0 := Aside0.mk hc0
  clear hr0 hc0
  have H : ((quoinref05_Start.f k l0 a1).bind fun bt262 => (if bt262.2 = 0 then ((quoinref05_End.f k l0 a1).bind fun bt264 => (quoinref05_First.l0 k l0 bt262.1 bt264.1 bt262.1)) else (some (0, bt262.2)))) = some (r1, r2) := h
  clear h
  replace H := Option.bind_eq_some_iff.mp H
  obtain ⟨⟨t262, t263⟩, A30, H⟩ := H
  replace H : (if t263 = 0 then ((quoinref05_End.f k l0 a1).bind fun bt264 => (quoinref05_First.l0 k l0 t262 bt264.1 t262)) else (some (0, t263))) = some (r1, r2) := H
  have A3 := Aside0.mk A30
  clear A30
  by_cases c4 : t263 = 0
  · rw [if_pos c4] at H
    have c4b0 : (t263 == 0) = true := beq_iff_eq.mpr c4
    have c4b1 : (t263 != 0) = false := bne_eq_false_iff_eq.mpr c4
    clear c4
    replace H := Option.bind_eq_some_iff.mp H
    obtain ⟨⟨t264, t265⟩, A50, H⟩ := H
    replace H : (quoinref05_First.l0 k l0 t262 t264 t262) = some (r1, r2) := H
    have A5 := Aside0.mk A50
    clear A50
    have H' := Aside0.mk H
    clear H
    go_enter Tryd.func25, Tryd.ntmps25
    go_wp2_with (first | ((with_reducible refine gate_callee (f := 20) rfl ?_); refine goesL_ (some 14) rfl rfl Tryd.func20 (by kernel_rfl) rfl #[.slice A0 l0.length c0, .int .i64 a1] rfl (by (try simp only [List.map_toArray, List.map_cons, List.map_nil]); first | done | rfl | (simp only [List.length_drop, List.length_take]; rfl)) ?_; (with_reducible refine (quoinref05_Start.calls k _ _ l0 a1 t262 t263 _ ?side1 ?side2 A3.out).mono ?_); (case side1 => repeat (first | exact HR0.out | (with_reducible refine Kd.C_alloc ?_ _) | (with_reducible refine Kd.C_drewN ?_ _) | (with_reducible refine Kd.C_drew ?_))); (case side2 => exact HC0.out); rintro e w' ⟨rfl, ⟨nd, rfl⟩⟩; refine ⟨_, rfl, ?_⟩) | ((with_reducible refine gate_callee (f := 21) rfl ?_); refine goesL_ (some 23) rfl rfl Tryd.func21 (by kernel_rfl) rfl #[.slice A0 l0.length c0, .int .i64 a1] rfl (by (try simp only [List.map_toArray, List.map_cons, List.map_nil]); first | done | rfl | (simp only [List.length_drop, List.length_take]; rfl)) ?_; (with_reducible refine (quoinref05_End.calls k _ _ l0 a1 t264 t265 _ ?side1 ?side2 A5.out).mono ?_); (case side1 => repeat (first | exact HR0.out | (with_reducible refine Kd.C_alloc ?_ _) | (with_reducible refine Kd.C_drewN ?_ _) | (with_reducible refine Kd.C_drew ?_))); (case side2 => exact HC0.out); rintro e w' ⟨rfl, ⟨nd, rfl⟩⟩; refine ⟨_, rfl, ?_⟩))
    go_loopg [10] k (fun kq v10 w' => ∃ (x10_1 : Int), v10 = .int .i64 x10_1 ∧ Aside0 (quoinref05_First.l0 kq l0 t262 t264 x10_1 = some (r1, r2)) ∧ Aside0 (kq ≤ k) ∧ Drawn0 w w')
    case atStart => exact ⟨(t262), (by first | rfl | (simp; done) | (simp [*]; done)), H', ⟨Nat.le_refl _⟩, by repeat (first | exact Drawn0.refl _ | apply Drawn0.step)⟩
    case round =>
      clear H'
      try clear c2
      try clear p2
      try clear c4
      try clear c4b0
      try clear c4b1
      obtain ⟨x10_1, rfl, HA, HK1, ⟨m1, rfl⟩⟩ := hrel
      cases gk with
      | zero => exact absurd HA.out (by simp [quoinref05_First.l0])
      | succ k1 =>
        have H := HA.out
        clear HA
        simp only [quoinref05_First.l0] at H
        by_cases c6 : x10_1 < t264
        · rw [if_pos c6] at H
          have c6b0 : decide (x10_1 < t264) = true := decide_eq_true c6
          clear c6
          by_cases c7 : 0 ≤ x10_1
          · rw [if_pos c7] at H
            have c7b0 : decide (0 ≤ x10_1) = true := decide_eq_true c7
            clear c7
            by_cases c8 : x10_1 < (l0.length : Int)
            · rw [if_pos c8] at H
              have c8b0 : decide (x10_1 < (l0.length : Int)) = true := decide_eq_true c8
              clear c8
              by_cases c9 : (rd l0 x10_1) = 32
              · rw [if_pos c9] at H
                have c9b0 : ((rd l0 x10_1) == 32) = true := beq_iff_eq.mpr c9
                have c9b1 : ((rd l0 x10_1) != 32) = false := bne_eq_false_iff_eq.mpr c9
                clear c9
                have H' := Aside0.mk H
                clear H
                have p266 : 0 ≤ (x10_1 : Int) := of_decide_eq_true (by first | (with_reducible assumption) | assumption)
                have q266 : x10_1 < (l0.length : Int) := of_decide_eq_true (by first | (with_reducible assumption) | assumption)
                obtain ⟨ad266, e266, hx266_0⟩ := Kd.at_int HR0.out x10_1 p266 q266
                cases e266
                replace p266 := eq_true p266
                replace q266 := eq_true q266
                go_wp2
                go_roundg k1
                case measure => have := HK1.out; omega
                case rel => exact ⟨(wrap64 (x10_1 + 1)), (by first | rfl | (simp; done) | (simp [*]; done)), H', ⟨by have := HK1.out; omega⟩, by repeat (first | exact Drawn0.refl _ | apply Drawn0.step)⟩
              · rw [if_neg c9] at H
                have c9b0 : ((rd l0 x10_1) == 32) = false := beq_eq_false_iff_ne.mpr c9
                have c9b1 : ((rd l0 x10_1) != 32) = true := bne_iff_ne.mpr c9
                by_cases c10 : (rd l0 x10_1) = 9
                · rw [if_pos c10] at H
                  have c10b0 : ((rd l0 x10_1) == 9) = true := beq_iff_eq.mpr c10
                  have c10b1 : ((rd l0 x10_1) != 9) = false := bne_eq_false_iff_eq.mpr c10
                  clear c10
                  have H' := Aside0.mk H
                  clear H
                  have p266 : 0 ≤ (x10_1 : Int) := of_decide_eq_true (by first | (with_reducible assumption) | assumption)
                  have q266 : x10_1 < (l0.length : Int) := of_decide_eq_true (by first | (with_reducible assumption) | assumption)
                  obtain ⟨ad266, e266, hx266_0⟩ := Kd.at_int HR0.out x10_1 p266 q266
                  cases e266
                  replace p266 := eq_true p266
                  replace q266 := eq_true q266
                  have p267 : 0 ≤ (x10_1 : Int) := of_decide_eq_true (by first | (with_reducible assumption) | assumption)
                  have q267 : x10_1 < (l0.length : Int) := of_decide_eq_true (by first | (with_reducible assumption) | assumption)
                  obtain ⟨ad267, e267, hx267_0⟩ := Kd.at_int HR0.out x10_1 p267 q267
                  obtain rfl : ad266 = ad267 := (by injection e267)
                  replace p267 := eq_true p267
                  replace q267 := eq_true q267
                  go_wp2
                  go_roundg k1
                  case measure => have := HK1.out; omega
                  case rel => exact ⟨(wrap64 (x10_1 + 1)), (by first | rfl | (simp; done) | (simp [*]; done)), H', ⟨by have := HK1.out; omega⟩, by repeat (first | exact Drawn0.refl _ | apply Drawn0.step)⟩
                · rw [if_neg c10] at H
                  have c10b0 : ((rd l0 x10_1) == 9) = false := beq_eq_false_iff_ne.mpr c10
                  have c10b1 : ((rd l0 x10_1) != 9) = true := bne_iff_ne.mpr c10
                  simp only [Option.some.injEq, Prod.mk.injEq] at H
                  obtain ⟨rfl, rfl⟩ := H
                  have p266 : 0 ≤ (x10_1 : Int) := of_decide_eq_true (by first | (with_reducible assumption) | assumption)
                  have q266 : x10_1 < (l0.length : Int) := of_decide_eq_true (by first | (with_reducible assumption) | assumption)
                  obtain ⟨ad266, e266, hx266_0⟩ := Kd.at_int HR0.out x10_1 p266 q266
                  cases e266
                  replace p266 := eq_true p266
                  replace q266 := eq_true q266
                  have p267 : 0 ≤ (x10_1 : Int) := of_decide_eq_true (by first | (with_reducible assumption) | assumption)
                  have q267 : x10_1 < (l0.length : Int) := of_decide_eq_true (by first | (with_reducible assumption) | assumption)
                  obtain ⟨ad267, e267, hx267_0⟩ := Kd.at_int HR0.out x10_1 p267 q267
                  obtain rfl : ad266 = ad267 := (by injection e267)
                  replace p267 := eq_true p267
                  replace q267 := eq_true q267
                  go_wp2
                  go_ret2
                  exact ⟨by first | rfl | (simp; done) | (simp [*]; done), by repeat (first | exact Drawn0.refl _ | apply Drawn0.step)⟩
            · rw [if_neg c8] at H
              exact absurd H (by simp)
          · rw [if_neg c7] at H
            exact absurd H (by simp)
        · rw [if_neg c6] at H
          have c6b0 : decide (x10_1 < t264) = false := decide_eq_false c6
          clear c6
          by_cases c11 : t262 < t264
          · rw [if_pos c11] at H
            have c11b0 : decide (t262 < t264) = true := decide_eq_true c11
            clear c11
            simp only [Option.some.injEq, Prod.mk.injEq] at H
            obtain ⟨rfl, rfl⟩ := H
            go_wp2
            go_ret2
            exact ⟨by first | rfl | (simp; done) | (simp [*]; done), by repeat (first | exact Drawn0.refl _ | apply Drawn0.step)⟩
          · rw [if_neg c11] at H
            have c11b0 : decide (t262 < t264) = false := decide_eq_false c11
            clear c11
            simp only [Option.some.injEq, Prod.mk.injEq] at H
            obtain ⟨rfl, rfl⟩ := H
            go_wp2
            go_ret2
            exact ⟨by first | rfl | (simp; done) | (simp [*]; done), by repeat (first | exact Drawn0.refl _ | apply Drawn0.step)⟩
  · rw [if_neg c4] at H
    have c4b0 : (t263 == 0) = false := beq_eq_false_iff_ne.mpr c4
    have c4b1 : (t263 != 0) = true := bne_iff_ne.mpr c4
    simp only [Option.some.injEq, Prod.mk.injEq] at H
    obtain ⟨rfl, rfl⟩ := H
    go_enter Tryd.func25, Tryd.ntmps25
    go_wp2_with (first | ((with_reducible refine gate_callee (f := 20) rfl ?_); refine goesL_ (some 14) rfl rfl Tryd.func20 (by kernel_rfl) rfl #[.slice A0 l0.length c0, .int .i64 a1] rfl (by (try simp only [List.map_toArray, List.map_cons, List.map_nil]); first | done | rfl | (simp only [List.length_drop, List.length_take]; rfl)) ?_; (with_reducible refine (quoinref05_Start.calls k _ _ l0 a1 t262 t263 _ ?side1 ?side2 A3.out).mono ?_); (case side1 => repeat (first | exact HR0.out | (with_reducible refine Kd.C_alloc ?_ _) | (with_reducible refine Kd.C_drewN ?_ _) | (with_reducible refine Kd.C_drew ?_))); (case side2 => exact HC0.out); rintro e w' ⟨rfl, ⟨nd, rfl⟩⟩; refine ⟨_, rfl, ?_⟩))
    go_ret2
    exact ⟨by first | rfl | (simp; done) | (simp [*]; done), by repeat (first | exact Drawn0.refl _ | apply Drawn0.step)⟩

end Go.Proofs.YtaljihphjppjgaaDoor.X
end
