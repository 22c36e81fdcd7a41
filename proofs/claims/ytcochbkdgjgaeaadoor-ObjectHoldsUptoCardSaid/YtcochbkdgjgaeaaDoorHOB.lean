/-
  Texts of one proof in one file (wip/some.py): X50, X51, X52, XS.
  Conditions: none.
-/
import Derived.Test.YtcochbkdgjgaeaaDoorX0
import Derived.Test.YtcochbkdgjgaeaaDoorX1
import Derived.Test.YtcochbkdgjgaeaaDoorXO
section
-- Written by wip/xprint.py over the kit's print.py: the Lean function of each Go function, and the proof that the Go text comes to it.
namespace Go.Proofs.YtcochbkdgjgaeaaDoor.X
open Go.RowKit Go.Proofs.YtcochbkdgjgaeaaDoorW.PrintWords Go.Proofs.YtcochbkdgjgaeaaDoorW.PrintLast Go.Proofs.YtcochbkdgjgaeaaDoorW.PrintMore
attribute [local go_sem] max2_int min2_int max_two min_two max_three min_three max_four min_four   -- for this text's walks alone
set_option linter.unusedVariables false
set_option linter.unusedSimpArgs false

/-! ### quoinlaw13_place: function 12 -/
def quoinlaw13_place.f (a0 : Int) (a1 : Int) : Option (Int) := if a0 < 0 then (if a1 = 0 then (none) else (some (Int.tmod (wrap64 (-(wrap64 (a0 + 1)))) a1))) else (if a1 = 0 then (none) else (some (Int.tmod a0 a1)))
set_option maxHeartbeats 8000000 in
set_option maxRecDepth 100000 in
theorem quoinlaw13_place.calls (a0 : Int) (a1 : Int) (r : Int) (w : World) (h : quoinlaw13_place.f a0 a1 = some r) :
    Calls Tryd.prog 12 #[.int .i64 a0, .int .i64 a1] w fun e w' => e = .returned (.int .i64 r) ∧ Drawn0 w w' := by
  have H : (if a0 < 0 then (if a1 = 0 then (none) else (some (Int.tmod (wrap64 (-(wrap64 (a0 + 1)))) a1))) else (if a1 = 0 then (none) else (some (Int.tmod a0 a1)))) = some r := h
  clear h
  by_cases c3 : a0 < 0
  · rw [if_pos c3] at H
    have c3b0 : decide (a0 < 0) = true := decide_eq_true c3
    clear c3
    by_cases c4 : a1 = 0
    · rw [if_pos c4] at H
      exact absurd H (by simp)
    · rw [if_neg c4] at H
      have c4b0 : (a1 == 0) = false := beq_eq_false_iff_ne.mpr c4
      have c4b1 : (a1 != 0) = true := bne_iff_ne.mpr c4
      obtain rfl := Option.some.inj H
      go_enter Tryd.func12, Tryd.ntmps12
      go_wp2
      go_ret
      exact ⟨by first | rfl | (simp; done) | (simp [*]; done), by repeat (first | exact Drawn0.refl _ | apply Drawn0.step)⟩
  · rw [if_neg c3] at H
    have c3b0 : decide (a0 < 0) = false := decide_eq_false c3
    clear c3
    by_cases c5 : a1 = 0
    · rw [if_pos c5] at H
      exact absurd H (by simp)
    · rw [if_neg c5] at H
      have c5b0 : (a1 == 0) = false := beq_eq_false_iff_ne.mpr c5
      have c5b1 : (a1 != 0) = true := bne_iff_ne.mpr c5
      obtain rfl := Option.some.inj H
      go_enter Tryd.func12, Tryd.ntmps12
      go_wp2
      go_ret
      exact ⟨by first | rfl | (simp; done) | (simp [*]; done), by repeat (first | exact Drawn0.refl _ | apply Drawn0.step)⟩

end Go.Proofs.YtcochbkdgjgaeaaDoor.X
end
section
-- Written by wip/xprint.py over the kit's print.py: the Lean function of each Go function, and the proof that the Go text comes to it.
namespace Go.Proofs.YtcochbkdgjgaeaaDoor.X
open Go.RowKit Go.Proofs.YtcochbkdgjgaeaaDoorW.PrintWords Go.Proofs.YtcochbkdgjgaeaaDoorW.PrintLast Go.Proofs.YtcochbkdgjgaeaaDoorW.PrintMore
attribute [local go_sem] max2_int min2_int max_two min_two max_three min_three max_four min_four   -- for this text's walks alone
set_option linter.unusedVariables false
set_option linter.unusedSimpArgs false

attribute [local go_sem high] eqA29
/-! ### quoinlaw13_lies: function 13 -/
def quoinlaw13_lies.j0 : Nat → List Int → Int → Bool → Int → Int → Int → Option (Bool)
  | 0, _, _, _, _, _, _ => none
  | k + 1, x0, x3, x30, x451000, x451001, x451002 => if x30 = true then (some false) else (if x3 = 112 then (if x451002 = 3 then (if x451000 = 0 then (if x451001 = 0 then (some true) else (if 0 ≤ (wrap64 (x451001 - 1)) then (if (wrap64 (x451001 - 1)) < (x0.length : Int) then (some ((rd x0 (wrap64 (x451001 - 1))) == 10)) else (none)) else (none))) else (if 0 ≤ (wrap64 (x451000 - 1)) then (if (wrap64 (x451000 - 1)) < (x0.length : Int) then (if (rd x0 (wrap64 (x451000 - 1))) = 10 then (if x451001 = 0 then (some true) else (if 0 ≤ (wrap64 (x451001 - 1)) then (if (wrap64 (x451001 - 1)) < (x0.length : Int) then (some ((rd x0 (wrap64 (x451001 - 1))) == 10)) else (none)) else (none))) else (some false)) else (none)) else (none))) else (some false)) else (some (x451002 == 1)))
def quoinlaw13_lies.f (k : Nat) (l0 : List Int) (a1_0 : Int) (a1_1 : Int) (a1_2 : Int) (a2 : Int) (a3 : Int) : Option (Bool) := if a2 = 0 then (if a1_0 < 0 then (quoinlaw13_lies.j0 k l0 a3 true a1_0 a1_1 a1_2) else (if a1_1 < a1_0 then (quoinlaw13_lies.j0 k l0 a3 true a1_0 a1_1 a1_2) else (quoinlaw13_lies.j0 k l0 a3 (decide (a1_1 > (l0.length : Int))) a1_0 a1_1 a1_2))) else (some (a1_0 == 0 && (a1_1 == 0 && (a1_2 == 0))))
theorem quoinlaw13_lies.mono_l : ∀ k, (∀ y0 y1 y2 y3 y4 y5, LeO (quoinlaw13_lies.j0 k y0 y1 y2 y3 y4 y5) (quoinlaw13_lies.j0 (k + 1) y0 y1 y2 y3 y4 y5))
  | 0 => fun _ _ _ _ _ _ r h => by simp [quoinlaw13_lies.j0] at h
  | k + 1 => by
    have ih0 := quoinlaw13_lies.mono_l k
    · intro y0 y1 y2 y3 y4 y5
      unfold quoinlaw13_lies.j0
      repeat' first
      | (with_reducible exact ih0 _ _ _ _ _ _)
      | (with_reducible exact LeO.refl _)
      | (with_reducible exact LeO.none _)
      | (with_reducible refine LeO.ite ?_ ?_)
      | (with_reducible refine LeO.bind ?_ (fun _ => ?_))
      | exact ih0 _ _ _ _ _ _
      | exact LeO.none _
      | refine LeO.ite ?_ ?_
      | refine LeO.bind ?_ (fun _ => ?_)
theorem quoinlaw13_lies.mono : ∀ a0 a1 a2 a3 a4 a5 k, LeO (quoinlaw13_lies.f k a0 a1 a2 a3 a4 a5) (quoinlaw13_lies.f (k + 1) a0 a1 a2 a3 a4 a5) := by
  intro a0 a1 a2 a3 a4 a5 k
  have ih0 := quoinlaw13_lies.mono_l k
  unfold quoinlaw13_lies.f
  repeat' first
      | (with_reducible exact ih0 _ _ _ _ _ _)
      | (with_reducible exact LeO.refl _)
      | (with_reducible exact LeO.none _)
      | (with_reducible refine LeO.ite ?_ ?_)
      | (with_reducible refine LeO.bind ?_ (fun _ => ?_))
      | exact ih0 _ _ _ _ _ _
      | exact LeO.none _
      | refine LeO.ite ?_ ?_
      | refine LeO.bind ?_ (fun _ => ?_)
set_option maxHeartbeats 8000000 in
set_option maxRecDepth 100000 in
theorem quoinlaw13_lies.calls (k : Nat) (A0 : Option Addr) (c0 : Nat) (l0 : List Int) (a1_0 : Int) (a1_1 : Int) (a1_2 : Int) (a2 : Int) (a3 : Int) (r : Bool) (w : World) (hr0 : Kd.C (Kd.int .u8) w A0 l0.length l0) (hc0 : l0.length ≤ c0) (h : quoinlaw13_lies.f k l0 a1_0 a1_1 a1_2 a2 a3 = some r) :
    Calls Tryd.prog 13 #[.slice A0 l0.length c0, .agg #[.int .i64 a1_0, .int .i64 a1_1, .int .i64 a1_2], .int .i64 a2, .int .i32 a3] w fun e w' => e = .returned (.bool r) ∧ Below w.heap.size w w' := by
  have hu29 := Tryd.underlying29
  have HR0 := Aside0.mk hr0
  have HC0 := Aside0.mk hc0
  clear hr0 hc0
  have HB := Aside0.mk (Below.refl w.heap.size w)
  have H : (if a2 = 0 then (if a1_0 < 0 then (quoinlaw13_lies.j0 k l0 a3 true a1_0 a1_1 a1_2) else (if a1_1 < a1_0 then (quoinlaw13_lies.j0 k l0 a3 true a1_0 a1_1 a1_2) else (quoinlaw13_lies.j0 k l0 a3 (decide (a1_1 > (l0.length : Int))) a1_0 a1_1 a1_2))) else (some (a1_0 == 0 && (a1_1 == 0 && (a1_2 == 0))))) = some r := h
  clear h
  by_cases c5 : a2 = 0
  · rw [if_pos c5] at H
    have c5b0 : (a2 == 0) = true := beq_iff_eq.mpr c5
    have c5b1 : (a2 != 0) = false := bne_eq_false_iff_eq.mpr c5
    clear c5
    have HC6 := Aside0.mk H
    clear H
    go_enter Tryd.func13, Tryd.ntmps13
    go_upto_region 3 with (first | ((with_reducible refine gate_dst (N := 5) rfl ?_); (try (refine gate_guard (by rfl) ?_; dsimp only)); refine box_event ?hg (N := 5) ?hd (cs := #[.int .i64 a1_0, .int .i64 a1_1, .int .i64 a1_2]) (t := 29) ?hr ?_; (case hd => rfl); (case hg => rfl); (case hr => first | (go_simp; done) | (go_simp; rfl)); intro gb450 hg w7 hbox hb; have n0_ := Aside0.mk (below_step (by repeat (first | (with_reducible first | exact HB.out | apply below_alloc | apply pw_below_drewN | apply below_drew1) | exact HB.out)) hb); have n1_ := Aside0.mk (hbox); have n2_ := Aside0.mk ((by rw [hg]; exact (below_size (by repeat (first | (with_reducible first | exact HB.out | apply below_alloc | apply pw_below_drewN | apply below_drew1) | exact HB.out))) : w.heap.size ≤ gb450)); have n3_ := Aside0.mk ((by rw [hg]; exact (below_size (by repeat (first | (with_reducible first | exact HB.out | apply below_alloc | apply pw_below_drewN | apply below_drew1) | exact HB.out))) : w.heap.size ≤ gb450)); clear HB; have HB := n0_; have BK450 := n1_; have GW450 := n2_; have GE450 := n3_; clear n0_ n1_ n2_ n3_; clear hb hbox hg))
    (try simp only [Act.put, List.setIfInBounds_toArray, List.set_cons_zero, List.set_cons_succ])
    go_cut [30] (fun v30 wc => ∃ (kq : Nat) (x30_5 : Bool), v30 = .bool x30_5 ∧ Aside0 (quoinlaw13_lies.j0 kq l0 a3 x30_5 a1_0 a1_1 a1_2 = some r) ∧ Aside0 (kq ≤ k) ∧ Aside0 (wc.heap[gb450]? = some (.cells #[.int .i64 a1_0, .int .i64 a1_1, .int .i64 a1_2] 29 (0, 0))) ∧ Aside0 (Below w.heap.size w wc))
    case first =>
      have H := HC6.out
      clear HC6
      by_cases c8 : a1_0 < 0
      · rw [if_pos c8] at H
        have c8b0 : decide (a1_0 < 0) = true := decide_eq_true c8
        clear c8
        (first | rw [c8b0] | (simp only [i64_w, i32_w]; rw [c8b0]) | skip)
        have H' := Aside0.mk H
        clear H
        have hcz9_0 : w7.cell? ⟨gb450, 0, none⟩ = some (.int .i64 a1_0) := (blk_cell BK450.out 0).trans rfl
        have hcz9_1 : w7.cell? ⟨gb450, 1, none⟩ = some (.int .i64 a1_1) := (blk_cell BK450.out 1).trans rfl
        have hcz9_2 : w7.cell? ⟨gb450, 2, none⟩ = some (.int .i64 a1_2) := (blk_cell BK450.out 2).trans rfl
        have hfz9_0 := blk_frozen BK450.out 0
        have hfz9_1 := blk_frozen BK450.out 1
        have hfz9_2 := blk_frozen BK450.out 2
        go_wp2
        go_meet
        case rel => exact ⟨_, (true), (by first | rfl | (simp; done) | (simp [*]; done)), H', ⟨by first | omega | exact Nat.le_refl _⟩, ⟨by (with_reducible repeat (first | refine blk_drewN ?_ _ | refine blk_drew ?_ | refine blk_alloc ?_ _)); exact BK450.out⟩, ⟨by repeat (first | (with_reducible first | exact HB.out | apply below_alloc | apply pw_below_drewN | apply below_drew1 | refine below_set ?_ GE450.out) | exact HB.out)⟩⟩
      · rw [if_neg c8] at H
        have c8b0 : decide (a1_0 < 0) = false := decide_eq_false c8
        clear c8
        (first | rw [c8b0] | (simp only [i64_w, i32_w]; rw [c8b0]) | skip)
        by_cases c10 : a1_1 < a1_0
        · rw [if_pos c10] at H
          have c10b0 : decide (a1_1 < a1_0) = true := decide_eq_true c10
          clear c10
          have H' := Aside0.mk H
          clear H
          have hcz11_0 : w7.cell? ⟨gb450, 0, none⟩ = some (.int .i64 a1_0) := (blk_cell BK450.out 0).trans rfl
          have hcz11_1 : w7.cell? ⟨gb450, 1, none⟩ = some (.int .i64 a1_1) := (blk_cell BK450.out 1).trans rfl
          have hcz11_2 : w7.cell? ⟨gb450, 2, none⟩ = some (.int .i64 a1_2) := (blk_cell BK450.out 2).trans rfl
          have hfz11_0 := blk_frozen BK450.out 0
          have hfz11_1 := blk_frozen BK450.out 1
          have hfz11_2 := blk_frozen BK450.out 2
          go_wp2
          go_meet
          case rel => exact ⟨_, (true), (by first | rfl | (simp; done) | (simp [*]; done)), H', ⟨by first | omega | exact Nat.le_refl _⟩, ⟨by (with_reducible repeat (first | refine blk_drewN ?_ _ | refine blk_drew ?_ | refine blk_alloc ?_ _)); exact BK450.out⟩, ⟨by repeat (first | (with_reducible first | exact HB.out | apply below_alloc | apply pw_below_drewN | apply below_drew1 | refine below_set ?_ GE450.out) | exact HB.out)⟩⟩
        · rw [if_neg c10] at H
          have c10b0 : decide (a1_1 < a1_0) = false := decide_eq_false c10
          clear c10
          have H' := Aside0.mk H
          clear H
          have hcz12_0 : w7.cell? ⟨gb450, 0, none⟩ = some (.int .i64 a1_0) := (blk_cell BK450.out 0).trans rfl
          have hcz12_1 : w7.cell? ⟨gb450, 1, none⟩ = some (.int .i64 a1_1) := (blk_cell BK450.out 1).trans rfl
          have hcz12_2 : w7.cell? ⟨gb450, 2, none⟩ = some (.int .i64 a1_2) := (blk_cell BK450.out 2).trans rfl
          have hfz12_0 := blk_frozen BK450.out 0
          have hfz12_1 := blk_frozen BK450.out 1
          have hfz12_2 := blk_frozen BK450.out 2
          go_wp2
          go_meet
          case rel => exact ⟨_, (decide (a1_1 > (l0.length : Int))), (by first | rfl | (simp; done) | (simp [*]; done)), H', ⟨by first | omega | exact Nat.le_refl _⟩, ⟨by (with_reducible repeat (first | refine blk_drewN ?_ _ | refine blk_drew ?_ | refine blk_alloc ?_ _)); exact BK450.out⟩, ⟨by repeat (first | (with_reducible first | exact HB.out | apply below_alloc | apply pw_below_drewN | apply below_drew1 | refine below_set ?_ GE450.out) | exact HB.out)⟩⟩
    case rest =>
      clear HC6
      try clear c1
      try clear p2
      try clear c5
      try clear c5b0
      try clear c5b1
      try clear c8
      try clear c8b0
      try clear c10
      try clear c10b0
      try clear hcz11_0
      try clear hcz11_1
      try clear hcz11_2
      try clear hcz12_0
      try clear hcz12_1
      try clear hcz12_2
      try clear hcz9_0
      try clear hcz9_1
      try clear hcz9_2
      try clear hfz11_0
      try clear hfz11_1
      try clear hfz11_2
      try clear hfz12_0
      try clear hfz12_1
      try clear hfz12_2
      try clear hfz9_0
      try clear hfz9_1
      try clear hfz9_2
      obtain ⟨kq, x30_5, rfl, HA, HJ5, BK450, HB⟩ := hcut
      cases kq with
      | zero => exact absurd HA.out (by simp [quoinlaw13_lies.j0])
      | succ kj5 =>
        have H := HA.out
        clear HA
        simp only [quoinlaw13_lies.j0] at H
        by_cases c13 : x30_5 = true
        · subst c13
          have H1 : (some false) = some r := by rw [if_pos rfl] at H; exact H
          clear H
          have H := H1
          clear H1
          obtain rfl := Option.some.inj H
          go_wp2
          go_ret
          exact ⟨by first | rfl | (simp [errW_none, errW_some] <;> rfl) | (simp [*, errW_none, errW_some] <;> rfl), by repeat (first | (with_reducible first | exact HB.out | apply below_alloc | apply pw_below_drewN | apply below_drew1 | refine below_set ?_ GE450.out) | exact HB.out)⟩
        · replace c13 := Bool.eq_false_iff.mpr c13
          subst c13
          have H1 : (if a3 = 112 then (if a1_2 = 3 then (if a1_0 = 0 then (if a1_1 = 0 then (some true) else (if 0 ≤ (wrap64 (a1_1 - 1)) then (if (wrap64 (a1_1 - 1)) < (l0.length : Int) then (some ((rd l0 (wrap64 (a1_1 - 1))) == 10)) else (none)) else (none))) else (if 0 ≤ (wrap64 (a1_0 - 1)) then (if (wrap64 (a1_0 - 1)) < (l0.length : Int) then (if (rd l0 (wrap64 (a1_0 - 1))) = 10 then (if a1_1 = 0 then (some true) else (if 0 ≤ (wrap64 (a1_1 - 1)) then (if (wrap64 (a1_1 - 1)) < (l0.length : Int) then (some ((rd l0 (wrap64 (a1_1 - 1))) == 10)) else (none)) else (none))) else (some false)) else (none)) else (none))) else (some false)) else (some (a1_2 == 1))) = some r := by rw [if_neg (show ¬ (false = true) by decide)] at H; exact H
          clear H
          have H := H1
          clear H1
          by_cases c14 : a3 = 112
          · rw [if_pos c14] at H
            have c14b0 : (a3 == 112) = true := beq_iff_eq.mpr c14
            have c14b1 : (a3 != 112) = false := bne_eq_false_iff_eq.mpr c14
            clear c14
            by_cases c15 : a1_2 = 3
            · rw [if_pos c15] at H
              have c15b0 : (a1_2 == 3) = true := beq_iff_eq.mpr c15
              have c15b1 : (a1_2 != 3) = false := bne_eq_false_iff_eq.mpr c15
              clear c15
              by_cases c16 : a1_0 = 0
              · rw [if_pos c16] at H
                have c16b0 : (a1_0 == 0) = true := beq_iff_eq.mpr c16
                have c16b1 : (a1_0 != 0) = false := bne_eq_false_iff_eq.mpr c16
                clear c16
                by_cases c17 : a1_1 = 0
                · rw [if_pos c17] at H
                  have c17b0 : (a1_1 == 0) = true := beq_iff_eq.mpr c17
                  have c17b1 : (a1_1 != 0) = false := bne_eq_false_iff_eq.mpr c17
                  clear c17
                  obtain rfl := Option.some.inj H
                  have hcz18_0 : wc.cell? ⟨gb450, 0, none⟩ = some (.int .i64 a1_0) := (blk_cell BK450.out 0).trans rfl
                  have hcz18_1 : wc.cell? ⟨gb450, 1, none⟩ = some (.int .i64 a1_1) := (blk_cell BK450.out 1).trans rfl
                  have hcz18_2 : wc.cell? ⟨gb450, 2, none⟩ = some (.int .i64 a1_2) := (blk_cell BK450.out 2).trans rfl
                  have hfz18_0 := blk_frozen BK450.out 0
                  have hfz18_1 := blk_frozen BK450.out 1
                  have hfz18_2 := blk_frozen BK450.out 2
                  go_wp2
                  go_ret
                  exact ⟨by first | rfl | (simp [errW_none, errW_some] <;> rfl) | (simp [*, errW_none, errW_some] <;> rfl), by repeat (first | (with_reducible first | exact HB.out | apply below_alloc | apply pw_below_drewN | apply below_drew1 | refine below_set ?_ GE450.out) | exact HB.out)⟩
                · rw [if_neg c17] at H
                  have c17b0 : (a1_1 == 0) = false := beq_eq_false_iff_ne.mpr c17
                  have c17b1 : (a1_1 != 0) = true := bne_iff_ne.mpr c17
                  obtain ⟨ji19, hji19⟩ : ∃ j_ : Int, (wrap64 (a1_1 - 1)) = j_ := ⟨_, rfl⟩
                  replace H : (if 0 ≤ (ji19) then (if (ji19) < (l0.length : Int) then (some ((rd l0 (ji19)) == 10)) else (none)) else (none)) = some r := by first | (rw [hji19] at H; exact H) | (simp only [hji19] at H ⊢; exact H)
                  have hji19w : (IntKind.i64.wrap (a1_1 - 1)) = ji19 := (i64_w _).trans hji19
                  by_cases c20 : 0 ≤ (ji19)
                  · rw [if_pos c20] at H
                    have c20b0 : decide (0 ≤ (ji19)) = true := decide_eq_true c20
                    clear c20
                    by_cases c21 : (ji19) < (l0.length : Int)
                    · rw [if_pos c21] at H
                      have c21b0 : decide ((ji19) < (l0.length : Int)) = true := decide_eq_true c21
                      clear c21
                      obtain rfl := Option.some.inj H
                      have hcz22_0 : wc.cell? ⟨gb450, 0, none⟩ = some (.int .i64 a1_0) := (blk_cell BK450.out 0).trans rfl
                      have hcz22_1 : wc.cell? ⟨gb450, 1, none⟩ = some (.int .i64 a1_1) := (blk_cell BK450.out 1).trans rfl
                      have hcz22_2 : wc.cell? ⟨gb450, 2, none⟩ = some (.int .i64 a1_2) := (blk_cell BK450.out 2).trans rfl
                      have hfz22_0 := blk_frozen BK450.out 0
                      have hfz22_1 := blk_frozen BK450.out 1
                      have hfz22_2 := blk_frozen BK450.out 2
                      have p451 : 0 ≤ ((ji19) : Int) := of_decide_eq_true (by first | (with_reducible assumption) | assumption)
                      have q451 : (ji19) < (l0.length : Int) := of_decide_eq_true (by first | (with_reducible assumption) | assumption)
                      obtain ⟨ad451, e451, hx451_0⟩ := Kd.at_int HR0.out (ji19) p451 q451
                      cases e451
                      replace hx451_0 := (HB.out.cell (World.block_lt_of_cell? w _ hx451_0)).trans hx451_0
                      replace p451 := eq_true p451
                      replace q451 := eq_true q451
                      go_wp2
                      go_ret
                      exact ⟨by first | rfl | (simp [errW_none, errW_some] <;> rfl) | (simp only [← hji19]; first | rfl | (simp [errW_none, errW_some] <;> rfl)) | (simp [*, errW_none, errW_some] <;> rfl), by repeat (first | (with_reducible first | exact HB.out | apply below_alloc | apply pw_below_drewN | apply below_drew1 | refine below_set ?_ GE450.out) | exact HB.out)⟩
                    · rw [if_neg c21] at H
                      exact absurd H (by simp)
                  · rw [if_neg c20] at H
                    exact absurd H (by simp)
              · rw [if_neg c16] at H
                have c16b0 : (a1_0 == 0) = false := beq_eq_false_iff_ne.mpr c16
                have c16b1 : (a1_0 != 0) = true := bne_iff_ne.mpr c16
                obtain ⟨ji23, hji23⟩ : ∃ j_ : Int, (wrap64 (a1_0 - 1)) = j_ := ⟨_, rfl⟩
                replace H : (if 0 ≤ (ji23) then (if (ji23) < (l0.length : Int) then (if (rd l0 (ji23)) = 10 then (if a1_1 = 0 then (some true) else (if 0 ≤ (wrap64 (a1_1 - 1)) then (if (wrap64 (a1_1 - 1)) < (l0.length : Int) then (some ((rd l0 (wrap64 (a1_1 - 1))) == 10)) else (none)) else (none))) else (some false)) else (none)) else (none)) = some r := by first | (rw [hji23] at H; exact H) | (simp only [hji23] at H ⊢; exact H)
                have hji23w : (IntKind.i64.wrap (a1_0 - 1)) = ji23 := (i64_w _).trans hji23
                by_cases c24 : 0 ≤ (ji23)
                · rw [if_pos c24] at H
                  have c24b0 : decide (0 ≤ (ji23)) = true := decide_eq_true c24
                  clear c24
                  by_cases c25 : (ji23) < (l0.length : Int)
                  · rw [if_pos c25] at H
                    have c25b0 : decide ((ji23) < (l0.length : Int)) = true := decide_eq_true c25
                    clear c25
                    by_cases c26 : (rd l0 (ji23)) = 10
                    · rw [if_pos c26] at H
                      have c26b0 : ((rd l0 (ji23)) == 10) = true := beq_iff_eq.mpr c26
                      have c26b1 : ((rd l0 (ji23)) != 10) = false := bne_eq_false_iff_eq.mpr c26
                      clear c26
                      by_cases c27 : a1_1 = 0
                      · rw [if_pos c27] at H
                        have c27b0 : (a1_1 == 0) = true := beq_iff_eq.mpr c27
                        have c27b1 : (a1_1 != 0) = false := bne_eq_false_iff_eq.mpr c27
                        clear c27
                        obtain rfl := Option.some.inj H
                        have hcz28_0 : wc.cell? ⟨gb450, 0, none⟩ = some (.int .i64 a1_0) := (blk_cell BK450.out 0).trans rfl
                        have hcz28_1 : wc.cell? ⟨gb450, 1, none⟩ = some (.int .i64 a1_1) := (blk_cell BK450.out 1).trans rfl
                        have hcz28_2 : wc.cell? ⟨gb450, 2, none⟩ = some (.int .i64 a1_2) := (blk_cell BK450.out 2).trans rfl
                        have hfz28_0 := blk_frozen BK450.out 0
                        have hfz28_1 := blk_frozen BK450.out 1
                        have hfz28_2 := blk_frozen BK450.out 2
                        have p452 : 0 ≤ ((ji23) : Int) := of_decide_eq_true (by first | (with_reducible assumption) | assumption)
                        have q452 : (ji23) < (l0.length : Int) := of_decide_eq_true (by first | (with_reducible assumption) | assumption)
                        obtain ⟨ad452, e452, hx452_0⟩ := Kd.at_int HR0.out (ji23) p452 q452
                        cases e452
                        replace hx452_0 := (HB.out.cell (World.block_lt_of_cell? w _ hx452_0)).trans hx452_0
                        replace p452 := eq_true p452
                        replace q452 := eq_true q452
                        go_wp2
                        go_ret
                        exact ⟨by first | rfl | (simp [errW_none, errW_some] <;> rfl) | (simp only [← hji23]; first | rfl | (simp [errW_none, errW_some] <;> rfl)) | (simp [*, errW_none, errW_some] <;> rfl), by repeat (first | (with_reducible first | exact HB.out | apply below_alloc | apply pw_below_drewN | apply below_drew1 | refine below_set ?_ GE450.out) | exact HB.out)⟩
                      · rw [if_neg c27] at H
                        have c27b0 : (a1_1 == 0) = false := beq_eq_false_iff_ne.mpr c27
                        have c27b1 : (a1_1 != 0) = true := bne_iff_ne.mpr c27
                        obtain ⟨ji29, hji29⟩ : ∃ j_ : Int, (wrap64 (a1_1 - 1)) = j_ := ⟨_, rfl⟩
                        replace H : (if 0 ≤ (ji29) then (if (ji29) < (l0.length : Int) then (some ((rd l0 (ji29)) == 10)) else (none)) else (none)) = some r := by first | (rw [hji29] at H; exact H) | (simp only [hji29] at H ⊢; exact H)
                        have hji29w : (IntKind.i64.wrap (a1_1 - 1)) = ji29 := (i64_w _).trans hji29
                        by_cases c30 : 0 ≤ (ji29)
                        · rw [if_pos c30] at H
                          have c30b0 : decide (0 ≤ (ji29)) = true := decide_eq_true c30
                          clear c30
                          by_cases c31 : (ji29) < (l0.length : Int)
                          · rw [if_pos c31] at H
                            have c31b0 : decide ((ji29) < (l0.length : Int)) = true := decide_eq_true c31
                            clear c31
                            obtain rfl := Option.some.inj H
                            have hcz32_0 : wc.cell? ⟨gb450, 0, none⟩ = some (.int .i64 a1_0) := (blk_cell BK450.out 0).trans rfl
                            have hcz32_1 : wc.cell? ⟨gb450, 1, none⟩ = some (.int .i64 a1_1) := (blk_cell BK450.out 1).trans rfl
                            have hcz32_2 : wc.cell? ⟨gb450, 2, none⟩ = some (.int .i64 a1_2) := (blk_cell BK450.out 2).trans rfl
                            have hfz32_0 := blk_frozen BK450.out 0
                            have hfz32_1 := blk_frozen BK450.out 1
                            have hfz32_2 := blk_frozen BK450.out 2
                            have p452 : 0 ≤ ((ji23) : Int) := of_decide_eq_true (by first | (with_reducible assumption) | assumption)
                            have q452 : (ji23) < (l0.length : Int) := of_decide_eq_true (by first | (with_reducible assumption) | assumption)
                            obtain ⟨ad452, e452, hx452_0⟩ := Kd.at_int HR0.out (ji23) p452 q452
                            cases e452
                            replace hx452_0 := (HB.out.cell (World.block_lt_of_cell? w _ hx452_0)).trans hx452_0
                            replace p452 := eq_true p452
                            replace q452 := eq_true q452
                            have p453 : 0 ≤ ((ji29) : Int) := of_decide_eq_true (by first | (with_reducible assumption) | assumption)
                            have q453 : (ji29) < (l0.length : Int) := of_decide_eq_true (by first | (with_reducible assumption) | assumption)
                            obtain ⟨ad453, e453, hx453_0⟩ := Kd.at_int HR0.out (ji29) p453 q453
                            obtain rfl : ad452 = ad453 := (by injection e453)
                            replace hx453_0 := (HB.out.cell (World.block_lt_of_cell? w _ hx453_0)).trans hx453_0
                            replace p453 := eq_true p453
                            replace q453 := eq_true q453
                            go_wp2
                            go_ret
                            exact ⟨by first | rfl | (simp [errW_none, errW_some] <;> rfl) | (simp only [← hji23, ← hji29]; first | rfl | (simp [errW_none, errW_some] <;> rfl)) | (simp [*, errW_none, errW_some] <;> rfl), by repeat (first | (with_reducible first | exact HB.out | apply below_alloc | apply pw_below_drewN | apply below_drew1 | refine below_set ?_ GE450.out) | exact HB.out)⟩
                          · rw [if_neg c31] at H
                            exact absurd H (by simp)
                        · rw [if_neg c30] at H
                          exact absurd H (by simp)
                    · rw [if_neg c26] at H
                      have c26b0 : ((rd l0 (ji23)) == 10) = false := beq_eq_false_iff_ne.mpr c26
                      have c26b1 : ((rd l0 (ji23)) != 10) = true := bne_iff_ne.mpr c26
                      obtain rfl := Option.some.inj H
                      have hcz33_0 : wc.cell? ⟨gb450, 0, none⟩ = some (.int .i64 a1_0) := (blk_cell BK450.out 0).trans rfl
                      have hcz33_1 : wc.cell? ⟨gb450, 1, none⟩ = some (.int .i64 a1_1) := (blk_cell BK450.out 1).trans rfl
                      have hcz33_2 : wc.cell? ⟨gb450, 2, none⟩ = some (.int .i64 a1_2) := (blk_cell BK450.out 2).trans rfl
                      have hfz33_0 := blk_frozen BK450.out 0
                      have hfz33_1 := blk_frozen BK450.out 1
                      have hfz33_2 := blk_frozen BK450.out 2
                      have p452 : 0 ≤ ((ji23) : Int) := of_decide_eq_true (by first | (with_reducible assumption) | assumption)
                      have q452 : (ji23) < (l0.length : Int) := of_decide_eq_true (by first | (with_reducible assumption) | assumption)
                      obtain ⟨ad452, e452, hx452_0⟩ := Kd.at_int HR0.out (ji23) p452 q452
                      cases e452
                      replace hx452_0 := (HB.out.cell (World.block_lt_of_cell? w _ hx452_0)).trans hx452_0
                      replace p452 := eq_true p452
                      replace q452 := eq_true q452
                      go_wp2
                      go_ret
                      exact ⟨by first | rfl | (simp [errW_none, errW_some] <;> rfl) | (simp only [← hji23]; first | rfl | (simp [errW_none, errW_some] <;> rfl)) | (simp [*, errW_none, errW_some] <;> rfl), by repeat (first | (with_reducible first | exact HB.out | apply below_alloc | apply pw_below_drewN | apply below_drew1 | refine below_set ?_ GE450.out) | exact HB.out)⟩
                  · rw [if_neg c25] at H
                    exact absurd H (by simp)
                · rw [if_neg c24] at H
                  exact absurd H (by simp)
            · rw [if_neg c15] at H
              have c15b0 : (a1_2 == 3) = false := beq_eq_false_iff_ne.mpr c15
              have c15b1 : (a1_2 != 3) = true := bne_iff_ne.mpr c15
              obtain rfl := Option.some.inj H
              have hcz34_0 : wc.cell? ⟨gb450, 0, none⟩ = some (.int .i64 a1_0) := (blk_cell BK450.out 0).trans rfl
              have hcz34_1 : wc.cell? ⟨gb450, 1, none⟩ = some (.int .i64 a1_1) := (blk_cell BK450.out 1).trans rfl
              have hcz34_2 : wc.cell? ⟨gb450, 2, none⟩ = some (.int .i64 a1_2) := (blk_cell BK450.out 2).trans rfl
              have hfz34_0 := blk_frozen BK450.out 0
              have hfz34_1 := blk_frozen BK450.out 1
              have hfz34_2 := blk_frozen BK450.out 2
              go_wp2
              go_ret
              exact ⟨by first | rfl | (simp [errW_none, errW_some] <;> rfl) | (simp [*, errW_none, errW_some] <;> rfl), by repeat (first | (with_reducible first | exact HB.out | apply below_alloc | apply pw_below_drewN | apply below_drew1 | refine below_set ?_ GE450.out) | exact HB.out)⟩
          · rw [if_neg c14] at H
            have c14b0 : (a3 == 112) = false := beq_eq_false_iff_ne.mpr c14
            have c14b1 : (a3 != 112) = true := bne_iff_ne.mpr c14
            obtain rfl := Option.some.inj H
            have hcz35_0 : wc.cell? ⟨gb450, 0, none⟩ = some (.int .i64 a1_0) := (blk_cell BK450.out 0).trans rfl
            have hcz35_1 : wc.cell? ⟨gb450, 1, none⟩ = some (.int .i64 a1_1) := (blk_cell BK450.out 1).trans rfl
            have hcz35_2 : wc.cell? ⟨gb450, 2, none⟩ = some (.int .i64 a1_2) := (blk_cell BK450.out 2).trans rfl
            have hfz35_0 := blk_frozen BK450.out 0
            have hfz35_1 := blk_frozen BK450.out 1
            have hfz35_2 := blk_frozen BK450.out 2
            go_wp2
            go_ret
            exact ⟨by first | rfl | (simp [errW_none, errW_some] <;> rfl) | (simp [*, errW_none, errW_some] <;> rfl), by repeat (first | (with_reducible first | exact HB.out | apply below_alloc | apply pw_below_drewN | apply below_drew1 | refine below_set ?_ GE450.out) | exact HB.out)⟩
  · rw [if_neg c5] at H
    have c5b0 : (a2 == 0) = false := beq_eq_false_iff_ne.mpr c5
    have c5b1 : (a2 != 0) = true := bne_iff_ne.mpr c5
    obtain rfl := Option.some.inj H
    go_enter Tryd.func13, Tryd.ntmps13
    go_wp2_with (first | ((with_reducible refine gate_dst (N := 5) rfl ?_); (try (refine gate_guard (by rfl) ?_; dsimp only)); refine box_event ?hg (N := 5) ?hd (cs := #[.int .i64 a1_0, .int .i64 a1_1, .int .i64 a1_2]) (t := 29) ?hr ?_; (case hd => rfl); (case hg => rfl); (case hr => first | (go_simp; done) | (go_simp; rfl)); intro gb450 hg w36 hbox hb; have n0_ := Aside0.mk (below_step (by repeat (first | (with_reducible first | exact HB.out | apply below_alloc | apply pw_below_drewN | apply below_drew1) | exact HB.out)) hb); have n1_ := Aside0.mk (hbox); have n2_ := Aside0.mk ((by rw [hg]; exact (below_size (by repeat (first | (with_reducible first | exact HB.out | apply below_alloc | apply pw_below_drewN | apply below_drew1) | exact HB.out))) : w.heap.size ≤ gb450)); have n3_ := Aside0.mk ((by rw [hg]; exact (below_size (by repeat (first | (with_reducible first | exact HB.out | apply below_alloc | apply pw_below_drewN | apply below_drew1) | exact HB.out))) : w.heap.size ≤ gb450)); clear HB; have HB := n0_; have BK450 := n1_; have GW450 := n2_; have GE450 := n3_; clear n0_ n1_ n2_ n3_; clear hb hbox hg; have hcz37_0 : w36.cell? ⟨gb450, 0, none⟩ = some (.int .i64 a1_0) := (blk_cell BK450.out 0).trans rfl; have hcz37_1 : w36.cell? ⟨gb450, 1, none⟩ = some (.int .i64 a1_1) := (blk_cell BK450.out 1).trans rfl; have hcz37_2 : w36.cell? ⟨gb450, 2, none⟩ = some (.int .i64 a1_2) := (blk_cell BK450.out 2).trans rfl; have hfz37_0 := blk_frozen BK450.out 0; have hfz37_1 := blk_frozen BK450.out 1; have hfz37_2 := blk_frozen BK450.out 2))
    go_ret
    exact ⟨by first | rfl | (simp [errW_none, errW_some] <;> rfl) | (simp [*, errW_none, errW_some] <;> rfl), by repeat (first | (with_reducible first | exact HB.out | apply below_alloc | apply pw_below_drewN | apply below_drew1 | refine below_set ?_ GE450.out) | exact HB.out)⟩

end Go.Proofs.YtcochbkdgjgaeaaDoor.X
end
section
-- Written by wip/xprint.py over the kit's print.py: the Lean function of each Go function, and the proof that the Go text comes to it.
namespace Go.Proofs.YtcochbkdgjgaeaaDoor.X
open Go.RowKit Go.Proofs.YtcochbkdgjgaeaaDoorW.PrintWords Go.Proofs.YtcochbkdgjgaeaaDoorW.PrintLast Go.Proofs.YtcochbkdgjgaeaaDoorW.PrintMore
attribute [local go_sem] max2_int min2_int max_two min_two max_three min_three max_four min_four   -- for this text's walks alone
set_option linter.unusedVariables false
set_option linter.unusedSimpArgs false

/-! ### quoinlaw13_about: function 14 -/
mutual
def quoinlaw13_about.j0 : Nat → Int → Int → Int → Int → Bool → Option (Bool)
  | 0, _, _, _, _, _ => none
  | k + 1, x0, x1, x2, x7, x8 => if x8 = true then (if x0 = x2 then (some (x1 == x2)) else (some false)) else (if x7 = 40 then (quoinlaw13_about.j1 k x0 x1 x7 (x7 == 40)) else (if x7 = 41 then (quoinlaw13_about.j1 k x0 x1 x7 (x7 == 41)) else (quoinlaw13_about.j1 k x0 x1 x7 (x7 == 98))))
def quoinlaw13_about.j1 : Nat → Int → Int → Int → Bool → Option (Bool)
  | 0, _, _, _, _ => none
  | k + 1, x0, x1, x7, x20 => if x20 = true then (if x0 = 40 then (some (x1 == 41)) else (some false)) else (if x7 = 91 then (if x0 = 91 then (some (x1 == 93)) else (some false)) else (if x7 = 93 then (if x0 = 91 then (some (x1 == 93)) else (some false)) else (if x0 = 123 then (some (x1 == 125)) else (some false))))
end
def quoinlaw13_about.f (k : Nat) (a0 : Int) (a1 : Int) (a2 : Int) : Option (Bool) := if a2 = 34 then (quoinlaw13_about.j0 k a0 a1 a2 a2 (a2 == 34)) else (if a2 = 39 then (quoinlaw13_about.j0 k a0 a1 a2 a2 (a2 == 39)) else (quoinlaw13_about.j0 k a0 a1 a2 a2 (a2 == 96)))
theorem quoinlaw13_about.mono_l : ∀ k, (∀ y0 y1 y2 y3 y4, LeO (quoinlaw13_about.j0 k y0 y1 y2 y3 y4) (quoinlaw13_about.j0 (k + 1) y0 y1 y2 y3 y4)) ∧ (∀ y0 y1 y2 y3, LeO (quoinlaw13_about.j1 k y0 y1 y2 y3) (quoinlaw13_about.j1 (k + 1) y0 y1 y2 y3))
  | 0 => ⟨fun _ _ _ _ _ r h => by simp [quoinlaw13_about.j0] at h, fun _ _ _ _ r h => by simp [quoinlaw13_about.j1] at h⟩
  | k + 1 => by
    obtain ⟨ih0, ih1⟩ := quoinlaw13_about.mono_l k
    refine ⟨?_, ?_⟩
    · intro y0 y1 y2 y3 y4
      unfold quoinlaw13_about.j0
      repeat' first
      | (with_reducible exact ih0 _ _ _ _ _)
      | (with_reducible exact ih1 _ _ _ _)
      | (with_reducible exact LeO.refl _)
      | (with_reducible exact LeO.none _)
      | (with_reducible refine LeO.ite ?_ ?_)
      | (with_reducible refine LeO.bind ?_ (fun _ => ?_))
      | exact ih0 _ _ _ _ _
      | exact ih1 _ _ _ _
      | exact LeO.none _
      | refine LeO.ite ?_ ?_
      | refine LeO.bind ?_ (fun _ => ?_)
    · intro y0 y1 y2 y3
      unfold quoinlaw13_about.j1
      repeat' first
      | (with_reducible exact ih0 _ _ _ _ _)
      | (with_reducible exact ih1 _ _ _ _)
      | (with_reducible exact LeO.refl _)
      | (with_reducible exact LeO.none _)
      | (with_reducible refine LeO.ite ?_ ?_)
      | (with_reducible refine LeO.bind ?_ (fun _ => ?_))
      | exact ih0 _ _ _ _ _
      | exact ih1 _ _ _ _
      | exact LeO.none _
      | refine LeO.ite ?_ ?_
      | refine LeO.bind ?_ (fun _ => ?_)
theorem quoinlaw13_about.mono : ∀ a0 a1 a2 k, LeO (quoinlaw13_about.f k a0 a1 a2) (quoinlaw13_about.f (k + 1) a0 a1 a2) := by
  intro a0 a1 a2 k
  obtain ⟨ih0, ih1⟩ := quoinlaw13_about.mono_l k
  unfold quoinlaw13_about.f
  repeat' first
      | (with_reducible exact ih0 _ _ _ _ _)
      | (with_reducible exact ih1 _ _ _ _)
      | (with_reducible exact LeO.refl _)
      | (with_reducible exact LeO.none _)
      | (with_reducible refine LeO.ite ?_ ?_)
      | (with_reducible refine LeO.bind ?_ (fun _ => ?_))
      | exact ih0 _ _ _ _ _
      | exact ih1 _ _ _ _
      | exact LeO.none _
      | refine LeO.ite ?_ ?_
      | refine LeO.bind ?_ (fun _ => ?_)
set_option maxHeartbeats 8000000 in
set_option maxRecDepth 100000 in
theorem quoinlaw13_about.calls (k : Nat) (a0 : Int) (a1 : Int) (a2 : Int) (r : Bool) (w : World) (h : quoinlaw13_about.f k a0 a1 a2 = some r) :
    Calls Tryd.prog 14 #[.int .u8 a0, .int .u8 a1, .int .u8 a2] w fun e w' => e = .returned (.bool r) ∧ Drawn0 w w' := by
  have H : (if a2 = 34 then (quoinlaw13_about.j0 k a0 a1 a2 a2 (a2 == 34)) else (if a2 = 39 then (quoinlaw13_about.j0 k a0 a1 a2 a2 (a2 == 39)) else (quoinlaw13_about.j0 k a0 a1 a2 a2 (a2 == 96)))) = some r := h
  clear h
  have HC4 := Aside0.mk H
  clear H
  go_enter Tryd.func14, Tryd.ntmps14
  go_upto_if 8 with (fail)
  go_cut [8] (fun v8 wc => ∃ (kq : Nat) (x8_3 : Bool), v8 = .bool x8_3 ∧ Aside0 (quoinlaw13_about.j0 kq a0 a1 a2 a2 x8_3 = some r) ∧ Aside0 (kq ≤ k) ∧ Drawn0 w wc)
  case first =>
    have H := HC4.out
    clear HC4
    by_cases c5 : a2 = 34
    · rw [if_pos c5] at H
      have c5b0 : (a2 == 34) = true := beq_iff_eq.mpr c5
      have c5b1 : (a2 != 34) = false := bne_eq_false_iff_eq.mpr c5
      clear c5
      (first | rw [c5b0] | (simp only [i64_w, i32_w]; rw [c5b0]) | skip)
      have H' := Aside0.mk H
      clear H
      go_wp2
      go_meet
      case rel => exact ⟨_, ((a2 == 34)), (by first | rfl | (simp; done) | (simp [*]; done)), H', ⟨by first | omega | exact Nat.le_refl _⟩, by repeat (first | exact Drawn0.refl _ | apply Drawn0.step)⟩
    · rw [if_neg c5] at H
      have c5b0 : (a2 == 34) = false := beq_eq_false_iff_ne.mpr c5
      have c5b1 : (a2 != 34) = true := bne_iff_ne.mpr c5
      (first | rw [c5b0] | (simp only [i64_w, i32_w]; rw [c5b0]) | skip)
      by_cases c6 : a2 = 39
      · rw [if_pos c6] at H
        have c6b0 : (a2 == 39) = true := beq_iff_eq.mpr c6
        have c6b1 : (a2 != 39) = false := bne_eq_false_iff_eq.mpr c6
        clear c6
        have H' := Aside0.mk H
        clear H
        go_wp2
        go_meet
        case rel => exact ⟨_, ((a2 == 39)), (by first | rfl | (simp; done) | (simp [*]; done)), H', ⟨by first | omega | exact Nat.le_refl _⟩, by repeat (first | exact Drawn0.refl _ | apply Drawn0.step)⟩
      · rw [if_neg c6] at H
        have c6b0 : (a2 == 39) = false := beq_eq_false_iff_ne.mpr c6
        have c6b1 : (a2 != 39) = true := bne_iff_ne.mpr c6
        have H' := Aside0.mk H
        clear H
        go_wp2
        go_meet
        case rel => exact ⟨_, ((a2 == 96)), (by first | rfl | (simp; done) | (simp [*]; done)), H', ⟨by first | omega | exact Nat.le_refl _⟩, by repeat (first | exact Drawn0.refl _ | apply Drawn0.step)⟩
  case rest =>
    clear HC4
    try clear c1
    try clear p2
    try clear c5
    try clear c5b0
    try clear c5b1
    try clear c6
    try clear c6b0
    try clear c6b1
    obtain ⟨kq, x8_3, rfl, HA, HJ3, ⟨mc3, rfl⟩⟩ := hcut
    cases kq with
    | zero => exact absurd HA.out (by simp [quoinlaw13_about.j0])
    | succ kj3 =>
      have H := HA.out
      clear HA
      simp only [quoinlaw13_about.j0] at H
      by_cases c7 : x8_3 = true
      · subst c7
        have H1 : (if a0 = a2 then (some (a1 == a2)) else (some false)) = some r := by rw [if_pos rfl] at H; exact H
        clear H
        have H := H1
        clear H1
        by_cases c8 : a0 = a2
        · rw [if_pos c8] at H
          have c8b0 : (a0 == a2) = true := beq_iff_eq.mpr c8
          have c8b1 : (a0 != a2) = false := bne_eq_false_iff_eq.mpr c8
          clear c8
          obtain rfl := Option.some.inj H
          go_wp2
          go_ret
          exact ⟨by first | rfl | (simp; done) | (simp [*]; done), by repeat (first | exact Drawn0.refl _ | apply Drawn0.step)⟩
        · rw [if_neg c8] at H
          have c8b0 : (a0 == a2) = false := beq_eq_false_iff_ne.mpr c8
          have c8b1 : (a0 != a2) = true := bne_iff_ne.mpr c8
          obtain rfl := Option.some.inj H
          go_wp2
          go_ret
          exact ⟨by first | rfl | (simp; done) | (simp [*]; done), by repeat (first | exact Drawn0.refl _ | apply Drawn0.step)⟩
      · replace c7 := Bool.eq_false_iff.mpr c7
        subst c7
        have H1 : (if a2 = 40 then (quoinlaw13_about.j1 kj3 a0 a1 a2 (a2 == 40)) else (if a2 = 41 then (quoinlaw13_about.j1 kj3 a0 a1 a2 (a2 == 41)) else (quoinlaw13_about.j1 kj3 a0 a1 a2 (a2 == 98)))) = some r := by rw [if_neg (show ¬ (false = true) by decide)] at H; exact H
        clear H
        have H := H1
        clear H1
        have HC9 := Aside0.mk H
        clear H
        go_upto_if 20 with (fail)
        go_cut [20] (fun v20 wc => ∃ (kq : Nat) (x20_8 : Bool), v20 = .bool x20_8 ∧ Aside0 (quoinlaw13_about.j1 kq a0 a1 a2 x20_8 = some r) ∧ Aside0 (kq ≤ kj3) ∧ Drawn0 w wc)
        case first =>
          have H := HC9.out
          clear HC9
          by_cases c10 : a2 = 40
          · rw [if_pos c10] at H
            have c10b0 : (a2 == 40) = true := beq_iff_eq.mpr c10
            have c10b1 : (a2 != 40) = false := bne_eq_false_iff_eq.mpr c10
            clear c10
            (first | rw [c10b0] | (simp only [i64_w, i32_w]; rw [c10b0]) | skip)
            have H' := Aside0.mk H
            clear H
            go_wp2
            go_meet
            case rel => exact ⟨_, ((a2 == 40)), (by first | rfl | (simp; done) | (simp [*]; done)), H', ⟨by have := HJ3.out; first | omega | exact Nat.le_refl _⟩, by repeat (first | exact Drawn0.refl _ | apply Drawn0.step)⟩
          · rw [if_neg c10] at H
            have c10b0 : (a2 == 40) = false := beq_eq_false_iff_ne.mpr c10
            have c10b1 : (a2 != 40) = true := bne_iff_ne.mpr c10
            (first | rw [c10b0] | (simp only [i64_w, i32_w]; rw [c10b0]) | skip)
            by_cases c11 : a2 = 41
            · rw [if_pos c11] at H
              have c11b0 : (a2 == 41) = true := beq_iff_eq.mpr c11
              have c11b1 : (a2 != 41) = false := bne_eq_false_iff_eq.mpr c11
              clear c11
              have H' := Aside0.mk H
              clear H
              go_wp2
              go_meet
              case rel => exact ⟨_, ((a2 == 41)), (by first | rfl | (simp; done) | (simp [*]; done)), H', ⟨by have := HJ3.out; first | omega | exact Nat.le_refl _⟩, by repeat (first | exact Drawn0.refl _ | apply Drawn0.step)⟩
            · rw [if_neg c11] at H
              have c11b0 : (a2 == 41) = false := beq_eq_false_iff_ne.mpr c11
              have c11b1 : (a2 != 41) = true := bne_iff_ne.mpr c11
              have H' := Aside0.mk H
              clear H
              go_wp2
              go_meet
              case rel => exact ⟨_, ((a2 == 98)), (by first | rfl | (simp; done) | (simp [*]; done)), H', ⟨by have := HJ3.out; first | omega | exact Nat.le_refl _⟩, by repeat (first | exact Drawn0.refl _ | apply Drawn0.step)⟩
        case rest =>
          clear HC9
          try clear c1
          try clear p2
          try clear c3
          try clear c5
          try clear c5b0
          try clear c5b1
          try clear c6
          try clear c6b0
          try clear c6b1
          try clear c7
          try clear c8
          try clear c8b0
          try clear c8b1
          try clear c10
          try clear c10b0
          try clear c10b1
          try clear c11
          try clear c11b0
          try clear c11b1
          try clear p2
          obtain ⟨kq, x20_8, rfl, HA, HJ8, ⟨mc8, rfl⟩⟩ := hcut
          cases kq with
          | zero => exact absurd HA.out (by simp [quoinlaw13_about.j1])
          | succ kj8 =>
            have H := HA.out
            clear HA
            simp only [quoinlaw13_about.j1] at H
            by_cases c12 : x20_8 = true
            · subst c12
              have H1 : (if a0 = 40 then (some (a1 == 41)) else (some false)) = some r := by rw [if_pos rfl] at H; exact H
              clear H
              have H := H1
              clear H1
              by_cases c13 : a0 = 40
              · rw [if_pos c13] at H
                have c13b0 : (a0 == 40) = true := beq_iff_eq.mpr c13
                have c13b1 : (a0 != 40) = false := bne_eq_false_iff_eq.mpr c13
                clear c13
                obtain rfl := Option.some.inj H
                go_wp2
                go_ret
                exact ⟨by first | rfl | (simp; done) | (simp [*]; done), by repeat (first | exact Drawn0.refl _ | apply Drawn0.step)⟩
              · rw [if_neg c13] at H
                have c13b0 : (a0 == 40) = false := beq_eq_false_iff_ne.mpr c13
                have c13b1 : (a0 != 40) = true := bne_iff_ne.mpr c13
                obtain rfl := Option.some.inj H
                go_wp2
                go_ret
                exact ⟨by first | rfl | (simp; done) | (simp [*]; done), by repeat (first | exact Drawn0.refl _ | apply Drawn0.step)⟩
            · replace c12 := Bool.eq_false_iff.mpr c12
              subst c12
              have H1 : (if a2 = 91 then (if a0 = 91 then (some (a1 == 93)) else (some false)) else (if a2 = 93 then (if a0 = 91 then (some (a1 == 93)) else (some false)) else (if a0 = 123 then (some (a1 == 125)) else (some false)))) = some r := by rw [if_neg (show ¬ (false = true) by decide)] at H; exact H
              clear H
              have H := H1
              clear H1
              by_cases c14 : a2 = 91
              · rw [if_pos c14] at H
                have c14b0 : (a2 == 91) = true := beq_iff_eq.mpr c14
                have c14b1 : (a2 != 91) = false := bne_eq_false_iff_eq.mpr c14
                clear c14
                by_cases c15 : a0 = 91
                · rw [if_pos c15] at H
                  have c15b0 : (a0 == 91) = true := beq_iff_eq.mpr c15
                  have c15b1 : (a0 != 91) = false := bne_eq_false_iff_eq.mpr c15
                  clear c15
                  obtain rfl := Option.some.inj H
                  go_wp2
                  go_ret
                  exact ⟨by first | rfl | (simp; done) | (simp [*]; done), by repeat (first | exact Drawn0.refl _ | apply Drawn0.step)⟩
                · rw [if_neg c15] at H
                  have c15b0 : (a0 == 91) = false := beq_eq_false_iff_ne.mpr c15
                  have c15b1 : (a0 != 91) = true := bne_iff_ne.mpr c15
                  obtain rfl := Option.some.inj H
                  go_wp2
                  go_ret
                  exact ⟨by first | rfl | (simp; done) | (simp [*]; done), by repeat (first | exact Drawn0.refl _ | apply Drawn0.step)⟩
              · rw [if_neg c14] at H
                have c14b0 : (a2 == 91) = false := beq_eq_false_iff_ne.mpr c14
                have c14b1 : (a2 != 91) = true := bne_iff_ne.mpr c14
                by_cases c16 : a2 = 93
                · rw [if_pos c16] at H
                  have c16b0 : (a2 == 93) = true := beq_iff_eq.mpr c16
                  have c16b1 : (a2 != 93) = false := bne_eq_false_iff_eq.mpr c16
                  clear c16
                  by_cases c17 : a0 = 91
                  · rw [if_pos c17] at H
                    have c17b0 : (a0 == 91) = true := beq_iff_eq.mpr c17
                    have c17b1 : (a0 != 91) = false := bne_eq_false_iff_eq.mpr c17
                    clear c17
                    obtain rfl := Option.some.inj H
                    go_wp2
                    go_ret
                    exact ⟨by first | rfl | (simp; done) | (simp [*]; done), by repeat (first | exact Drawn0.refl _ | apply Drawn0.step)⟩
                  · rw [if_neg c17] at H
                    have c17b0 : (a0 == 91) = false := beq_eq_false_iff_ne.mpr c17
                    have c17b1 : (a0 != 91) = true := bne_iff_ne.mpr c17
                    obtain rfl := Option.some.inj H
                    go_wp2
                    go_ret
                    exact ⟨by first | rfl | (simp; done) | (simp [*]; done), by repeat (first | exact Drawn0.refl _ | apply Drawn0.step)⟩
                · rw [if_neg c16] at H
                  have c16b0 : (a2 == 93) = false := beq_eq_false_iff_ne.mpr c16
                  have c16b1 : (a2 != 93) = true := bne_iff_ne.mpr c16
                  by_cases c18 : a0 = 123
                  · rw [if_pos c18] at H
                    have c18b0 : (a0 == 123) = true := beq_iff_eq.mpr c18
                    have c18b1 : (a0 != 123) = false := bne_eq_false_iff_eq.mpr c18
                    clear c18
                    obtain rfl := Option.some.inj H
                    go_wp2
                    go_ret
                    exact ⟨by first | rfl | (simp; done) | (simp [*]; done), by repeat (first | exact Drawn0.refl _ | apply Drawn0.step)⟩
                  · rw [if_neg c18] at H
                    have c18b0 : (a0 == 123) = false := beq_eq_false_iff_ne.mpr c18
                    have c18b1 : (a0 != 123) = true := bne_iff_ne.mpr c18
                    obtain rfl := Option.some.inj H
                    go_wp2
                    go_ret
                    exact ⟨by first | rfl | (simp; done) | (simp [*]; done), by repeat (first | exact Drawn0.refl _ | apply Drawn0.step)⟩

end Go.Proofs.YtcochbkdgjgaeaaDoor.X
end
section
namespace Go.Proofs.YtcochbkdgjgaeaaDoor.XO
open Go.RowKit Go.Proofs.YtcochbkdgjgaeaaDoorW.PrintWords Go.Proofs.YtcochbkdgjgaeaaDoor.X
def okS27 (x : S27) : Prop := okI64 x.f0 ∧ okI64 x.f1 ∧ okStr x.f2
def szS27 (x : S27) : Nat := (szOne x.f0 + (szOne x.f1 + szStr x.f2)) + 1
theorem opens27 : Opens Tryd.prog 27 k27 okS27 szS27 := by
  have h := opens_iso (f := fun x : S27 => (x.f0, x.f1, x.f2)) (fun a => ⟨a.1, a.2.1, a.2.2⟩) (fun _ => rfl) (opens_struct Tryd.underlying27 (by kernel_rfl) (of_cons rfl (by kernel_rfl) (opens_i64 Tryd.underlying3) (of_cons rfl (by kernel_rfl) (opens_i64 Tryd.underlying3) (of_last rfl (by kernel_rfl) (opens_str Tryd.underlying9)))))
  exact h
end Go.Proofs.YtcochbkdgjgaeaaDoor.XO
end
