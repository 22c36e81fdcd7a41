-- Written by wip/xprint.py over the kit's print.py: the Lean function of each Go function, and the proof that the Go text comes to it.
import Derived.Test.YtlcdnpecoaamcaaDoorX0
import Derived.Test.YtlcdnpecoaamcaaDoorX5
namespace Go.Proofs.YtlcdnpecoaamcaaDoor.X
open Go.RowKit Go.Proofs.YtlcdnpecoaamcaaDoorW.PrintWords Go.Proofs.YtlcdnpecoaamcaaDoorW.PrintLast Go.Proofs.YtlcdnpecoaamcaaDoorW.PrintMore
attribute [local go_sem] max2_int min2_int max_two min_two max_three min_three max_four min_four   -- for this text's walks alone
set_option linter.unusedVariables false
set_option linter.unusedSimpArgs false

/-! ### extent_Take: function 7 -/
mutual
def extent_Take.j0 : Nat → List Int → Bool → Int → Int → Bool → Bool → Option (Bool × Bool × List Int × Int)
  | 0, _, _, _, _, _, _ => none
  | k + 1, x0, x24, x111000, x111001, x111002, x111003 => if x24 = true then (some (false, false, ([] : List Int), 2)) else (if x111002 = true then (if 0 ≤ x111000 then (if x111000 ≤ x111001 then (if x111001 ≤ (x0.length : Int) then (if x111003 = true then (if x111000 = (x0.length : Int) then (extent_Take.j1 k x0 true x111000 x111001 x111002 x111003) else (if x111000 < (x0.length : Int) then (extent_Take.j1 k x0 ((rd x0 x111000) != 10) x111000 x111001 x111002 x111003) else (none))) else ((slices_Clone_byte_byte.f ((x0.take (x111001 : Int).toNat).drop (x111000 : Int).toNat)).bind fun t132 => (if (t132.length : Int) = 0 then (if t132.length < 140737488355328 then (some (true, true, (t132 ++ [10]), 0)) else (none)) else (if 0 ≤ (wrap64 ((t132.length : Int) - 1)) then (if (wrap64 ((t132.length : Int) - 1)) < (t132.length : Int) then (if (rd t132 (wrap64 ((t132.length : Int) - 1))) = 10 then (some (true, true, t132, 0)) else (if t132.length < 140737488355328 then (some (true, true, (t132 ++ [10]), 0)) else (none))) else (none)) else (none))))) else (none)) else (none)) else (none)) else (if 0 ≤ x111000 then (if x111000 ≤ x111001 then (if x111001 ≤ (x0.length : Int) then ((slices_Clone_byte_byte.f ((x0.take (x111001 : Int).toNat).drop (x111000 : Int).toNat)).bind fun t113 => (some (true, false, t113, 0))) else (none)) else (none)) else (none)))
def extent_Take.j1 : Nat → List Int → Bool → Int → Int → Bool → Bool → Option (Bool × Bool × List Int × Int)
  | 0, _, _, _, _, _, _ => none
  | k + 1, x0, x57, x111000, x111001, x111002, x111003 => if x57 = true then (some (false, false, ([] : List Int), 2)) else (if 0 ≤ (wrap64 (x111000 + 1)) then (if (wrap64 (x111000 + 1)) ≤ (mx (wrap64 (x111000 + 1)) x111001) then (if (mx (wrap64 (x111000 + 1)) x111001) ≤ (x0.length : Int) then ((slices_Clone_byte_byte.f ((x0.take ((mx (wrap64 (x111000 + 1)) x111001) : Int).toNat).drop ((wrap64 (x111000 + 1)) : Int).toNat)).bind fun t119 => (if x111003 = true then (if t119.length < 140737488355328 then (some (true, true, (t119 ++ [10]), 0)) else (none)) else (if (t119.length : Int) = 0 then (if t119.length < 140737488355328 then (some (true, true, (t119 ++ [10]), 0)) else (none)) else (if 0 ≤ (wrap64 ((t119.length : Int) - 1)) then (if (wrap64 ((t119.length : Int) - 1)) < (t119.length : Int) then (if (rd t119 (wrap64 ((t119.length : Int) - 1))) = 10 then (some (true, true, t119, 0)) else (if t119.length < 140737488355328 then (some (true, true, (t119 ++ [10]), 0)) else (none))) else (none)) else (none))))) else (none)) else (none)) else (none))
end
def extent_Take.f (k : Nat) (l0 : List Int) (a1_0 : Int) (a1_1 : Int) (a1_2 : Bool) (a1_3 : Bool) : Option (Bool × Bool × List Int × Int) := if a1_0 < 0 then (extent_Take.j0 k l0 true a1_0 a1_1 a1_2 a1_3) else (if a1_0 > a1_1 then (extent_Take.j0 k l0 true a1_0 a1_1 a1_2 a1_3) else (extent_Take.j0 k l0 (decide (a1_1 > (l0.length : Int))) a1_0 a1_1 a1_2 a1_3))
theorem extent_Take.mono_l : ∀ k, (∀ y0 y1 y2 y3 y4 y5, LeO (extent_Take.j0 k y0 y1 y2 y3 y4 y5) (extent_Take.j0 (k + 1) y0 y1 y2 y3 y4 y5)) ∧ (∀ y0 y1 y2 y3 y4 y5, LeO (extent_Take.j1 k y0 y1 y2 y3 y4 y5) (extent_Take.j1 (k + 1) y0 y1 y2 y3 y4 y5))
  | 0 => ⟨fun _ _ _ _ _ _ r h => by simp [extent_Take.j0] at h, fun _ _ _ _ _ _ r h => by simp [extent_Take.j1] at h⟩
  | k + 1 => by
    obtain ⟨ih0, ih1⟩ := extent_Take.mono_l k
    refine ⟨?_, ?_⟩
    · intro y0 y1 y2 y3 y4 y5
      unfold extent_Take.j0
      repeat' first
      | (with_reducible exact ih0 _ _ _ _ _ _)
      | (with_reducible exact ih1 _ _ _ _ _ _)
      | (with_reducible exact LeO.refl _)
      | (with_reducible exact LeO.none _)
      | (with_reducible refine LeO.ite ?_ ?_)
      | (with_reducible refine LeO.bind ?_ (fun _ => ?_))
      | exact ih0 _ _ _ _ _ _
      | exact ih1 _ _ _ _ _ _
      | exact LeO.none _
      | refine LeO.ite ?_ ?_
      | refine LeO.bind ?_ (fun _ => ?_)
    · intro y0 y1 y2 y3 y4 y5
      unfold extent_Take.j1
      repeat' first
      | (with_reducible exact ih0 _ _ _ _ _ _)
      | (with_reducible exact ih1 _ _ _ _ _ _)
      | (with_reducible exact LeO.refl _)
      | (with_reducible exact LeO.none _)
      | (with_reducible refine LeO.ite ?_ ?_)
      | (with_reducible refine LeO.bind ?_ (fun _ => ?_))
      | exact ih0 _ _ _ _ _ _
      | exact ih1 _ _ _ _ _ _
      | exact LeO.none _
      | refine LeO.ite ?_ ?_
      | refine LeO.bind ?_ (fun _ => ?_)
theorem extent_Take.mono : ∀ a0 a1 a2 a3 a4 k, LeO (extent_Take.f k a0 a1 a2 a3 a4) (extent_Take.f (k + 1) a0 a1 a2 a3 a4) := by
  intro a0 a1 a2 a3 a4 k
  obtain ⟨ih0, ih1⟩ := extent_Take.mono_l k
  unfold extent_Take.f
  repeat' first
      | (with_reducible exact ih0 _ _ _ _ _ _)
      | (with_reducible exact ih1 _ _ _ _ _ _)
      | (with_reducible exact LeO.refl _)
      | (with_reducible exact LeO.none _)
      | (with_reducible refine LeO.ite ?_ ?_)
      | (with_reducible refine LeO.bind ?_ (fun _ => ?_))
      | exact ih0 _ _ _ _ _ _
      | exact ih1 _ _ _ _ _ _
      | exact LeO.none _
      | refine LeO.ite ?_ ?_
      | refine LeO.bind ?_ (fun _ => ?_)
set_option maxHeartbeats 8000000 in
set_option maxRecDepth 100000 in
theorem extent_Take.calls (k : Nat) (A0 : Option Addr) (c0 : Nat) (l0 : List Int) (a1_0 : Int) (a1_1 : Int) (a1_2 : Bool) (a1_3 : Bool) (r1 : Bool) (r2 : Bool) (r3 : List Int) (r4 : Int) (w : World) (hr0 : Kd.C (Kd.int .u8) w A0 l0.length l0) (hc0 : l0.length ≤ c0) (h : extent_Take.f k l0 a1_0 a1_1 a1_2 a1_3 = some (r1, r2, r3, r4)) :
    Calls Tryd.prog 7 #[.slice A0 l0.length c0, .agg #[.int .i64 a1_0, .int .i64 a1_1, .bool a1_2, .bool a1_3]] w fun e w' => ∃ v2_ : Value, e = .returned (.tuple #[.agg #[.bool r1, .bool r2, v2_], .int .i64 r4]) ∧ Kd.R (Kd.int .u8) 5 w' w.heap.size (fun _ => True) v2_ r3 ∧ Below w.heap.size w w' := by
  have hu27 := Tryd.underlying27
  have hu32 := Tryd.underlying32
  have HR0 := Aside0.mk hr0
  have HC0 := Aside0.mk hc0
  clear hr0 hc0
  have HB := Aside0.mk (Below.refl w.heap.size w)
  have H : (if a1_0 < 0 then (extent_Take.j0 k l0 true a1_0 a1_1 a1_2 a1_3) else (if a1_0 > a1_1 then (extent_Take.j0 k l0 true a1_0 a1_1 a1_2 a1_3) else (extent_Take.j0 k l0 (decide (a1_1 > (l0.length : Int))) a1_0 a1_1 a1_2 a1_3))) = some (r1, r2, r3, r4) := h
  clear h
  have HC3 := Aside0.mk H
  clear H
  go_enter Tryd.func7, Tryd.ntmps7
  go_upto_region 1 with (first | ((with_reducible refine gate_dst (N := 3) rfl ?_); (try (refine gate_guard (by rfl) ?_; dsimp only)); refine box_event ?hg (N := 3) ?hd (cs := #[.int .i64 a1_0, .int .i64 a1_1, .bool a1_2, .bool a1_3]) (t := 27) ?hr ?_; (case hd => rfl); (case hg => rfl); (case hr => first | (go_simp; done) | (go_simp; rfl)); intro gb110 hg w4 hbox hb; have n0_ := Aside0.mk (below_step (by repeat (first | (with_reducible first | exact HB.out | apply below_alloc | apply pw_below_drewN | apply below_drew1) | exact HB.out)) hb); have n1_ := Aside0.mk (hbox); have n2_ := Aside0.mk ((by rw [hg]; exact (below_size (by repeat (first | (with_reducible first | exact HB.out | apply below_alloc | apply pw_below_drewN | apply below_drew1) | exact HB.out))) : w.heap.size ≤ gb110)); have n3_ := Aside0.mk ((by rw [hg]; exact (below_size (by repeat (first | (with_reducible first | exact HB.out | apply below_alloc | apply pw_below_drewN | apply below_drew1) | exact HB.out))) : w.heap.size ≤ gb110)); clear HB; have HB := n0_; have BK110 := n1_; have GW110 := n2_; have GE110 := n3_; clear n0_ n1_ n2_ n3_; clear hb hbox hg) | ((with_reducible refine gate_dst (N := 4) rfl ?_); (try (refine gate_guard (by rfl) ?_; dsimp only)); refine box_event ?hg (N := 4) ?hd (cs := #[.bool false, .bool false, .slice none 0 0]) (t := 32) ?hr ?_; (case hd => rfl); (case hg => rfl); (case hr => first | (go_simp; done) | (go_simp; rfl)); intro gb111 hg w5 hbox hb; have n0_ := Aside0.mk (blk_below (g := gb110) (o := .cells #[.int .i64 a1_0, .int .i64 a1_1, .bool a1_2, .bool a1_3] 27 (0, 0)) (by (with_reducible repeat (first | refine blk_drewN ?_ _ | refine blk_drew ?_ | refine blk_alloc ?_ _)); exact BK110.out) hb); have n1_ := Aside0.mk (below_step (by repeat (first | (with_reducible first | exact HB.out | apply below_alloc | apply pw_below_drewN | apply below_drew1 | refine below_set ?_ GE110.out) | exact HB.out)) hb); have n2_ := Aside0.mk (hbox); have n3_ := Aside0.mk ((by rw [hg]; exact (below_size (by repeat (first | (with_reducible first | exact HB.out | apply below_alloc | apply pw_below_drewN | apply below_drew1 | refine below_set ?_ GE110.out) | exact HB.out))) : w.heap.size ≤ gb111)); have n4_ := Aside0.mk ((by rw [hg]; exact (below_size (by repeat (first | (with_reducible first | exact HB.out | apply below_alloc | apply pw_below_drewN | apply below_drew1 | refine below_set ?_ GE110.out) | exact HB.out))) : w.heap.size ≤ gb111)); have n5_ := Aside0.mk ((by rw [hg]; exact Nat.ne_of_lt (blk_lt (g := gb110) (o := .cells #[.int .i64 a1_0, .int .i64 a1_1, .bool a1_2, .bool a1_3] 27 (0, 0)) (by (with_reducible repeat (first | refine blk_drewN ?_ _ | refine blk_drew ?_ | refine blk_alloc ?_ _)); exact BK110.out)) : gb110 ≠ gb111)); have n6_ := Aside0.mk ((by rw [hg]; exact Nat.ne_of_gt (blk_lt (g := gb110) (o := .cells #[.int .i64 a1_0, .int .i64 a1_1, .bool a1_2, .bool a1_3] 27 (0, 0)) (by (with_reducible repeat (first | refine blk_drewN ?_ _ | refine blk_drew ?_ | refine blk_alloc ?_ _)); exact BK110.out)) : gb111 ≠ gb110)); clear BK110; clear HB; have BK110 := n0_; have HB := n1_; have BK111 := n2_; have GW111 := n3_; have GE111 := n4_; have NB110_111 := n5_; have NB111_110 := n6_; clear n0_ n1_ n2_ n3_ n4_ n5_ n6_; clear hb hbox hg))
  (try simp only [Act.put, List.setIfInBounds_toArray, List.set_cons_zero, List.set_cons_succ])
  go_cut [24] (fun v24 wc => ∃ (kq : Nat) (x24_2 : Bool), v24 = .bool x24_2 ∧ Aside0 (extent_Take.j0 kq l0 x24_2 a1_0 a1_1 a1_2 a1_3 = some (r1, r2, r3, r4)) ∧ Aside0 (kq ≤ k) ∧ Aside0 (wc.heap[gb110]? = some (.cells #[.int .i64 a1_0, .int .i64 a1_1, .bool a1_2, .bool a1_3] 27 (0, 0))) ∧ Aside0 (wc.heap[gb111]? = some (.cells #[.bool false, .bool false, (.slice none 0 0)] 32 (0, 0))) ∧ Aside0 (Below w.heap.size w wc))
  case first =>
    have H := HC3.out
    clear HC3
    by_cases c6 : a1_0 < 0
    · rw [if_pos c6] at H
      have c6b0 : decide (a1_0 < 0) = true := decide_eq_true c6
      clear c6
      (first | rw [c6b0] | (simp only [i64_w, i32_w]; rw [c6b0]) | skip)
      have H' := Aside0.mk H
      clear H
      have hnb7 := NB110_111.out
      have hnc7 := NB111_110.out
      have hcz8_0 : w5.cell? ⟨gb110, 0, none⟩ = some (.int .i64 a1_0) := (blk_cell BK110.out 0).trans rfl
      have hcz8_1 : w5.cell? ⟨gb110, 1, none⟩ = some (.int .i64 a1_1) := (blk_cell BK110.out 1).trans rfl
      have hcz8_2 : w5.cell? ⟨gb110, 2, none⟩ = some (.bool a1_2) := (blk_cell BK110.out 2).trans rfl
      have hcz8_3 : w5.cell? ⟨gb110, 3, none⟩ = some (.bool a1_3) := (blk_cell BK110.out 3).trans rfl
      have hfz8_0 := blk_frozen BK110.out 0
      have hfz8_1 := blk_frozen BK110.out 1
      have hfz8_2 := blk_frozen BK110.out 2
      have hfz8_3 := blk_frozen BK110.out 3
      go_wp2
      go_meet
      case rel => exact ⟨_, (true), (by first | rfl | (simp; done) | (simp [*]; done)), H', ⟨by first | omega | exact Nat.le_refl _⟩, ⟨by (with_reducible repeat (first | refine blk_drewN ?_ _ | refine blk_drew ?_ | refine blk_alloc ?_ _)); exact BK110.out⟩, ⟨by (with_reducible repeat (first | refine blk_drewN ?_ _ | refine blk_drew ?_ | refine blk_alloc ?_ _)); exact BK111.out⟩, ⟨by repeat (first | (with_reducible first | exact HB.out | apply below_alloc | apply pw_below_drewN | apply below_drew1 | refine below_set ?_ GE110.out | refine below_set ?_ GE111.out) | exact HB.out)⟩⟩
    · rw [if_neg c6] at H
      have c6b0 : decide (a1_0 < 0) = false := decide_eq_false c6
      clear c6
      (first | rw [c6b0] | (simp only [i64_w, i32_w]; rw [c6b0]) | skip)
      by_cases c9 : a1_0 > a1_1
      · rw [if_pos c9] at H
        have c9b0 : decide (a1_1 < a1_0) = true := decide_eq_true c9
        clear c9
        have H' := Aside0.mk H
        clear H
        have hnb10 := NB110_111.out
        have hnc10 := NB111_110.out
        have hcz11_0 : w5.cell? ⟨gb110, 0, none⟩ = some (.int .i64 a1_0) := (blk_cell BK110.out 0).trans rfl
        have hcz11_1 : w5.cell? ⟨gb110, 1, none⟩ = some (.int .i64 a1_1) := (blk_cell BK110.out 1).trans rfl
        have hcz11_2 : w5.cell? ⟨gb110, 2, none⟩ = some (.bool a1_2) := (blk_cell BK110.out 2).trans rfl
        have hcz11_3 : w5.cell? ⟨gb110, 3, none⟩ = some (.bool a1_3) := (blk_cell BK110.out 3).trans rfl
        have hfz11_0 := blk_frozen BK110.out 0
        have hfz11_1 := blk_frozen BK110.out 1
        have hfz11_2 := blk_frozen BK110.out 2
        have hfz11_3 := blk_frozen BK110.out 3
        go_wp2
        go_meet
        case rel => exact ⟨_, (true), (by first | rfl | (simp; done) | (simp [*]; done)), H', ⟨by first | omega | exact Nat.le_refl _⟩, ⟨by (with_reducible repeat (first | refine blk_drewN ?_ _ | refine blk_drew ?_ | refine blk_alloc ?_ _)); exact BK110.out⟩, ⟨by (with_reducible repeat (first | refine blk_drewN ?_ _ | refine blk_drew ?_ | refine blk_alloc ?_ _)); exact BK111.out⟩, ⟨by repeat (first | (with_reducible first | exact HB.out | apply below_alloc | apply pw_below_drewN | apply below_drew1 | refine below_set ?_ GE110.out | refine below_set ?_ GE111.out) | exact HB.out)⟩⟩
      · rw [if_neg c9] at H
        have c9b0 : decide (a1_1 < a1_0) = false := decide_eq_false c9
        clear c9
        have H' := Aside0.mk H
        clear H
        have hnb12 := NB110_111.out
        have hnc12 := NB111_110.out
        have hcz13_0 : w5.cell? ⟨gb110, 0, none⟩ = some (.int .i64 a1_0) := (blk_cell BK110.out 0).trans rfl
        have hcz13_1 : w5.cell? ⟨gb110, 1, none⟩ = some (.int .i64 a1_1) := (blk_cell BK110.out 1).trans rfl
        have hcz13_2 : w5.cell? ⟨gb110, 2, none⟩ = some (.bool a1_2) := (blk_cell BK110.out 2).trans rfl
        have hcz13_3 : w5.cell? ⟨gb110, 3, none⟩ = some (.bool a1_3) := (blk_cell BK110.out 3).trans rfl
        have hfz13_0 := blk_frozen BK110.out 0
        have hfz13_1 := blk_frozen BK110.out 1
        have hfz13_2 := blk_frozen BK110.out 2
        have hfz13_3 := blk_frozen BK110.out 3
        go_wp2
        go_meet
        case rel => exact ⟨_, (decide (a1_1 > (l0.length : Int))), (by first | rfl | (simp; done) | (simp [*]; done)), H', ⟨by first | omega | exact Nat.le_refl _⟩, ⟨by (with_reducible repeat (first | refine blk_drewN ?_ _ | refine blk_drew ?_ | refine blk_alloc ?_ _)); exact BK110.out⟩, ⟨by (with_reducible repeat (first | refine blk_drewN ?_ _ | refine blk_drew ?_ | refine blk_alloc ?_ _)); exact BK111.out⟩, ⟨by repeat (first | (with_reducible first | exact HB.out | apply below_alloc | apply pw_below_drewN | apply below_drew1 | refine below_set ?_ GE110.out | refine below_set ?_ GE111.out) | exact HB.out)⟩⟩
  case rest =>
    clear HC3
    try clear c1
    try clear p2
    try clear c6
    try clear c6b0
    try clear c7
    try clear c9
    try clear c9b0
    try clear c10
    try clear c12
    try clear hcz11_0
    try clear hcz11_1
    try clear hcz11_2
    try clear hcz11_3
    try clear hcz13_0
    try clear hcz13_1
    try clear hcz13_2
    try clear hcz13_3
    try clear hcz8_0
    try clear hcz8_1
    try clear hcz8_2
    try clear hcz8_3
    try clear hfz11_0
    try clear hfz11_1
    try clear hfz11_2
    try clear hfz11_3
    try clear hfz13_0
    try clear hfz13_1
    try clear hfz13_2
    try clear hfz13_3
    try clear hfz8_0
    try clear hfz8_1
    try clear hfz8_2
    try clear hfz8_3
    obtain ⟨kq, x24_2, rfl, HA, HJ2, BK110, BK111, HB⟩ := hcut
    cases kq with
    | zero => exact absurd HA.out (by simp [extent_Take.j0])
    | succ kj2 =>
      have H := HA.out
      clear HA
      simp only [extent_Take.j0] at H
      by_cases c14 : x24_2 = true
      · subst c14
        have H1 : (some (false, false, ([] : List Int), 2)) = some (r1, r2, r3, r4) := by rw [if_pos rfl] at H; exact H
        clear H
        have H := H1
        clear H1
        simp only [Option.some.injEq, Prod.mk.injEq] at H
        obtain ⟨rfl, rfl, rfl, rfl⟩ := H
        have hnb15 := NB111_110.out
        have hnc15 := NB110_111.out
        have hcz16_0 : wc.cell? ⟨gb111, 0, none⟩ = some (.bool false) := (blk_cell BK111.out 0).trans rfl
        have hcz16_1 : wc.cell? ⟨gb111, 1, none⟩ = some (.bool false) := (blk_cell BK111.out 1).trans rfl
        have hcz16_2 : wc.cell? ⟨gb111, 2, none⟩ = some (.slice none 0 0) := (blk_cell BK111.out 2).trans rfl
        have hfz16_0 := blk_frozen BK111.out 0
        have hfz16_1 := blk_frozen BK111.out 1
        have hfz16_2 := blk_frozen BK111.out 2
        go_wp2
        refine bodyPost_ret (results_ct rfl _ _ gb111 32 #[.bool false, .bool false, .slice none 0 0] (0, 0) _ rfl (by (with_reducible repeat (first | refine blk_drewN ?_ _ | refine blk_drew ?_ | refine blk_alloc ?_ _)); refine blk_put (cs := #[.bool false, .bool false, .slice none 0 0]) ?_ 2 _ rfl; (with_reducible repeat (first | refine blk_drewN ?_ _ | refine blk_drew ?_ | refine blk_alloc ?_ _)); refine blk_put (cs := #[.bool false, .bool false, .slice none 0 0]) ?_ 1 _ rfl; (with_reducible repeat (first | refine blk_drewN ?_ _ | refine blk_drew ?_ | refine blk_alloc ?_ _)); refine blk_put (cs := #[.bool false, .bool false, .slice none 0 0]) ?_ 0 _ rfl; (with_reducible repeat (first | refine blk_drewN ?_ _ | refine blk_drew ?_ | refine blk_alloc ?_ _)); exact BK111.out) Tryd.underlying32 rfl (by kernel_rfl)) rfl ?_
        exact ⟨_, by first | rfl | (simp [errW_none, errW_some] <;> rfl) | (simp [*, errW_none, errW_some] <;> rfl), by first | exact Kd.R_nil _ _ _ _ _ | exact Kd.N_nil _ _ _ _ _ | exact Kd.V_nil _ _ _ _ _ | exact Kd.Q_nil _ _ _ _ _ | exact Kd.S_nil _ _ _ _ _, by repeat (first | (with_reducible first | exact HB.out | apply below_alloc | apply pw_below_drewN | apply below_drew1 | refine below_set ?_ GE110.out | refine below_set ?_ GE111.out) | exact HB.out)⟩
      · replace c14 := Bool.eq_false_iff.mpr c14
        subst c14
        have H1 : (if a1_2 = true then (if 0 ≤ a1_0 then (if a1_0 ≤ a1_1 then (if a1_1 ≤ (l0.length : Int) then (if a1_3 = true then (if a1_0 = (l0.length : Int) then (extent_Take.j1 kj2 l0 true a1_0 a1_1 a1_2 a1_3) else (if a1_0 < (l0.length : Int) then (extent_Take.j1 kj2 l0 ((rd l0 a1_0) != 10) a1_0 a1_1 a1_2 a1_3) else (none))) else ((slices_Clone_byte_byte.f ((l0.take (a1_1 : Int).toNat).drop (a1_0 : Int).toNat)).bind fun t132 => (if (t132.length : Int) = 0 then (if t132.length < 140737488355328 then (some (true, true, (t132 ++ [10]), 0)) else (none)) else (if 0 ≤ (wrap64 ((t132.length : Int) - 1)) then (if (wrap64 ((t132.length : Int) - 1)) < (t132.length : Int) then (if (rd t132 (wrap64 ((t132.length : Int) - 1))) = 10 then (some (true, true, t132, 0)) else (if t132.length < 140737488355328 then (some (true, true, (t132 ++ [10]), 0)) else (none))) else (none)) else (none))))) else (none)) else (none)) else (none)) else (if 0 ≤ a1_0 then (if a1_0 ≤ a1_1 then (if a1_1 ≤ (l0.length : Int) then ((slices_Clone_byte_byte.f ((l0.take (a1_1 : Int).toNat).drop (a1_0 : Int).toNat)).bind fun t113 => (some (true, false, t113, 0))) else (none)) else (none)) else (none))) = some (r1, r2, r3, r4) := by rw [if_neg (show ¬ (false = true) by decide)] at H; exact H
        clear H
        have H := H1
        clear H1
        by_cases c17 : a1_2 = true
        · subst c17
          have H1 : (if 0 ≤ a1_0 then (if a1_0 ≤ a1_1 then (if a1_1 ≤ (l0.length : Int) then (if a1_3 = true then (if a1_0 = (l0.length : Int) then (extent_Take.j1 kj2 l0 true a1_0 a1_1 true a1_3) else (if a1_0 < (l0.length : Int) then (extent_Take.j1 kj2 l0 ((rd l0 a1_0) != 10) a1_0 a1_1 true a1_3) else (none))) else ((slices_Clone_byte_byte.f ((l0.take (a1_1 : Int).toNat).drop (a1_0 : Int).toNat)).bind fun t132 => (if (t132.length : Int) = 0 then (if t132.length < 140737488355328 then (some (true, true, (t132 ++ [10]), 0)) else (none)) else (if 0 ≤ (wrap64 ((t132.length : Int) - 1)) then (if (wrap64 ((t132.length : Int) - 1)) < (t132.length : Int) then (if (rd t132 (wrap64 ((t132.length : Int) - 1))) = 10 then (some (true, true, t132, 0)) else (if t132.length < 140737488355328 then (some (true, true, (t132 ++ [10]), 0)) else (none))) else (none)) else (none))))) else (none)) else (none)) else (none)) = some (r1, r2, r3, r4) := by rw [if_pos rfl] at H; exact H
          clear H
          have H := H1
          clear H1
          by_cases c18 : 0 ≤ a1_0
          · rw [if_pos c18] at H
            have c18b0 := eq_true c18
            have c18b1 : decide (0 ≤ a1_0) = true := decide_eq_true c18
            clear c18
            by_cases c19 : a1_0 ≤ a1_1
            · rw [if_pos c19] at H
              have c19b0 := eq_true c19
              have c19b1 : decide (a1_0 ≤ a1_1) = true := decide_eq_true c19
              clear c19
              by_cases c20 : a1_1 ≤ (l0.length : Int)
              · rw [if_pos c20] at H
                have c20b0 := eq_true c20
                have c20b1 : decide (a1_1 ≤ (l0.length : Int)) = true := decide_eq_true c20
                clear c20
                by_cases c21 : a1_3 = true
                · subst c21
                  have H1 : (if a1_0 = (l0.length : Int) then (extent_Take.j1 kj2 l0 true a1_0 a1_1 true true) else (if a1_0 < (l0.length : Int) then (extent_Take.j1 kj2 l0 ((rd l0 a1_0) != 10) a1_0 a1_1 true true) else (none))) = some (r1, r2, r3, r4) := by rw [if_pos rfl] at H; exact H
                  clear H
                  have H := H1
                  clear H1
                  have HC22 := Aside0.mk H
                  clear H
                  have hnb23 := NB110_111.out
                  have hnc23 := NB111_110.out
                  have hcz24_0 : wc.cell? ⟨gb110, 0, none⟩ = some (.int .i64 a1_0) := (blk_cell BK110.out 0).trans rfl
                  have hcz24_1 : wc.cell? ⟨gb110, 1, none⟩ = some (.int .i64 a1_1) := (blk_cell BK110.out 1).trans rfl
                  have hcz24_2 : wc.cell? ⟨gb110, 2, none⟩ = some (.bool true) := (blk_cell BK110.out 2).trans rfl
                  have hcz24_3 : wc.cell? ⟨gb110, 3, none⟩ = some (.bool true) := (blk_cell BK110.out 3).trans rfl
                  have hfz24_0 := blk_frozen BK110.out 0
                  have hfz24_1 := blk_frozen BK110.out 1
                  have hfz24_2 := blk_frozen BK110.out 2
                  have hfz24_3 := blk_frozen BK110.out 3
                  obtain ⟨i025, hi025, _, hsz25, _⟩ := info_parts info5
                  obtain ⟨A25, hcut25, hA25, hC25⟩ := print_mid_of (P := Tryd.prog) (Value.int .u8) 0 22 5 .i64 .i64 Tryd.underlying22 hi025 hsz25 A0 c0 l0 a1_0 a1_1 (of_decide_eq_true (by first | (with_reducible assumption) | assumption)) (by first | omega | exact of_decide_eq_true (by first | (with_reducible assumption) | assumption)) (of_decide_eq_true (by first | (with_reducible assumption) | assumption)) HC0.out
                  try have hle25 := Aside0.mk (show ((l0.take (a1_1 : Int).toNat).drop (a1_0 : Int).toNat).length = (a1_1.toNat - a1_0.toNat) from (by rw [List.length_drop, List.length_take]; have h_ : (a1_1 : Int) ≤ (l0.length : Int) := of_decide_eq_true (by first | (with_reducible assumption) | assumption); omega))
                  have HR116 := Aside0.mk (Kd.C_of_reads (h1 := fun _ => rfl) (hA25 _ (Kd.reads_of_C HR0.out)))
                  have HC116 := Aside0.mk hC25
                  clear hA25 hC25 hi025 hsz25
                  go_upto_region 7 with (fail)
                  go_cut [57] (fun v57 wc => ∃ (kq : Nat) (x57_21 : Bool), v57 = .bool x57_21 ∧ Aside0 (extent_Take.j1 kq l0 x57_21 a1_0 a1_1 true true = some (r1, r2, r3, r4)) ∧ Aside0 (kq ≤ kj2) ∧ Aside0 (wc.heap[gb110]? = some (.cells #[.int .i64 a1_0, .int .i64 a1_1, .bool true, .bool true] 27 (0, 0))) ∧ Aside0 (wc.heap[gb111]? = some (.cells #[.bool false, .bool false, (.slice none 0 0)] 32 (0, 0))) ∧ Aside0 (Below w.heap.size w wc))
                  case first =>
                    have H := HC22.out
                    clear HC22
                    by_cases c26 : a1_0 = (l0.length : Int)
                    · rw [if_pos c26] at H
                      have c26b0 : (a1_0 == (l0.length : Int)) = true := beq_iff_eq.mpr c26
                      have c26b1 : (a1_0 != (l0.length : Int)) = false := bne_eq_false_iff_eq.mpr c26
                      clear c26
                      (first | rw [c26b0] | (simp only [i64_w, i32_w]; rw [c26b0]) | skip)
                      have H' := Aside0.mk H
                      clear H
                      have hnb27 := NB110_111.out
                      have hnc27 := NB111_110.out
                      have hcz28_0 : wc.cell? ⟨gb110, 0, none⟩ = some (.int .i64 a1_0) := (blk_cell BK110.out 0).trans rfl
                      have hcz28_1 : wc.cell? ⟨gb110, 1, none⟩ = some (.int .i64 a1_1) := (blk_cell BK110.out 1).trans rfl
                      have hcz28_2 : wc.cell? ⟨gb110, 2, none⟩ = some (.bool true) := (blk_cell BK110.out 2).trans rfl
                      have hcz28_3 : wc.cell? ⟨gb110, 3, none⟩ = some (.bool true) := (blk_cell BK110.out 3).trans rfl
                      have hfz28_0 := blk_frozen BK110.out 0
                      have hfz28_1 := blk_frozen BK110.out 1
                      have hfz28_2 := blk_frozen BK110.out 2
                      have hfz28_3 := blk_frozen BK110.out 3
                      go_wp2
                      go_meet
                      case rel => exact ⟨_, (true), (by first | rfl | (simp; done) | (simp [*]; done)), H', ⟨by have := HJ2.out; first | omega | exact Nat.le_refl _⟩, ⟨by (with_reducible repeat (first | refine blk_drewN ?_ _ | refine blk_drew ?_ | refine blk_alloc ?_ _)); exact BK110.out⟩, ⟨by (with_reducible repeat (first | refine blk_drewN ?_ _ | refine blk_drew ?_ | refine blk_alloc ?_ _)); exact BK111.out⟩, ⟨by repeat (first | (with_reducible first | exact HB.out | apply below_alloc | apply pw_below_drewN | apply below_drew1 | refine below_set ?_ GE110.out | refine below_set ?_ GE111.out) | exact HB.out)⟩⟩
                    · rw [if_neg c26] at H
                      have c26b0 : (a1_0 == (l0.length : Int)) = false := beq_eq_false_iff_ne.mpr c26
                      have c26b1 : (a1_0 != (l0.length : Int)) = true := bne_iff_ne.mpr c26
                      (first | rw [c26b0] | (simp only [i64_w, i32_w]; rw [c26b0]) | skip)
                      by_cases c29 : a1_0 < (l0.length : Int)
                      · rw [if_pos c29] at H
                        have c29b0 : decide (a1_0 < (l0.length : Int)) = true := decide_eq_true c29
                        clear c29
                        have H' := Aside0.mk H
                        clear H
                        have hnb30 := NB110_111.out
                        have hnc30 := NB111_110.out
                        have hcz31_0 : wc.cell? ⟨gb110, 0, none⟩ = some (.int .i64 a1_0) := (blk_cell BK110.out 0).trans rfl
                        have hcz31_1 : wc.cell? ⟨gb110, 1, none⟩ = some (.int .i64 a1_1) := (blk_cell BK110.out 1).trans rfl
                        have hcz31_2 : wc.cell? ⟨gb110, 2, none⟩ = some (.bool true) := (blk_cell BK110.out 2).trans rfl
                        have hcz31_3 : wc.cell? ⟨gb110, 3, none⟩ = some (.bool true) := (blk_cell BK110.out 3).trans rfl
                        have hfz31_0 := blk_frozen BK110.out 0
                        have hfz31_1 := blk_frozen BK110.out 1
                        have hfz31_2 := blk_frozen BK110.out 2
                        have hfz31_3 := blk_frozen BK110.out 3
                        have p117 : 0 ≤ (a1_0 : Int) := of_decide_eq_true (by first | (with_reducible assumption) | assumption)
                        have q117 : a1_0 < (l0.length : Int) := of_decide_eq_true (by first | (with_reducible assumption) | assumption)
                        obtain ⟨ad117, e117, hx117_0⟩ := Kd.at_int HR0.out a1_0 p117 q117
                        cases e117
                        replace hx117_0 := (HB.out.cell (World.block_lt_of_cell? w _ hx117_0)).trans hx117_0
                        replace p117 := eq_true p117
                        replace q117 := eq_true q117
                        go_wp2
                        go_meet
                        case rel => exact ⟨_, (((rd l0 a1_0) != 10)), (by first | rfl | (simp; done) | (simp [*]; done)), H', ⟨by have := HJ2.out; first | omega | exact Nat.le_refl _⟩, ⟨by (with_reducible repeat (first | refine blk_drewN ?_ _ | refine blk_drew ?_ | refine blk_alloc ?_ _)); exact BK110.out⟩, ⟨by (with_reducible repeat (first | refine blk_drewN ?_ _ | refine blk_drew ?_ | refine blk_alloc ?_ _)); exact BK111.out⟩, ⟨by repeat (first | (with_reducible first | exact HB.out | apply below_alloc | apply pw_below_drewN | apply below_drew1 | refine below_set ?_ GE110.out | refine below_set ?_ GE111.out) | exact HB.out)⟩⟩
                      · rw [if_neg c29] at H
                        exact absurd H (by simp)
                  case rest =>
                    clear HC22
                    try clear c1
                    try clear p1
                    try clear q1
                    try clear hx1
                    try clear c2
                    try clear p2
                    try clear c3
                    try clear c6
                    try clear c6b0
                    try clear p6
                    try clear c7
                    try clear c9
                    try clear c9b0
                    try clear c10
                    try clear p11
                    try clear q11
                    try clear hx11
                    try clear c12
                    try clear c14
                    try clear c15
                    try clear c17
                    try clear c18
                    try clear c18b0
                    try clear c18b1
                    try clear c19
                    try clear c19b0
                    try clear c19b1
                    try clear c20
                    try clear c20b0
                    try clear c20b1
                    try clear c21
                    try clear c23
                    try clear c26
                    try clear c26b0
                    try clear c26b1
                    try clear c27
                    try clear c29
                    try clear c29b0
                    try clear c30
                    try clear hcz11_0
                    try clear hcz11_1
                    try clear hcz11_2
                    try clear hcz11_3
                    try clear hcz13_0
                    try clear hcz13_1
                    try clear hcz13_2
                    try clear hcz13_3
                    try clear hcz16_0
                    try clear hcz16_1
                    try clear hcz16_2
                    try clear hcz24_0
                    try clear hcz24_1
                    try clear hcz24_2
                    try clear hcz24_3
                    try clear hcz28_0
                    try clear hcz28_1
                    try clear hcz28_2
                    try clear hcz28_3
                    try clear hcz31_0
                    try clear hcz31_1
                    try clear hcz31_2
                    try clear hcz31_3
                    try clear hcz8_0
                    try clear hcz8_1
                    try clear hcz8_2
                    try clear hcz8_3
                    try clear hfz11_0
                    try clear hfz11_1
                    try clear hfz11_2
                    try clear hfz11_3
                    try clear hfz13_0
                    try clear hfz13_1
                    try clear hfz13_2
                    try clear hfz13_3
                    try clear hfz16_0
                    try clear hfz16_1
                    try clear hfz16_2
                    try clear hfz24_0
                    try clear hfz24_1
                    try clear hfz24_2
                    try clear hfz24_3
                    try clear hfz28_0
                    try clear hfz28_1
                    try clear hfz28_2
                    try clear hfz28_3
                    try clear hfz31_0
                    try clear hfz31_1
                    try clear hfz31_2
                    try clear hfz31_3
                    try clear hfz8_0
                    try clear hfz8_1
                    try clear hfz8_2
                    try clear hfz8_3
                    try clear hx117_0
                    try clear p117
                    try clear p2
                    try clear q117
                    obtain ⟨kq, x57_21, rfl, HA, HJ21, BK110, BK111, HB⟩ := hcut
                    cases kq with
                    | zero => exact absurd HA.out (by simp [extent_Take.j1])
                    | succ kj21 =>
                      have H := HA.out
                      clear HA
                      simp only [extent_Take.j1] at H
                      by_cases c32 : x57_21 = true
                      · subst c32
                        have H1 : (some (false, false, ([] : List Int), 2)) = some (r1, r2, r3, r4) := by rw [if_pos rfl] at H; exact H
                        clear H
                        have H := H1
                        clear H1
                        simp only [Option.some.injEq, Prod.mk.injEq] at H
                        obtain ⟨rfl, rfl, rfl, rfl⟩ := H
                        have hnb33 := NB111_110.out
                        have hnc33 := NB110_111.out
                        have hcz34_0 : wc.cell? ⟨gb111, 0, none⟩ = some (.bool false) := (blk_cell BK111.out 0).trans rfl
                        have hcz34_1 : wc.cell? ⟨gb111, 1, none⟩ = some (.bool false) := (blk_cell BK111.out 1).trans rfl
                        have hcz34_2 : wc.cell? ⟨gb111, 2, none⟩ = some (.slice none 0 0) := (blk_cell BK111.out 2).trans rfl
                        have hfz34_0 := blk_frozen BK111.out 0
                        have hfz34_1 := blk_frozen BK111.out 1
                        have hfz34_2 := blk_frozen BK111.out 2
                        go_wp2
                        refine bodyPost_ret (results_ct rfl _ _ gb111 32 #[.bool false, .bool false, .slice none 0 0] (0, 0) _ rfl (by (with_reducible repeat (first | refine blk_drewN ?_ _ | refine blk_drew ?_ | refine blk_alloc ?_ _)); refine blk_put (cs := #[.bool false, .bool false, .slice none 0 0]) ?_ 2 _ rfl; (with_reducible repeat (first | refine blk_drewN ?_ _ | refine blk_drew ?_ | refine blk_alloc ?_ _)); refine blk_put (cs := #[.bool false, .bool false, .slice none 0 0]) ?_ 1 _ rfl; (with_reducible repeat (first | refine blk_drewN ?_ _ | refine blk_drew ?_ | refine blk_alloc ?_ _)); refine blk_put (cs := #[.bool false, .bool false, .slice none 0 0]) ?_ 0 _ rfl; (with_reducible repeat (first | refine blk_drewN ?_ _ | refine blk_drew ?_ | refine blk_alloc ?_ _)); exact BK111.out) Tryd.underlying32 rfl (by kernel_rfl)) rfl ?_
                        exact ⟨_, by first | rfl | (simp [errW_none, errW_some] <;> rfl) | (simp [*, errW_none, errW_some] <;> rfl), by first | exact Kd.R_nil _ _ _ _ _ | exact Kd.N_nil _ _ _ _ _ | exact Kd.V_nil _ _ _ _ _ | exact Kd.Q_nil _ _ _ _ _ | exact Kd.S_nil _ _ _ _ _, by repeat (first | (with_reducible first | exact HB.out | apply below_alloc | apply pw_below_drewN | apply below_drew1 | refine below_set ?_ GE110.out | refine below_set ?_ GE111.out) | exact HB.out)⟩
                      · replace c32 := Bool.eq_false_iff.mpr c32
                        subst c32
                        have H1 : (if 0 ≤ (wrap64 (a1_0 + 1)) then (if (wrap64 (a1_0 + 1)) ≤ (mx (wrap64 (a1_0 + 1)) a1_1) then (if (mx (wrap64 (a1_0 + 1)) a1_1) ≤ (l0.length : Int) then ((slices_Clone_byte_byte.f ((l0.take ((mx (wrap64 (a1_0 + 1)) a1_1) : Int).toNat).drop ((wrap64 (a1_0 + 1)) : Int).toNat)).bind fun t119 => (if true = true then (if t119.length < 140737488355328 then (some (true, true, (t119 ++ [10]), 0)) else (none)) else (if (t119.length : Int) = 0 then (if t119.length < 140737488355328 then (some (true, true, (t119 ++ [10]), 0)) else (none)) else (if 0 ≤ (wrap64 ((t119.length : Int) - 1)) then (if (wrap64 ((t119.length : Int) - 1)) < (t119.length : Int) then (if (rd t119 (wrap64 ((t119.length : Int) - 1))) = 10 then (some (true, true, t119, 0)) else (if t119.length < 140737488355328 then (some (true, true, (t119 ++ [10]), 0)) else (none))) else (none)) else (none))))) else (none)) else (none)) else (none)) = some (r1, r2, r3, r4) := by rw [if_neg (show ¬ (false = true) by decide)] at H; exact H
                        clear H
                        have H := H1
                        clear H1
                        obtain ⟨ji35, hji35⟩ : ∃ j_ : Int, (mx (wrap64 (a1_0 + 1)) a1_1) = j_ := ⟨_, rfl⟩
                        replace H : (if 0 ≤ (wrap64 (a1_0 + 1)) then (if (wrap64 (a1_0 + 1)) ≤ (ji35) then (if (ji35) ≤ (l0.length : Int) then ((slices_Clone_byte_byte.f ((l0.take ((ji35) : Int).toNat).drop ((wrap64 (a1_0 + 1)) : Int).toNat)).bind fun t119 => (if true = true then (if t119.length < 140737488355328 then (some (true, true, (t119 ++ [10]), 0)) else (none)) else (if (t119.length : Int) = 0 then (if t119.length < 140737488355328 then (some (true, true, (t119 ++ [10]), 0)) else (none)) else (if 0 ≤ (wrap64 ((t119.length : Int) - 1)) then (if (wrap64 ((t119.length : Int) - 1)) < (t119.length : Int) then (if (rd t119 (wrap64 ((t119.length : Int) - 1))) = 10 then (some (true, true, t119, 0)) else (if t119.length < 140737488355328 then (some (true, true, (t119 ++ [10]), 0)) else (none))) else (none)) else (none))))) else (none)) else (none)) else (none)) = some (r1, r2, r3, r4) := by first | (rw [hji35] at H; exact H) | (simp only [hji35] at H ⊢; exact H)
                        have hji35_ : (if (wrap64 (a1_0 + 1)) < a1_1 then a1_1 else (wrap64 (a1_0 + 1))) = ji35 := hji35
                        obtain ⟨ji36, hji36⟩ : ∃ j_ : Int, (wrap64 (a1_0 + 1)) = j_ := ⟨_, rfl⟩
                        have hji35_36 : (if ji36 < a1_1 then a1_1 else ji36) = ji35 := by rw [← hji36]; exact hji35_
                        replace H : (if 0 ≤ (ji36) then (if (ji36) ≤ (ji35) then (if (ji35) ≤ (l0.length : Int) then ((slices_Clone_byte_byte.f ((l0.take ((ji35) : Int).toNat).drop ((ji36) : Int).toNat)).bind fun t119 => (if true = true then (if t119.length < 140737488355328 then (some (true, true, (t119 ++ [10]), 0)) else (none)) else (if (t119.length : Int) = 0 then (if t119.length < 140737488355328 then (some (true, true, (t119 ++ [10]), 0)) else (none)) else (if 0 ≤ (wrap64 ((t119.length : Int) - 1)) then (if (wrap64 ((t119.length : Int) - 1)) < (t119.length : Int) then (if (rd t119 (wrap64 ((t119.length : Int) - 1))) = 10 then (some (true, true, t119, 0)) else (if t119.length < 140737488355328 then (some (true, true, (t119 ++ [10]), 0)) else (none))) else (none)) else (none))))) else (none)) else (none)) else (none)) = some (r1, r2, r3, r4) := by first | (rw [hji36] at H; exact H) | (simp only [hji36] at H ⊢; exact H)
                        have hji36w : (IntKind.i64.wrap (a1_0 + 1)) = ji36 := (i64_w _).trans hji36
                        by_cases c37 : 0 ≤ (ji36)
                        · rw [if_pos c37] at H
                          have c37b0 := eq_true c37
                          have c37b1 : decide (0 ≤ (ji36)) = true := decide_eq_true c37
                          clear c37
                          by_cases c38 : (ji36) ≤ (ji35)
                          · rw [if_pos c38] at H
                            have c38b0 := eq_true c38
                            have c38b1 : decide ((ji36) ≤ (ji35)) = true := decide_eq_true c38
                            clear c38
                            by_cases c39 : (ji35) ≤ (l0.length : Int)
                            · rw [if_pos c39] at H
                              have c39b0 := eq_true c39
                              have c39b1 : decide ((ji35) ≤ (l0.length : Int)) = true := decide_eq_true c39
                              clear c39
                              replace H := Option.bind_eq_some_iff.mp H
                              obtain ⟨t119, A400, H⟩ := H
                              replace H : (if true = true then (if t119.length < 140737488355328 then (some (true, true, (t119 ++ [10]), 0)) else (none)) else (if (t119.length : Int) = 0 then (if t119.length < 140737488355328 then (some (true, true, (t119 ++ [10]), 0)) else (none)) else (if 0 ≤ (wrap64 ((t119.length : Int) - 1)) then (if (wrap64 ((t119.length : Int) - 1)) < (t119.length : Int) then (if (rd t119 (wrap64 ((t119.length : Int) - 1))) = 10 then (some (true, true, t119, 0)) else (if t119.length < 140737488355328 then (some (true, true, (t119 ++ [10]), 0)) else (none))) else (none)) else (none)))) = some (r1, r2, r3, r4) := H
                              have A40 := Aside0.mk A400
                              clear A400
                              by_cases c41 : true = true
                              · clear c41
                                have H1 : (if t119.length < 140737488355328 then (some (true, true, (t119 ++ [10]), 0)) else (none)) = some (r1, r2, r3, r4) := by rw [if_pos rfl] at H; exact H
                                clear H
                                have H := H1
                                clear H1
                                by_cases c42 : t119.length < 140737488355328
                                · rw [if_pos c42] at H
                                  have LMc42 := Aside0.mk c42
                                  clear c42
                                  obtain ⟨y122, hy122⟩ : ∃ y_ : List Int, y_ = (t119 ++ [10]) := ⟨_, rfl⟩
                                  replace H : (some (true, true, y122, 0)) = some (r1, r2, r3, r4) := by first | (rw [hy122]; with_reducible exact H) | (have H2_ := (Option.bind_some _ _).symm.trans H; rw [hy122]; with_reducible exact H2_) | (have H2_ := (Option.bind_some _ _).symm.trans H; with_reducible exact H2_) | with_reducible exact H | (rw [hy122]; exact H) | exact H
                                  have Ny122 := Aside0.mk hy122
                                  clear hy122
                                  simp only [Option.some.injEq, Prod.mk.injEq] at H
                                  obtain ⟨rfl, rfl, rfl, rfl⟩ := H
                                  have hnb43 := NB110_111.out
                                  have hnc43 := NB111_110.out
                                  have hcz44_0 : wc.cell? ⟨gb110, 0, none⟩ = some (.int .i64 a1_0) := (blk_cell BK110.out 0).trans rfl
                                  have hcz44_1 : wc.cell? ⟨gb110, 1, none⟩ = some (.int .i64 a1_1) := (blk_cell BK110.out 1).trans rfl
                                  have hcz44_2 : wc.cell? ⟨gb110, 2, none⟩ = some (.bool true) := (blk_cell BK110.out 2).trans rfl
                                  have hcz44_3 : wc.cell? ⟨gb110, 3, none⟩ = some (.bool true) := (blk_cell BK110.out 3).trans rfl
                                  have hfz44_0 := blk_frozen BK110.out 0
                                  have hfz44_1 := blk_frozen BK110.out 1
                                  have hfz44_2 := blk_frozen BK110.out 2
                                  have hfz44_3 := blk_frozen BK110.out 3
                                  obtain ⟨i045, hi045, _, hsz45, _⟩ := info_parts info5
                                  obtain ⟨A45, hcut45, hA45, hC45⟩ := print_mid_of (P := Tryd.prog) (Value.int .u8) 0 22 5 .i64 .i64 Tryd.underlying22 hi045 hsz45 A0 c0 l0 (ji36) (ji35) (of_decide_eq_true (by first | (with_reducible assumption) | assumption)) (by first | omega | exact of_decide_eq_true (by first | (with_reducible assumption) | assumption)) (of_decide_eq_true (by first | (with_reducible assumption) | assumption)) HC0.out
                                  try have hle45 := Aside0.mk (show ((l0.take ((ji35) : Int).toNat).drop ((ji36) : Int).toNat).length = ((ji35).toNat - (ji36).toNat) from (by rw [List.length_drop, List.length_take]; have h_ : ((ji35) : Int) ≤ (l0.length : Int) := of_decide_eq_true (by first | (with_reducible assumption) | assumption); omega))
                                  have HR118 := Aside0.mk (Kd.C_of_reads (h1 := fun _ => rfl) (hA45 _ (Kd.reads_of_C HR0.out)))
                                  have HC118 := Aside0.mk hC45
                                  clear hA45 hC45 hi045 hsz45
                                  go_wp2_with (first | ((with_reducible refine gate_callee (f := 12) rfl ?_); refine goesL_ (some 71) rfl rfl Tryd.func12 (by kernel_rfl) rfl #[.slice A45 ((l0.take ((ji35) : Int).toNat).drop ((ji36) : Int).toNat).length (c0 - (ji36).toNat)] rfl (by (try simp only [List.map_toArray, List.map_cons, List.map_nil]); first | done | (rw [show ((l0.take ((ji35) : Int).toNat).drop ((ji36) : Int).toNat).length = ((ji35).toNat - (ji36).toNat) from (by rw [List.length_drop, List.length_take]; have h_ : ((ji35) : Int) ≤ (l0.length : Int) := of_decide_eq_true (by first | (with_reducible assumption) | assumption); omega)] <;> rfl) | (simp only [hji35, hji36]; rfl) | rfl | (simp only [List.length_drop, List.length_take]; rfl)) ?_; (with_reducible refine (slices_Clone_byte_byte.calls _ _ ((l0.take ((ji35) : Int).toNat).drop ((ji36) : Int).toNat) t119 _ ?side1 ?side2 A40.out).mono ?_); (case side1 => repeat (first | exact (Kd.C_below HR118.out HB.out) | (with_reducible refine Kd.C_alloc ?_ _) | (with_reducible refine Kd.C_drewN ?_ _) | (with_reducible refine Kd.C_drew ?_))); (case side2 => exact HC118.out); rintro e w46 ⟨v120, rfl, ho0, hb⟩; refine ⟨_, rfl, ?_⟩; have n0_ := Aside0.mk (Kd.R_lower ho0 (below_size (by repeat (first | (with_reducible first | exact HB.out | apply below_alloc | apply pw_below_drewN | apply below_drew1 | refine below_set ?_ GE110.out | refine below_set ?_ GE111.out) | exact HB.out)))); have n1_ := Aside0.mk (blk_below (g := gb110) (o := .cells #[.int .i64 a1_0, .int .i64 a1_1, .bool true, .bool true] 27 (0, 0)) (by (with_reducible repeat (first | refine blk_drewN ?_ _ | refine blk_drew ?_ | refine blk_alloc ?_ _)); exact BK110.out) hb); have n2_ := Aside0.mk (blk_below (g := gb111) (o := .cells #[.bool false, .bool false, .slice none 0 0] 32 (0, 0)) (by (with_reducible repeat (first | refine blk_drewN ?_ _ | refine blk_drew ?_ | refine blk_alloc ?_ _)); exact BK111.out) hb); have n3_ := Aside0.mk (below_step (by repeat (first | (with_reducible first | exact HB.out | apply below_alloc | apply pw_below_drewN | apply below_drew1 | refine below_set ?_ GE110.out | refine below_set ?_ GE111.out) | exact HB.out)) hb); clear BK110; clear BK111; clear HB; have HO121 := n0_; have BK110 := n1_; have BK111 := n2_; have HB := n3_; clear n0_ n1_ n2_ n3_; (try clear hb); (try clear hb2); (try clear hk); (try clear hi); (try clear ho0); have hcz47_0 : w46.cell? ⟨gb110, 0, none⟩ = some (.int .i64 a1_0) := (blk_cell BK110.out 0).trans rfl; have hcz47_1 : w46.cell? ⟨gb110, 1, none⟩ = some (.int .i64 a1_1) := (blk_cell BK110.out 1).trans rfl; have hcz47_2 : w46.cell? ⟨gb110, 2, none⟩ = some (.bool true) := (blk_cell BK110.out 2).trans rfl; have hcz47_3 : w46.cell? ⟨gb110, 3, none⟩ = some (.bool true) := (blk_cell BK110.out 3).trans rfl; have hfz47_0 := blk_frozen BK110.out 0; have hfz47_1 := blk_frozen BK110.out 1; have hfz47_2 := blk_frozen BK110.out 2; have hfz47_3 := blk_frozen BK110.out 3) | ((with_reducible refine gate_builtin (b := .append) (xs := #[.tmp 88, .tmp 89]) rfl ?_); (try (refine gate_guard (by rfl) ?_; dsimp only)); at_builtin; refine Kd.R_append (Kd.int .u8) (w0 := w) w.heap.size rfl (.tmp 88) (.tmp 89) 22 5 (.int .u8 0) 1 rfl Tryd.underlying22 info5 rfl (by decide) (by omega) v120 t119 10 [.int .u8 10] (fun _ => True) (fun _ => False) rfl rfl ?aP (fun _ hk => hk.elim) ?aF ?aO ?aB ?aS ?aL ?_; (case aP => exact rfl); (case aB => exact (by repeat (first | (with_reducible first | exact HB.out | apply below_alloc | apply pw_below_drewN | apply below_drew1 | refine below_set ?_ GE110.out | refine below_set ?_ GE111.out) | exact HB.out))); (case aF => exact (fun _ _ => trivial)); (case aO => exact (by (with_reducible repeat (first | apply Kd.R_alloc | apply Kd.R_drewN | apply Kd.R_drew)); exact HO121.out)); (case aS => exact (below_size (by repeat (first | (with_reducible first | exact HB.out | apply below_alloc | apply pw_below_drewN | apply below_drew1 | refine below_set ?_ GE110.out | refine below_set ?_ GE111.out) | exact HB.out)))); (case aL => have := LMc42.out; omega); intro v123 w48 ho hb hg hat; rw [← Ny122.out] at ho; have n0_ := Aside0.mk (blk_grown (g := gb110) (o := .cells #[.int .i64 a1_0, .int .i64 a1_1, .bool true, .bool true] 27 (0, 0)) (by (with_reducible repeat (first | refine blk_drewN ?_ _ | refine blk_drew ?_ | refine blk_alloc ?_ _)); exact BK110.out) hg (Kd.R_ne HO121.out BK110.out (by decide))); have n1_ := Aside0.mk (blk_grown (g := gb111) (o := .cells #[.bool false, .bool false, .slice none 0 0] 32 (0, 0)) (by (with_reducible repeat (first | refine blk_drewN ?_ _ | refine blk_drew ?_ | refine blk_alloc ?_ _)); exact BK111.out) hg (Kd.R_ne HO121.out BK111.out (by decide))); have n2_ := Aside0.mk (hb); have n3_ := Aside0.mk (ho); clear BK110; clear BK111; clear HB; clear HO121; have BK110 := n0_; have BK111 := n1_; have HB := n2_; have HO124 := n3_; clear n0_ n1_ n2_ n3_; clear ho hb hg hat; obtain ⟨Ao49, co49, eo49⟩ := Kd.R_slice HO124.out; subst eo49; have hcz50_0 : w48.cell? ⟨gb111, 0, none⟩ = some (.bool false) := (blk_cell BK111.out 0).trans rfl; have hcz50_1 : w48.cell? ⟨gb111, 1, none⟩ = some (.bool false) := (blk_cell BK111.out 1).trans rfl; have hcz50_2 : w48.cell? ⟨gb111, 2, none⟩ = some (.slice none 0 0) := (blk_cell BK111.out 2).trans rfl; have hfz50_0 := blk_frozen BK111.out 0; have hfz50_1 := blk_frozen BK111.out 1; have hfz50_2 := blk_frozen BK111.out 2))
                                  refine bodyPost_ret (results_ct rfl _ _ gb111 32 #[.bool true, .bool true, .slice Ao49 y122.length co49] (0, 0) _ rfl (by (with_reducible repeat (first | refine blk_drewN ?_ _ | refine blk_drew ?_ | refine blk_alloc ?_ _)); refine blk_put (cs := #[.bool true, .bool true, .slice none 0 0]) ?_ 2 _ rfl; (with_reducible repeat (first | refine blk_drewN ?_ _ | refine blk_drew ?_ | refine blk_alloc ?_ _)); refine blk_put (cs := #[.bool true, .bool false, .slice none 0 0]) ?_ 1 _ rfl; (with_reducible repeat (first | refine blk_drewN ?_ _ | refine blk_drew ?_ | refine blk_alloc ?_ _)); refine blk_put (cs := #[.bool false, .bool false, .slice none 0 0]) ?_ 0 _ rfl; (with_reducible repeat (first | refine blk_drewN ?_ _ | refine blk_drew ?_ | refine blk_alloc ?_ _)); exact BK111.out) Tryd.underlying32 rfl (by kernel_rfl)) rfl ?_
                                  exact ⟨_, by first | rfl | (simp [errW_none, errW_some] <;> rfl) | (simp only [← hji35, ← hji36]; first | rfl | (simp [errW_none, errW_some] <;> rfl)) | (simp [*, errW_none, errW_some] <;> rfl), by (with_reducible repeat (first | apply Kd.R_alloc | apply Kd.R_drewN | apply Kd.R_drew)); exact Kd.R_mono (Kd.R_far (p := ⟨gb111, 2, none⟩) (Kd.R_far (p := ⟨gb111, 1, none⟩) (Kd.R_far (p := ⟨gb111, 0, none⟩) (Kd.R_types HO124.out BK111.out (by decide)) (fun _ hk => hk.2) (.bool true)) (fun _ hk => hk.2) (.bool true)) (fun _ hk => hk.2) (.slice Ao49 y122.length co49)) (fun _ hk => trivial), by repeat (first | (with_reducible first | exact HB.out | apply below_alloc | apply pw_below_drewN | apply below_drew1 | refine below_set ?_ GE110.out | refine below_set ?_ GE111.out) | exact HB.out)⟩
                                · rw [if_neg c42] at H
                                  exact absurd H (by simp)
                              · exact absurd rfl c41
                            · rw [if_neg c39] at H
                              exact absurd H (by simp)
                          · rw [if_neg c38] at H
                            exact absurd H (by simp)
                        · rw [if_neg c37] at H
                          exact absurd H (by simp)
                · replace c21 := Bool.eq_false_iff.mpr c21
                  subst c21
                  have H1 : ((slices_Clone_byte_byte.f ((l0.take (a1_1 : Int).toNat).drop (a1_0 : Int).toNat)).bind fun t132 => (if (t132.length : Int) = 0 then (if t132.length < 140737488355328 then (some (true, true, (t132 ++ [10]), 0)) else (none)) else (if 0 ≤ (wrap64 ((t132.length : Int) - 1)) then (if (wrap64 ((t132.length : Int) - 1)) < (t132.length : Int) then (if (rd t132 (wrap64 ((t132.length : Int) - 1))) = 10 then (some (true, true, t132, 0)) else (if t132.length < 140737488355328 then (some (true, true, (t132 ++ [10]), 0)) else (none))) else (none)) else (none)))) = some (r1, r2, r3, r4) := by rw [if_neg (show ¬ (false = true) by decide)] at H; exact H
                  clear H
                  have H := H1
                  clear H1
                  replace H := Option.bind_eq_some_iff.mp H
                  obtain ⟨t132, A830, H⟩ := H
                  replace H : (if (t132.length : Int) = 0 then (if t132.length < 140737488355328 then (some (true, true, (t132 ++ [10]), 0)) else (none)) else (if 0 ≤ (wrap64 ((t132.length : Int) - 1)) then (if (wrap64 ((t132.length : Int) - 1)) < (t132.length : Int) then (if (rd t132 (wrap64 ((t132.length : Int) - 1))) = 10 then (some (true, true, t132, 0)) else (if t132.length < 140737488355328 then (some (true, true, (t132 ++ [10]), 0)) else (none))) else (none)) else (none))) = some (r1, r2, r3, r4) := H
                  have A83 := Aside0.mk A830
                  clear A830
                  by_cases c84 : (t132.length : Int) = 0
                  · rw [if_pos c84] at H
                    have c84b0 : ((t132.length : Int) == 0) = true := beq_iff_eq.mpr c84
                    have c84b1 : ((t132.length : Int) != 0) = false := bne_eq_false_iff_eq.mpr c84
                    clear c84
                    by_cases c85 : t132.length < 140737488355328
                    · rw [if_pos c85] at H
                      have LMc85 := Aside0.mk c85
                      clear c85
                      obtain ⟨y135, hy135⟩ : ∃ y_ : List Int, y_ = (t132 ++ [10]) := ⟨_, rfl⟩
                      replace H : (some (true, true, y135, 0)) = some (r1, r2, r3, r4) := by first | (rw [hy135]; with_reducible exact H) | (have H2_ := (Option.bind_some _ _).symm.trans H; rw [hy135]; with_reducible exact H2_) | (have H2_ := (Option.bind_some _ _).symm.trans H; with_reducible exact H2_) | with_reducible exact H | (rw [hy135]; exact H) | exact H
                      have Ny135 := Aside0.mk hy135
                      clear hy135
                      simp only [Option.some.injEq, Prod.mk.injEq] at H
                      obtain ⟨rfl, rfl, rfl, rfl⟩ := H
                      have hnb86 := NB110_111.out
                      have hnc86 := NB111_110.out
                      have hcz87_0 : wc.cell? ⟨gb110, 0, none⟩ = some (.int .i64 a1_0) := (blk_cell BK110.out 0).trans rfl
                      have hcz87_1 : wc.cell? ⟨gb110, 1, none⟩ = some (.int .i64 a1_1) := (blk_cell BK110.out 1).trans rfl
                      have hcz87_2 : wc.cell? ⟨gb110, 2, none⟩ = some (.bool true) := (blk_cell BK110.out 2).trans rfl
                      have hcz87_3 : wc.cell? ⟨gb110, 3, none⟩ = some (.bool false) := (blk_cell BK110.out 3).trans rfl
                      have hfz87_0 := blk_frozen BK110.out 0
                      have hfz87_1 := blk_frozen BK110.out 1
                      have hfz87_2 := blk_frozen BK110.out 2
                      have hfz87_3 := blk_frozen BK110.out 3
                      obtain ⟨i088, hi088, _, hsz88, _⟩ := info_parts info5
                      obtain ⟨A88, hcut88, hA88, hC88⟩ := print_mid_of (P := Tryd.prog) (Value.int .u8) 0 22 5 .i64 .i64 Tryd.underlying22 hi088 hsz88 A0 c0 l0 a1_0 a1_1 (of_decide_eq_true (by first | (with_reducible assumption) | assumption)) (by first | omega | exact of_decide_eq_true (by first | (with_reducible assumption) | assumption)) (of_decide_eq_true (by first | (with_reducible assumption) | assumption)) HC0.out
                      try have hle88 := Aside0.mk (show ((l0.take (a1_1 : Int).toNat).drop (a1_0 : Int).toNat).length = (a1_1.toNat - a1_0.toNat) from (by rw [List.length_drop, List.length_take]; have h_ : (a1_1 : Int) ≤ (l0.length : Int) := of_decide_eq_true (by first | (with_reducible assumption) | assumption); omega))
                      have HR116 := Aside0.mk (Kd.C_of_reads (h1 := fun _ => rfl) (hA88 _ (Kd.reads_of_C HR0.out)))
                      have HC116 := Aside0.mk hC88
                      clear hA88 hC88 hi088 hsz88
                      go_wp2_with (first | ((with_reducible refine gate_callee (f := 12) rfl ?_); refine goesL_ (some 71) rfl rfl Tryd.func12 (by kernel_rfl) rfl #[.slice A88 ((l0.take (a1_1 : Int).toNat).drop (a1_0 : Int).toNat).length (c0 - a1_0.toNat)] rfl (by (try simp only [List.map_toArray, List.map_cons, List.map_nil]); first | done | (rw [show ((l0.take (a1_1 : Int).toNat).drop (a1_0 : Int).toNat).length = (a1_1.toNat - a1_0.toNat) from (by rw [List.length_drop, List.length_take]; have h_ : (a1_1 : Int) ≤ (l0.length : Int) := of_decide_eq_true (by first | (with_reducible assumption) | assumption); omega)] <;> rfl) | rfl | (simp only [List.length_drop, List.length_take]; rfl)) ?_; (with_reducible refine (slices_Clone_byte_byte.calls _ _ ((l0.take (a1_1 : Int).toNat).drop (a1_0 : Int).toNat) t132 _ ?side1 ?side2 A83.out).mono ?_); (case side1 => repeat (first | exact (Kd.C_below HR116.out HB.out) | (with_reducible refine Kd.C_alloc ?_ _) | (with_reducible refine Kd.C_drewN ?_ _) | (with_reducible refine Kd.C_drew ?_))); (case side2 => exact HC116.out); rintro e w89 ⟨v133, rfl, ho0, hb⟩; refine ⟨_, rfl, ?_⟩; have n0_ := Aside0.mk (Kd.R_lower ho0 (below_size (by repeat (first | (with_reducible first | exact HB.out | apply below_alloc | apply pw_below_drewN | apply below_drew1 | refine below_set ?_ GE110.out | refine below_set ?_ GE111.out) | exact HB.out)))); have n1_ := Aside0.mk (blk_below (g := gb110) (o := .cells #[.int .i64 a1_0, .int .i64 a1_1, .bool true, .bool false] 27 (0, 0)) (by (with_reducible repeat (first | refine blk_drewN ?_ _ | refine blk_drew ?_ | refine blk_alloc ?_ _)); exact BK110.out) hb); have n2_ := Aside0.mk (blk_below (g := gb111) (o := .cells #[.bool false, .bool false, .slice none 0 0] 32 (0, 0)) (by (with_reducible repeat (first | refine blk_drewN ?_ _ | refine blk_drew ?_ | refine blk_alloc ?_ _)); exact BK111.out) hb); have n3_ := Aside0.mk (below_step (by repeat (first | (with_reducible first | exact HB.out | apply below_alloc | apply pw_below_drewN | apply below_drew1 | refine below_set ?_ GE110.out | refine below_set ?_ GE111.out) | exact HB.out)) hb); clear BK110; clear BK111; clear HB; have HO134 := n0_; have BK110 := n1_; have BK111 := n2_; have HB := n3_; clear n0_ n1_ n2_ n3_; (try clear hb); (try clear hb2); (try clear hk); (try clear hi); (try clear ho0); have hcz90_0 : w89.cell? ⟨gb110, 0, none⟩ = some (.int .i64 a1_0) := (blk_cell BK110.out 0).trans rfl; have hcz90_1 : w89.cell? ⟨gb110, 1, none⟩ = some (.int .i64 a1_1) := (blk_cell BK110.out 1).trans rfl; have hcz90_2 : w89.cell? ⟨gb110, 2, none⟩ = some (.bool true) := (blk_cell BK110.out 2).trans rfl; have hcz90_3 : w89.cell? ⟨gb110, 3, none⟩ = some (.bool false) := (blk_cell BK110.out 3).trans rfl; have hfz90_0 := blk_frozen BK110.out 0; have hfz90_1 := blk_frozen BK110.out 1; have hfz90_2 := blk_frozen BK110.out 2; have hfz90_3 := blk_frozen BK110.out 3; obtain ⟨Ao91, co91, eo91⟩ := Kd.R_slice HO134.out; subst eo91) | ((with_reducible refine gate_builtin (b := .append) (xs := #[.tmp 88, .tmp 89]) rfl ?_); (try (refine gate_guard (by rfl) ?_; dsimp only)); at_builtin; refine Kd.R_append (Kd.int .u8) (w0 := w) w.heap.size rfl (.tmp 88) (.tmp 89) 22 5 (.int .u8 0) 1 rfl Tryd.underlying22 info5 rfl (by decide) (by omega) (.slice Ao91 t132.length co91) t132 10 [.int .u8 10] (fun _ => True) (fun _ => False) rfl rfl ?aP (fun _ hk => hk.elim) ?aF ?aO ?aB ?aS ?aL ?_; (case aP => exact rfl); (case aB => exact (by repeat (first | (with_reducible first | exact HB.out | apply below_alloc | apply pw_below_drewN | apply below_drew1 | refine below_set ?_ GE110.out | refine below_set ?_ GE111.out) | exact HB.out))); (case aF => exact (fun _ _ => trivial)); (case aO => exact (by (with_reducible repeat (first | apply Kd.R_alloc | apply Kd.R_drewN | apply Kd.R_drew)); exact HO134.out)); (case aS => exact (below_size (by repeat (first | (with_reducible first | exact HB.out | apply below_alloc | apply pw_below_drewN | apply below_drew1 | refine below_set ?_ GE110.out | refine below_set ?_ GE111.out) | exact HB.out)))); (case aL => have := LMc85.out; omega); intro v136 w92 ho hb hg hat; rw [← Ny135.out] at ho; have n0_ := Aside0.mk (blk_grown (g := gb110) (o := .cells #[.int .i64 a1_0, .int .i64 a1_1, .bool true, .bool false] 27 (0, 0)) (by (with_reducible repeat (first | refine blk_drewN ?_ _ | refine blk_drew ?_ | refine blk_alloc ?_ _)); exact BK110.out) hg (Kd.R_ne HO134.out BK110.out (by decide))); have n1_ := Aside0.mk (blk_grown (g := gb111) (o := .cells #[.bool false, .bool false, .slice none 0 0] 32 (0, 0)) (by (with_reducible repeat (first | refine blk_drewN ?_ _ | refine blk_drew ?_ | refine blk_alloc ?_ _)); exact BK111.out) hg (Kd.R_ne HO134.out BK111.out (by decide))); have n2_ := Aside0.mk (hb); have n3_ := Aside0.mk (ho); clear BK110; clear BK111; clear HB; clear HO134; have BK110 := n0_; have BK111 := n1_; have HB := n2_; have HO137 := n3_; clear n0_ n1_ n2_ n3_; clear ho hb hg hat; obtain ⟨Ao93, co93, eo93⟩ := Kd.R_slice HO137.out; subst eo93; have hcz94_0 : w92.cell? ⟨gb111, 0, none⟩ = some (.bool false) := (blk_cell BK111.out 0).trans rfl; have hcz94_1 : w92.cell? ⟨gb111, 1, none⟩ = some (.bool false) := (blk_cell BK111.out 1).trans rfl; have hcz94_2 : w92.cell? ⟨gb111, 2, none⟩ = some (.slice none 0 0) := (blk_cell BK111.out 2).trans rfl; have hfz94_0 := blk_frozen BK111.out 0; have hfz94_1 := blk_frozen BK111.out 1; have hfz94_2 := blk_frozen BK111.out 2))
                      refine bodyPost_ret (results_ct rfl _ _ gb111 32 #[.bool true, .bool true, .slice Ao93 y135.length co93] (0, 0) _ rfl (by (with_reducible repeat (first | refine blk_drewN ?_ _ | refine blk_drew ?_ | refine blk_alloc ?_ _)); refine blk_put (cs := #[.bool true, .bool true, .slice none 0 0]) ?_ 2 _ rfl; (with_reducible repeat (first | refine blk_drewN ?_ _ | refine blk_drew ?_ | refine blk_alloc ?_ _)); refine blk_put (cs := #[.bool true, .bool false, .slice none 0 0]) ?_ 1 _ rfl; (with_reducible repeat (first | refine blk_drewN ?_ _ | refine blk_drew ?_ | refine blk_alloc ?_ _)); refine blk_put (cs := #[.bool false, .bool false, .slice none 0 0]) ?_ 0 _ rfl; (with_reducible repeat (first | refine blk_drewN ?_ _ | refine blk_drew ?_ | refine blk_alloc ?_ _)); exact BK111.out) Tryd.underlying32 rfl (by kernel_rfl)) rfl ?_
                      exact ⟨_, by first | rfl | (simp [errW_none, errW_some] <;> rfl) | (simp [*, errW_none, errW_some] <;> rfl), by (with_reducible repeat (first | apply Kd.R_alloc | apply Kd.R_drewN | apply Kd.R_drew)); exact Kd.R_mono (Kd.R_far (p := ⟨gb111, 2, none⟩) (Kd.R_far (p := ⟨gb111, 1, none⟩) (Kd.R_far (p := ⟨gb111, 0, none⟩) (Kd.R_types HO137.out BK111.out (by decide)) (fun _ hk => hk.2) (.bool true)) (fun _ hk => hk.2) (.bool true)) (fun _ hk => hk.2) (.slice Ao93 y135.length co93)) (fun _ hk => trivial), by repeat (first | (with_reducible first | exact HB.out | apply below_alloc | apply pw_below_drewN | apply below_drew1 | refine below_set ?_ GE110.out | refine below_set ?_ GE111.out) | exact HB.out)⟩
                    · rw [if_neg c85] at H
                      exact absurd H (by simp)
                  · rw [if_neg c84] at H
                    have c84b0 : ((t132.length : Int) == 0) = false := beq_eq_false_iff_ne.mpr c84
                    have c84b1 : ((t132.length : Int) != 0) = true := bne_iff_ne.mpr c84
                    have c84b2 : ¬ (t132 = []) := fun h_ => c84 (by rw [h_]; rfl)
                    obtain ⟨ji95, hji95⟩ : ∃ j_ : Int, (wrap64 ((t132.length : Int) - 1)) = j_ := ⟨_, rfl⟩
                    replace H : (if 0 ≤ (ji95) then (if (ji95) < (t132.length : Int) then (if (rd t132 (ji95)) = 10 then (some (true, true, t132, 0)) else (if t132.length < 140737488355328 then (some (true, true, (t132 ++ [10]), 0)) else (none))) else (none)) else (none)) = some (r1, r2, r3, r4) := by first | (rw [hji95] at H; exact H) | (simp only [hji95] at H ⊢; exact H)
                    (try rw [hji95] at A83)
                    have hji95w : (IntKind.i64.wrap ((t132.length : Int) - 1)) = ji95 := (i64_w _).trans hji95
                    by_cases c96 : 0 ≤ (ji95)
                    · rw [if_pos c96] at H
                      have c96b0 : decide (0 ≤ (ji95)) = true := decide_eq_true c96
                      clear c96
                      by_cases c97 : (ji95) < (t132.length : Int)
                      · rw [if_pos c97] at H
                        have c97b0 : decide ((ji95) < (t132.length : Int)) = true := decide_eq_true c97
                        clear c97
                        by_cases c98 : (rd t132 (ji95)) = 10
                        · rw [if_pos c98] at H
                          have c98b0 : ((rd t132 (ji95)) == 10) = true := beq_iff_eq.mpr c98
                          have c98b1 : ((rd t132 (ji95)) != 10) = false := bne_eq_false_iff_eq.mpr c98
                          clear c98
                          simp only [Option.some.injEq, Prod.mk.injEq] at H
                          obtain ⟨rfl, rfl, rfl, rfl⟩ := H
                          have hnb99 := NB110_111.out
                          have hnc99 := NB111_110.out
                          have hcz100_0 : wc.cell? ⟨gb110, 0, none⟩ = some (.int .i64 a1_0) := (blk_cell BK110.out 0).trans rfl
                          have hcz100_1 : wc.cell? ⟨gb110, 1, none⟩ = some (.int .i64 a1_1) := (blk_cell BK110.out 1).trans rfl
                          have hcz100_2 : wc.cell? ⟨gb110, 2, none⟩ = some (.bool true) := (blk_cell BK110.out 2).trans rfl
                          have hcz100_3 : wc.cell? ⟨gb110, 3, none⟩ = some (.bool false) := (blk_cell BK110.out 3).trans rfl
                          have hfz100_0 := blk_frozen BK110.out 0
                          have hfz100_1 := blk_frozen BK110.out 1
                          have hfz100_2 := blk_frozen BK110.out 2
                          have hfz100_3 := blk_frozen BK110.out 3
                          obtain ⟨i0101, hi0101, _, hsz101, _⟩ := info_parts info5
                          obtain ⟨A101, hcut101, hA101, hC101⟩ := print_mid_of (P := Tryd.prog) (Value.int .u8) 0 22 5 .i64 .i64 Tryd.underlying22 hi0101 hsz101 A0 c0 l0 a1_0 a1_1 (of_decide_eq_true (by first | (with_reducible assumption) | assumption)) (by first | omega | exact of_decide_eq_true (by first | (with_reducible assumption) | assumption)) (of_decide_eq_true (by first | (with_reducible assumption) | assumption)) HC0.out
                          try have hle101 := Aside0.mk (show ((l0.take (a1_1 : Int).toNat).drop (a1_0 : Int).toNat).length = (a1_1.toNat - a1_0.toNat) from (by rw [List.length_drop, List.length_take]; have h_ : (a1_1 : Int) ≤ (l0.length : Int) := of_decide_eq_true (by first | (with_reducible assumption) | assumption); omega))
                          have HR116 := Aside0.mk (Kd.C_of_reads (h1 := fun _ => rfl) (hA101 _ (Kd.reads_of_C HR0.out)))
                          have HC116 := Aside0.mk hC101
                          clear hA101 hC101 hi0101 hsz101
                          go_wp2_with (first | ((with_reducible refine gate_callee (f := 12) rfl ?_); refine goesL_ (some 71) rfl rfl Tryd.func12 (by kernel_rfl) rfl #[.slice A101 ((l0.take (a1_1 : Int).toNat).drop (a1_0 : Int).toNat).length (c0 - a1_0.toNat)] rfl (by (try simp only [List.map_toArray, List.map_cons, List.map_nil]); first | done | (rw [show ((l0.take (a1_1 : Int).toNat).drop (a1_0 : Int).toNat).length = (a1_1.toNat - a1_0.toNat) from (by rw [List.length_drop, List.length_take]; have h_ : (a1_1 : Int) ≤ (l0.length : Int) := of_decide_eq_true (by first | (with_reducible assumption) | assumption); omega)] <;> rfl) | rfl | (simp only [List.length_drop, List.length_take]; rfl)) ?_; (with_reducible refine (slices_Clone_byte_byte.calls _ _ ((l0.take (a1_1 : Int).toNat).drop (a1_0 : Int).toNat) t132 _ ?side1 ?side2 A83.out).mono ?_); (case side1 => repeat (first | exact (Kd.C_below HR116.out HB.out) | (with_reducible refine Kd.C_alloc ?_ _) | (with_reducible refine Kd.C_drewN ?_ _) | (with_reducible refine Kd.C_drew ?_))); (case side2 => exact HC116.out); rintro e w102 ⟨v133, rfl, ho0, hb⟩; refine ⟨_, rfl, ?_⟩; have n0_ := Aside0.mk (Kd.R_lower ho0 (below_size (by repeat (first | (with_reducible first | exact HB.out | apply below_alloc | apply pw_below_drewN | apply below_drew1 | refine below_set ?_ GE110.out | refine below_set ?_ GE111.out) | exact HB.out)))); have n1_ := Aside0.mk (blk_below (g := gb110) (o := .cells #[.int .i64 a1_0, .int .i64 a1_1, .bool true, .bool false] 27 (0, 0)) (by (with_reducible repeat (first | refine blk_drewN ?_ _ | refine blk_drew ?_ | refine blk_alloc ?_ _)); exact BK110.out) hb); have n2_ := Aside0.mk (blk_below (g := gb111) (o := .cells #[.bool false, .bool false, .slice none 0 0] 32 (0, 0)) (by (with_reducible repeat (first | refine blk_drewN ?_ _ | refine blk_drew ?_ | refine blk_alloc ?_ _)); exact BK111.out) hb); have n3_ := Aside0.mk (below_step (by repeat (first | (with_reducible first | exact HB.out | apply below_alloc | apply pw_below_drewN | apply below_drew1 | refine below_set ?_ GE110.out | refine below_set ?_ GE111.out) | exact HB.out)) hb); clear BK110; clear BK111; clear HB; have HO134 := n0_; have BK110 := n1_; have BK111 := n2_; have HB := n3_; clear n0_ n1_ n2_ n3_; (try clear hb); (try clear hb2); (try clear hk); (try clear hi); (try clear ho0); have hcz103_0 : w102.cell? ⟨gb110, 0, none⟩ = some (.int .i64 a1_0) := (blk_cell BK110.out 0).trans rfl; have hcz103_1 : w102.cell? ⟨gb110, 1, none⟩ = some (.int .i64 a1_1) := (blk_cell BK110.out 1).trans rfl; have hcz103_2 : w102.cell? ⟨gb110, 2, none⟩ = some (.bool true) := (blk_cell BK110.out 2).trans rfl; have hcz103_3 : w102.cell? ⟨gb110, 3, none⟩ = some (.bool false) := (blk_cell BK110.out 3).trans rfl; have hfz103_0 := blk_frozen BK110.out 0; have hfz103_1 := blk_frozen BK110.out 1; have hfz103_2 := blk_frozen BK110.out 2; have hfz103_3 := blk_frozen BK110.out 3; obtain ⟨Ao104, co104, eo104⟩ := Kd.R_slice HO134.out; subst eo104; have p138 : 0 ≤ ((ji95) : Int) := of_decide_eq_true (by first | (with_reducible assumption) | assumption); have q138 : (ji95) < (t132.length : Int) := of_decide_eq_true (by first | (with_reducible assumption) | assumption); obtain ⟨ad138, e138, hx138_0⟩ := Kd.at_int (Kd.R_reads' HO134.out).2.2 (ji95) p138 q138; cases e138; replace p138 := eq_true p138; replace q138 := eq_true q138; have hcz105_0 : w102.cell? ⟨gb111, 0, none⟩ = some (.bool false) := (blk_cell BK111.out 0).trans rfl; have hcz105_1 : w102.cell? ⟨gb111, 1, none⟩ = some (.bool false) := (blk_cell BK111.out 1).trans rfl; have hcz105_2 : w102.cell? ⟨gb111, 2, none⟩ = some (.slice none 0 0) := (blk_cell BK111.out 2).trans rfl; have hfz105_0 := blk_frozen BK111.out 0; have hfz105_1 := blk_frozen BK111.out 1; have hfz105_2 := blk_frozen BK111.out 2))
                          refine bodyPost_ret (results_ct rfl _ _ gb111 32 #[.bool true, .bool true, .slice (some ad138) t132.length co104] (0, 0) _ rfl (by (with_reducible repeat (first | refine blk_drewN ?_ _ | refine blk_drew ?_ | refine blk_alloc ?_ _)); refine blk_put (cs := #[.bool true, .bool true, .slice none 0 0]) ?_ 2 _ rfl; (with_reducible repeat (first | refine blk_drewN ?_ _ | refine blk_drew ?_ | refine blk_alloc ?_ _)); refine blk_put (cs := #[.bool true, .bool false, .slice none 0 0]) ?_ 1 _ rfl; (with_reducible repeat (first | refine blk_drewN ?_ _ | refine blk_drew ?_ | refine blk_alloc ?_ _)); refine blk_put (cs := #[.bool false, .bool false, .slice none 0 0]) ?_ 0 _ rfl; (with_reducible repeat (first | refine blk_drewN ?_ _ | refine blk_drew ?_ | refine blk_alloc ?_ _)); exact BK111.out) Tryd.underlying32 rfl (by kernel_rfl)) rfl ?_
                          exact ⟨_, by first | rfl | (simp [errW_none, errW_some] <;> rfl) | (simp only [← hji95]; first | rfl | (simp [errW_none, errW_some] <;> rfl)) | (simp [*, errW_none, errW_some] <;> rfl), by (with_reducible repeat (first | apply Kd.R_alloc | apply Kd.R_drewN | apply Kd.R_drew)); exact Kd.R_mono (Kd.R_far (p := ⟨gb111, 2, none⟩) (Kd.R_far (p := ⟨gb111, 1, none⟩) (Kd.R_far (p := ⟨gb111, 0, none⟩) (Kd.R_types HO134.out BK111.out (by decide)) (fun _ hk => hk.2) (.bool true)) (fun _ hk => hk.2) (.bool true)) (fun _ hk => hk.2) (.slice (some ad138) t132.length co104)) (fun _ hk => trivial), by repeat (first | (with_reducible first | exact HB.out | apply below_alloc | apply pw_below_drewN | apply below_drew1 | refine below_set ?_ GE110.out | refine below_set ?_ GE111.out) | exact HB.out)⟩
                        · rw [if_neg c98] at H
                          have c98b0 : ((rd t132 (ji95)) == 10) = false := beq_eq_false_iff_ne.mpr c98
                          have c98b1 : ((rd t132 (ji95)) != 10) = true := bne_iff_ne.mpr c98
                          by_cases c106 : t132.length < 140737488355328
                          · rw [if_pos c106] at H
                            have LMc106 := Aside0.mk c106
                            clear c106
                            obtain ⟨y139, hy139⟩ : ∃ y_ : List Int, y_ = (t132 ++ [10]) := ⟨_, rfl⟩
                            replace H : (some (true, true, y139, 0)) = some (r1, r2, r3, r4) := by first | (rw [hy139]; with_reducible exact H) | (have H2_ := (Option.bind_some _ _).symm.trans H; rw [hy139]; with_reducible exact H2_) | (have H2_ := (Option.bind_some _ _).symm.trans H; with_reducible exact H2_) | with_reducible exact H | (rw [hy139]; exact H) | exact H
                            have Ny139 := Aside0.mk hy139
                            clear hy139
                            simp only [Option.some.injEq, Prod.mk.injEq] at H
                            obtain ⟨rfl, rfl, rfl, rfl⟩ := H
                            have hnb107 := NB110_111.out
                            have hnc107 := NB111_110.out
                            have hcz108_0 : wc.cell? ⟨gb110, 0, none⟩ = some (.int .i64 a1_0) := (blk_cell BK110.out 0).trans rfl
                            have hcz108_1 : wc.cell? ⟨gb110, 1, none⟩ = some (.int .i64 a1_1) := (blk_cell BK110.out 1).trans rfl
                            have hcz108_2 : wc.cell? ⟨gb110, 2, none⟩ = some (.bool true) := (blk_cell BK110.out 2).trans rfl
                            have hcz108_3 : wc.cell? ⟨gb110, 3, none⟩ = some (.bool false) := (blk_cell BK110.out 3).trans rfl
                            have hfz108_0 := blk_frozen BK110.out 0
                            have hfz108_1 := blk_frozen BK110.out 1
                            have hfz108_2 := blk_frozen BK110.out 2
                            have hfz108_3 := blk_frozen BK110.out 3
                            obtain ⟨i0109, hi0109, _, hsz109, _⟩ := info_parts info5
                            obtain ⟨A109, hcut109, hA109, hC109⟩ := print_mid_of (P := Tryd.prog) (Value.int .u8) 0 22 5 .i64 .i64 Tryd.underlying22 hi0109 hsz109 A0 c0 l0 a1_0 a1_1 (of_decide_eq_true (by first | (with_reducible assumption) | assumption)) (by first | omega | exact of_decide_eq_true (by first | (with_reducible assumption) | assumption)) (of_decide_eq_true (by first | (with_reducible assumption) | assumption)) HC0.out
                            try have hle109 := Aside0.mk (show ((l0.take (a1_1 : Int).toNat).drop (a1_0 : Int).toNat).length = (a1_1.toNat - a1_0.toNat) from (by rw [List.length_drop, List.length_take]; have h_ : (a1_1 : Int) ≤ (l0.length : Int) := of_decide_eq_true (by first | (with_reducible assumption) | assumption); omega))
                            have HR116 := Aside0.mk (Kd.C_of_reads (h1 := fun _ => rfl) (hA109 _ (Kd.reads_of_C HR0.out)))
                            have HC116 := Aside0.mk hC109
                            clear hA109 hC109 hi0109 hsz109
                            go_wp2_with (first | ((with_reducible refine gate_callee (f := 12) rfl ?_); refine goesL_ (some 71) rfl rfl Tryd.func12 (by kernel_rfl) rfl #[.slice A109 ((l0.take (a1_1 : Int).toNat).drop (a1_0 : Int).toNat).length (c0 - a1_0.toNat)] rfl (by (try simp only [List.map_toArray, List.map_cons, List.map_nil]); first | done | (rw [show ((l0.take (a1_1 : Int).toNat).drop (a1_0 : Int).toNat).length = (a1_1.toNat - a1_0.toNat) from (by rw [List.length_drop, List.length_take]; have h_ : (a1_1 : Int) ≤ (l0.length : Int) := of_decide_eq_true (by first | (with_reducible assumption) | assumption); omega)] <;> rfl) | rfl | (simp only [List.length_drop, List.length_take]; rfl)) ?_; (with_reducible refine (slices_Clone_byte_byte.calls _ _ ((l0.take (a1_1 : Int).toNat).drop (a1_0 : Int).toNat) t132 _ ?side1 ?side2 A83.out).mono ?_); (case side1 => repeat (first | exact (Kd.C_below HR116.out HB.out) | (with_reducible refine Kd.C_alloc ?_ _) | (with_reducible refine Kd.C_drewN ?_ _) | (with_reducible refine Kd.C_drew ?_))); (case side2 => exact HC116.out); rintro e w110 ⟨v133, rfl, ho0, hb⟩; refine ⟨_, rfl, ?_⟩; have n0_ := Aside0.mk (Kd.R_lower ho0 (below_size (by repeat (first | (with_reducible first | exact HB.out | apply below_alloc | apply pw_below_drewN | apply below_drew1 | refine below_set ?_ GE110.out | refine below_set ?_ GE111.out) | exact HB.out)))); have n1_ := Aside0.mk (blk_below (g := gb110) (o := .cells #[.int .i64 a1_0, .int .i64 a1_1, .bool true, .bool false] 27 (0, 0)) (by (with_reducible repeat (first | refine blk_drewN ?_ _ | refine blk_drew ?_ | refine blk_alloc ?_ _)); exact BK110.out) hb); have n2_ := Aside0.mk (blk_below (g := gb111) (o := .cells #[.bool false, .bool false, .slice none 0 0] 32 (0, 0)) (by (with_reducible repeat (first | refine blk_drewN ?_ _ | refine blk_drew ?_ | refine blk_alloc ?_ _)); exact BK111.out) hb); have n3_ := Aside0.mk (below_step (by repeat (first | (with_reducible first | exact HB.out | apply below_alloc | apply pw_below_drewN | apply below_drew1 | refine below_set ?_ GE110.out | refine below_set ?_ GE111.out) | exact HB.out)) hb); clear BK110; clear BK111; clear HB; have HO134 := n0_; have BK110 := n1_; have BK111 := n2_; have HB := n3_; clear n0_ n1_ n2_ n3_; (try clear hb); (try clear hb2); (try clear hk); (try clear hi); (try clear ho0); have hcz111_0 : w110.cell? ⟨gb110, 0, none⟩ = some (.int .i64 a1_0) := (blk_cell BK110.out 0).trans rfl; have hcz111_1 : w110.cell? ⟨gb110, 1, none⟩ = some (.int .i64 a1_1) := (blk_cell BK110.out 1).trans rfl; have hcz111_2 : w110.cell? ⟨gb110, 2, none⟩ = some (.bool true) := (blk_cell BK110.out 2).trans rfl; have hcz111_3 : w110.cell? ⟨gb110, 3, none⟩ = some (.bool false) := (blk_cell BK110.out 3).trans rfl; have hfz111_0 := blk_frozen BK110.out 0; have hfz111_1 := blk_frozen BK110.out 1; have hfz111_2 := blk_frozen BK110.out 2; have hfz111_3 := blk_frozen BK110.out 3; obtain ⟨Ao112, co112, eo112⟩ := Kd.R_slice HO134.out; subst eo112; have p138 : 0 ≤ ((ji95) : Int) := of_decide_eq_true (by first | (with_reducible assumption) | assumption); have q138 : (ji95) < (t132.length : Int) := of_decide_eq_true (by first | (with_reducible assumption) | assumption); obtain ⟨ad138, e138, hx138_0⟩ := Kd.at_int (Kd.R_reads' HO134.out).2.2 (ji95) p138 q138; cases e138; replace p138 := eq_true p138; replace q138 := eq_true q138) | ((with_reducible refine gate_builtin (b := .append) (xs := #[.tmp 88, .tmp 89]) rfl ?_); (try (refine gate_guard (by rfl) ?_; dsimp only)); at_builtin; refine Kd.R_append (Kd.int .u8) (w0 := w) w.heap.size rfl (.tmp 88) (.tmp 89) 22 5 (.int .u8 0) 1 rfl Tryd.underlying22 info5 rfl (by decide) (by omega) (.slice (some ad138) t132.length co112) t132 10 [.int .u8 10] (fun _ => True) (fun _ => False) rfl rfl ?aP (fun _ hk => hk.elim) ?aF ?aO ?aB ?aS ?aL ?_; (case aP => exact rfl); (case aB => exact (by repeat (first | (with_reducible first | exact HB.out | apply below_alloc | apply pw_below_drewN | apply below_drew1 | refine below_set ?_ GE110.out | refine below_set ?_ GE111.out) | exact HB.out))); (case aF => exact (fun _ _ => trivial)); (case aO => exact (by (with_reducible repeat (first | apply Kd.R_alloc | apply Kd.R_drewN | apply Kd.R_drew)); exact HO134.out)); (case aS => exact (below_size (by repeat (first | (with_reducible first | exact HB.out | apply below_alloc | apply pw_below_drewN | apply below_drew1 | refine below_set ?_ GE110.out | refine below_set ?_ GE111.out) | exact HB.out)))); (case aL => have := LMc106.out; omega); intro v140 w113 ho hb hg hat; rw [← Ny139.out] at ho; have n0_ := Aside0.mk (blk_grown (g := gb110) (o := .cells #[.int .i64 a1_0, .int .i64 a1_1, .bool true, .bool false] 27 (0, 0)) (by (with_reducible repeat (first | refine blk_drewN ?_ _ | refine blk_drew ?_ | refine blk_alloc ?_ _)); exact BK110.out) hg (Kd.R_ne HO134.out BK110.out (by decide))); have n1_ := Aside0.mk (blk_grown (g := gb111) (o := .cells #[.bool false, .bool false, .slice none 0 0] 32 (0, 0)) (by (with_reducible repeat (first | refine blk_drewN ?_ _ | refine blk_drew ?_ | refine blk_alloc ?_ _)); exact BK111.out) hg (Kd.R_ne HO134.out BK111.out (by decide))); have n2_ := Aside0.mk (hb); have n3_ := Aside0.mk (ho); clear BK110; clear BK111; clear HB; clear HO134; have BK110 := n0_; have BK111 := n1_; have HB := n2_; have HO141 := n3_; clear n0_ n1_ n2_ n3_; clear ho hb hg hat; obtain ⟨Ao114, co114, eo114⟩ := Kd.R_slice HO141.out; subst eo114; have hcz115_0 : w113.cell? ⟨gb111, 0, none⟩ = some (.bool false) := (blk_cell BK111.out 0).trans rfl; have hcz115_1 : w113.cell? ⟨gb111, 1, none⟩ = some (.bool false) := (blk_cell BK111.out 1).trans rfl; have hcz115_2 : w113.cell? ⟨gb111, 2, none⟩ = some (.slice none 0 0) := (blk_cell BK111.out 2).trans rfl; have hfz115_0 := blk_frozen BK111.out 0; have hfz115_1 := blk_frozen BK111.out 1; have hfz115_2 := blk_frozen BK111.out 2))
                            refine bodyPost_ret (results_ct rfl _ _ gb111 32 #[.bool true, .bool true, .slice Ao114 y139.length co114] (0, 0) _ rfl (by (with_reducible repeat (first | refine blk_drewN ?_ _ | refine blk_drew ?_ | refine blk_alloc ?_ _)); refine blk_put (cs := #[.bool true, .bool true, .slice none 0 0]) ?_ 2 _ rfl; (with_reducible repeat (first | refine blk_drewN ?_ _ | refine blk_drew ?_ | refine blk_alloc ?_ _)); refine blk_put (cs := #[.bool true, .bool false, .slice none 0 0]) ?_ 1 _ rfl; (with_reducible repeat (first | refine blk_drewN ?_ _ | refine blk_drew ?_ | refine blk_alloc ?_ _)); refine blk_put (cs := #[.bool false, .bool false, .slice none 0 0]) ?_ 0 _ rfl; (with_reducible repeat (first | refine blk_drewN ?_ _ | refine blk_drew ?_ | refine blk_alloc ?_ _)); exact BK111.out) Tryd.underlying32 rfl (by kernel_rfl)) rfl ?_
                            exact ⟨_, by first | rfl | (simp [errW_none, errW_some] <;> rfl) | (simp only [← hji95]; first | rfl | (simp [errW_none, errW_some] <;> rfl)) | (simp [*, errW_none, errW_some] <;> rfl), by (with_reducible repeat (first | apply Kd.R_alloc | apply Kd.R_drewN | apply Kd.R_drew)); exact Kd.R_mono (Kd.R_far (p := ⟨gb111, 2, none⟩) (Kd.R_far (p := ⟨gb111, 1, none⟩) (Kd.R_far (p := ⟨gb111, 0, none⟩) (Kd.R_types HO141.out BK111.out (by decide)) (fun _ hk => hk.2) (.bool true)) (fun _ hk => hk.2) (.bool true)) (fun _ hk => hk.2) (.slice Ao114 y139.length co114)) (fun _ hk => trivial), by repeat (first | (with_reducible first | exact HB.out | apply below_alloc | apply pw_below_drewN | apply below_drew1 | refine below_set ?_ GE110.out | refine below_set ?_ GE111.out) | exact HB.out)⟩
                          · rw [if_neg c106] at H
                            exact absurd H (by simp)
                      · rw [if_neg c97] at H
                        exact absurd H (by simp)
                    · rw [if_neg c96] at H
                      exact absurd H (by simp)
              · rw [if_neg c20] at H
                exact absurd H (by simp)
            · rw [if_neg c19] at H
              exact absurd H (by simp)
          · rw [if_neg c18] at H
            exact absurd H (by simp)
        · replace c17 := Bool.eq_false_iff.mpr c17
          subst c17
          have H1 : (if 0 ≤ a1_0 then (if a1_0 ≤ a1_1 then (if a1_1 ≤ (l0.length : Int) then ((slices_Clone_byte_byte.f ((l0.take (a1_1 : Int).toNat).drop (a1_0 : Int).toNat)).bind fun t113 => (some (true, false, t113, 0))) else (none)) else (none)) else (none)) = some (r1, r2, r3, r4) := by rw [if_neg (show ¬ (false = true) by decide)] at H; exact H
          clear H
          have H := H1
          clear H1
          by_cases c116 : 0 ≤ a1_0
          · rw [if_pos c116] at H
            have c116b0 := eq_true c116
            have c116b1 : decide (0 ≤ a1_0) = true := decide_eq_true c116
            clear c116
            by_cases c117 : a1_0 ≤ a1_1
            · rw [if_pos c117] at H
              have c117b0 := eq_true c117
              have c117b1 : decide (a1_0 ≤ a1_1) = true := decide_eq_true c117
              clear c117
              by_cases c118 : a1_1 ≤ (l0.length : Int)
              · rw [if_pos c118] at H
                have c118b0 := eq_true c118
                have c118b1 : decide (a1_1 ≤ (l0.length : Int)) = true := decide_eq_true c118
                clear c118
                replace H := Option.bind_eq_some_iff.mp H
                obtain ⟨t113, A1190, H⟩ := H
                replace H : (some (true, false, t113, 0)) = some (r1, r2, r3, r4) := H
                have A119 := Aside0.mk A1190
                clear A1190
                simp only [Option.some.injEq, Prod.mk.injEq] at H
                obtain ⟨rfl, rfl, rfl, rfl⟩ := H
                have hnb120 := NB110_111.out
                have hnc120 := NB111_110.out
                have hcz121_0 : wc.cell? ⟨gb110, 0, none⟩ = some (.int .i64 a1_0) := (blk_cell BK110.out 0).trans rfl
                have hcz121_1 : wc.cell? ⟨gb110, 1, none⟩ = some (.int .i64 a1_1) := (blk_cell BK110.out 1).trans rfl
                have hcz121_2 : wc.cell? ⟨gb110, 2, none⟩ = some (.bool false) := (blk_cell BK110.out 2).trans rfl
                have hcz121_3 : wc.cell? ⟨gb110, 3, none⟩ = some (.bool a1_3) := (blk_cell BK110.out 3).trans rfl
                have hfz121_0 := blk_frozen BK110.out 0
                have hfz121_1 := blk_frozen BK110.out 1
                have hfz121_2 := blk_frozen BK110.out 2
                have hfz121_3 := blk_frozen BK110.out 3
                obtain ⟨i0122, hi0122, _, hsz122, _⟩ := info_parts info5
                obtain ⟨A122, hcut122, hA122, hC122⟩ := print_mid_of (P := Tryd.prog) (Value.int .u8) 0 22 5 .i64 .i64 Tryd.underlying22 hi0122 hsz122 A0 c0 l0 a1_0 a1_1 (of_decide_eq_true (by first | (with_reducible assumption) | assumption)) (by first | omega | exact of_decide_eq_true (by first | (with_reducible assumption) | assumption)) (of_decide_eq_true (by first | (with_reducible assumption) | assumption)) HC0.out
                try have hle122 := Aside0.mk (show ((l0.take (a1_1 : Int).toNat).drop (a1_0 : Int).toNat).length = (a1_1.toNat - a1_0.toNat) from (by rw [List.length_drop, List.length_take]; have h_ : (a1_1 : Int) ≤ (l0.length : Int) := of_decide_eq_true (by first | (with_reducible assumption) | assumption); omega))
                have HR112 := Aside0.mk (Kd.C_of_reads (h1 := fun _ => rfl) (hA122 _ (Kd.reads_of_C HR0.out)))
                have HC112 := Aside0.mk hC122
                clear hA122 hC122 hi0122 hsz122
                go_wp2_with (first | ((with_reducible refine gate_callee (f := 12) rfl ?_); refine goesL_ (some 35) rfl rfl Tryd.func12 (by kernel_rfl) rfl #[.slice A122 ((l0.take (a1_1 : Int).toNat).drop (a1_0 : Int).toNat).length (c0 - a1_0.toNat)] rfl (by (try simp only [List.map_toArray, List.map_cons, List.map_nil]); first | done | (rw [show ((l0.take (a1_1 : Int).toNat).drop (a1_0 : Int).toNat).length = (a1_1.toNat - a1_0.toNat) from (by rw [List.length_drop, List.length_take]; have h_ : (a1_1 : Int) ≤ (l0.length : Int) := of_decide_eq_true (by first | (with_reducible assumption) | assumption); omega)] <;> rfl) | rfl | (simp only [List.length_drop, List.length_take]; rfl)) ?_; (with_reducible refine (slices_Clone_byte_byte.calls _ _ ((l0.take (a1_1 : Int).toNat).drop (a1_0 : Int).toNat) t113 _ ?side1 ?side2 A119.out).mono ?_); (case side1 => repeat (first | exact (Kd.C_below HR112.out HB.out) | (with_reducible refine Kd.C_alloc ?_ _) | (with_reducible refine Kd.C_drewN ?_ _) | (with_reducible refine Kd.C_drew ?_))); (case side2 => exact HC112.out); rintro e w123 ⟨v114, rfl, ho0, hb⟩; refine ⟨_, rfl, ?_⟩; have n0_ := Aside0.mk (Kd.R_lower ho0 (below_size (by repeat (first | (with_reducible first | exact HB.out | apply below_alloc | apply pw_below_drewN | apply below_drew1 | refine below_set ?_ GE110.out | refine below_set ?_ GE111.out) | exact HB.out)))); have n1_ := Aside0.mk (blk_below (g := gb110) (o := .cells #[.int .i64 a1_0, .int .i64 a1_1, .bool false, .bool a1_3] 27 (0, 0)) (by (with_reducible repeat (first | refine blk_drewN ?_ _ | refine blk_drew ?_ | refine blk_alloc ?_ _)); exact BK110.out) hb); have n2_ := Aside0.mk (blk_below (g := gb111) (o := .cells #[.bool false, .bool false, .slice none 0 0] 32 (0, 0)) (by (with_reducible repeat (first | refine blk_drewN ?_ _ | refine blk_drew ?_ | refine blk_alloc ?_ _)); exact BK111.out) hb); have n3_ := Aside0.mk (below_step (by repeat (first | (with_reducible first | exact HB.out | apply below_alloc | apply pw_below_drewN | apply below_drew1 | refine below_set ?_ GE110.out | refine below_set ?_ GE111.out) | exact HB.out)) hb); clear BK110; clear BK111; clear HB; have HO115 := n0_; have BK110 := n1_; have BK111 := n2_; have HB := n3_; clear n0_ n1_ n2_ n3_; (try clear hb); (try clear hb2); (try clear hk); (try clear hi); (try clear ho0); obtain ⟨Ao124, co124, eo124⟩ := Kd.R_slice HO115.out; subst eo124; have hcz125_0 : w123.cell? ⟨gb111, 0, none⟩ = some (.bool false) := (blk_cell BK111.out 0).trans rfl; have hcz125_1 : w123.cell? ⟨gb111, 1, none⟩ = some (.bool false) := (blk_cell BK111.out 1).trans rfl; have hcz125_2 : w123.cell? ⟨gb111, 2, none⟩ = some (.slice none 0 0) := (blk_cell BK111.out 2).trans rfl; have hfz125_0 := blk_frozen BK111.out 0; have hfz125_1 := blk_frozen BK111.out 1; have hfz125_2 := blk_frozen BK111.out 2))
                refine bodyPost_ret (results_ct rfl _ _ gb111 32 #[.bool true, .bool false, .slice Ao124 t113.length co124] (0, 0) _ rfl (by (with_reducible repeat (first | refine blk_drewN ?_ _ | refine blk_drew ?_ | refine blk_alloc ?_ _)); refine blk_put (cs := #[.bool true, .bool false, .slice none 0 0]) ?_ 2 _ rfl; (with_reducible repeat (first | refine blk_drewN ?_ _ | refine blk_drew ?_ | refine blk_alloc ?_ _)); refine blk_put (cs := #[.bool true, .bool false, .slice none 0 0]) ?_ 1 _ rfl; (with_reducible repeat (first | refine blk_drewN ?_ _ | refine blk_drew ?_ | refine blk_alloc ?_ _)); refine blk_put (cs := #[.bool false, .bool false, .slice none 0 0]) ?_ 0 _ rfl; (with_reducible repeat (first | refine blk_drewN ?_ _ | refine blk_drew ?_ | refine blk_alloc ?_ _)); exact BK111.out) Tryd.underlying32 rfl (by kernel_rfl)) rfl ?_
                exact ⟨_, by first | rfl | (simp [errW_none, errW_some] <;> rfl) | (simp [*, errW_none, errW_some] <;> rfl), by (with_reducible repeat (first | apply Kd.R_alloc | apply Kd.R_drewN | apply Kd.R_drew)); exact Kd.R_mono (Kd.R_far (p := ⟨gb111, 2, none⟩) (Kd.R_far (p := ⟨gb111, 1, none⟩) (Kd.R_far (p := ⟨gb111, 0, none⟩) (Kd.R_types HO115.out BK111.out (by decide)) (fun _ hk => hk.2) (.bool true)) (fun _ hk => hk.2) (.bool false)) (fun _ hk => hk.2) (.slice Ao124 t113.length co124)) (fun _ hk => trivial), by repeat (first | (with_reducible first | exact HB.out | apply below_alloc | apply pw_below_drewN | apply below_drew1 | refine below_set ?_ GE110.out | refine below_set ?_ GE111.out) | exact HB.out)⟩
              · rw [if_neg c118] at H
                exact absurd H (by simp)
            · rw [if_neg c117] at H
              exact absurd H (by simp)
          · rw [if_neg c116] at H
            exact absurd H (by simp)

end Go.Proofs.YtlcdnpecoaamcaaDoor.X
