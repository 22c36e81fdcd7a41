-- Written by wip/xprint.py over the kit's print.py: the Lean function of each Go function, and the proof that the Go text comes to it.
import Derived.Test.YtlcdnpecoaamcaaX0
namespace Go.Proofs.Ytlcdnpecoaamcaa.X
open Go.RowKit Go.Proofs.YtlcdnpecoaamcaaW.PrintWords Go.Proofs.YtlcdnpecoaamcaaW.PrintLast Go.Proofs.YtlcdnpecoaamcaaW.PrintMore
attribute [local go_sem] max2_int min2_int max_two min_two max_three min_three max_four min_four   -- for this text's walks alone
set_option linter.unusedVariables false
set_option linter.unusedSimpArgs false

/-! ### quoinref14_Take: function 12 -/
mutual
def quoinref14_Take.j0 : Nat → List Int → Bool → Int → Int → Bool → Bool → Option (Bool × Bool × List Int × Int)
  | 0, _, _, _, _, _, _ => none
  | k + 1, x0, x25, x266000, x266001, x266002, x266003 => if x25 = true then (some (false, false, ([] : List Int), 2)) else (if x266002 = true then (if x266003 = true then (if x266000 = (x0.length : Int) then (quoinref14_Take.j1 k x0 true x266000 x266001 x266002 x266003) else (if 0 ≤ x266000 then (if x266000 < (x0.length : Int) then (quoinref14_Take.j1 k x0 ((rd x0 x266000) != 10) x266000 x266001 x266002 x266003) else (none)) else (none))) else (quoinref14_Take.j1 k x0 false x266000 x266001 x266002 x266003)) else (quoinref14_Take.j1 k x0 false x266000 x266001 x266002 x266003))
def quoinref14_Take.j1 : Nat → List Int → Bool → Int → Int → Bool → Bool → Option (Bool × Bool × List Int × Int)
  | 0, _, _, _, _, _, _ => none
  | k + 1, x0, x47, x266000, x266001, x266002, x266003 => if x47 = true then (some (false, false, ([] : List Int), 2)) else (if x266002 = true then (quoinref14_Take.j2 k x0 x266000 x266003 x266000 x266001 x266002 x266003) else (quoinref14_Take.j2 k x0 x266000 false x266000 x266001 x266002 x266003))
def quoinref14_Take.j2 : Nat → List Int → Int → Bool → Int → Int → Bool → Bool → Option (Bool × Bool × List Int × Int)
  | 0, _, _, _, _, _, _, _ => none
  | k + 1, x0, x6, x56, x266000, x266001, x266002, x266003 => if x56 = true then (quoinref14_Take.j3 k x0 (wrap64 (x6 + 1)) x266000 x266001 x266002 x266003) else (quoinref14_Take.j3 k x0 x6 x266000 x266001 x266002 x266003)
def quoinref14_Take.j3 : Nat → List Int → Int → Int → Int → Bool → Bool → Option (Bool × Bool × List Int × Int)
  | 0, _, _, _, _, _, _ => none
  | k + 1, x0, x6, x266000, x266001, x266002, x266003 => quoinref14_Take.l0 k x0 (([] : List Int)) x6 x266000 x266001 x266002 x266003
def quoinref14_Take.l0 : Nat → List Int → List Int → Int → Int → Int → Bool → Bool → Option (Bool × Bool × List Int × Int)
  | 0, _, _, _, _, _, _, _ => none
  | k + 1, x0, x7, x8, x266000, x266001, x266002, x266003 => if x8 < x266001 then (if 0 ≤ x8 then (if x8 < (x0.length : Int) then (if x7.length < 140737488355328 then (quoinref14_Take.l0 k x0 (x7 ++ [rd x0 x8]) (wrap64 (x8 + 1)) x266000 x266001 x266002 x266003) else (none)) else (none)) else (none)) else (if x266002 = true then (if x266003 = true then (if x7.length < 140737488355328 then (some (true, x266002, (x7 ++ [10]), 0)) else (none)) else (if (x7.length : Int) = 0 then (if x7.length < 140737488355328 then (some (true, x266002, (x7 ++ [10]), 0)) else (none)) else (if 0 ≤ (wrap64 ((x7.length : Int) - 1)) then (if (wrap64 ((x7.length : Int) - 1)) < (x7.length : Int) then (if (rd x7 (wrap64 ((x7.length : Int) - 1))) = 10 then (some (true, x266002, x7, 0)) else (if x7.length < 140737488355328 then (some (true, x266002, (x7 ++ [10]), 0)) else (none))) else (none)) else (none)))) else (some (true, x266002, x7, 0)))
end
def quoinref14_Take.f (k : Nat) (l0 : List Int) (a1_0 : Int) (a1_1 : Int) (a1_2 : Bool) (a1_3 : Bool) : Option (Bool × Bool × List Int × Int) := if a1_0 < 0 then (quoinref14_Take.j0 k l0 true a1_0 a1_1 a1_2 a1_3) else (if a1_0 > a1_1 then (quoinref14_Take.j0 k l0 true a1_0 a1_1 a1_2 a1_3) else (quoinref14_Take.j0 k l0 (decide (a1_1 > (l0.length : Int))) a1_0 a1_1 a1_2 a1_3))
theorem quoinref14_Take.mono_l : ∀ k, (∀ y0 y1 y2 y3 y4 y5, LeO (quoinref14_Take.j0 k y0 y1 y2 y3 y4 y5) (quoinref14_Take.j0 (k + 1) y0 y1 y2 y3 y4 y5)) ∧ (∀ y0 y1 y2 y3 y4 y5, LeO (quoinref14_Take.j1 k y0 y1 y2 y3 y4 y5) (quoinref14_Take.j1 (k + 1) y0 y1 y2 y3 y4 y5)) ∧ (∀ y0 y1 y2 y3 y4 y5 y6, LeO (quoinref14_Take.j2 k y0 y1 y2 y3 y4 y5 y6) (quoinref14_Take.j2 (k + 1) y0 y1 y2 y3 y4 y5 y6)) ∧ (∀ y0 y1 y2 y3 y4 y5, LeO (quoinref14_Take.j3 k y0 y1 y2 y3 y4 y5) (quoinref14_Take.j3 (k + 1) y0 y1 y2 y3 y4 y5)) ∧ (∀ y0 y1 y2 y3 y4 y5 y6, LeO (quoinref14_Take.l0 k y0 y1 y2 y3 y4 y5 y6) (quoinref14_Take.l0 (k + 1) y0 y1 y2 y3 y4 y5 y6))
  | 0 => ⟨fun _ _ _ _ _ _ r h => by simp [quoinref14_Take.j0] at h, fun _ _ _ _ _ _ r h => by simp [quoinref14_Take.j1] at h, fun _ _ _ _ _ _ _ r h => by simp [quoinref14_Take.j2] at h, fun _ _ _ _ _ _ r h => by simp [quoinref14_Take.j3] at h, fun _ _ _ _ _ _ _ r h => by simp [quoinref14_Take.l0] at h⟩
  | k + 1 => by
    obtain ⟨ih0, ih1, ih2, ih3, ih4⟩ := quoinref14_Take.mono_l k
    refine ⟨?_, ?_, ?_, ?_, ?_⟩
    · intro y0 y1 y2 y3 y4 y5
      unfold quoinref14_Take.j0
      repeat' first
      | (with_reducible exact ih0 _ _ _ _ _ _)
      | (with_reducible exact ih1 _ _ _ _ _ _)
      | (with_reducible exact ih2 _ _ _ _ _ _ _)
      | (with_reducible exact ih3 _ _ _ _ _ _)
      | (with_reducible exact ih4 _ _ _ _ _ _ _)
      | (with_reducible exact LeO.refl _)
      | (with_reducible exact LeO.none _)
      | (with_reducible refine LeO.ite ?_ ?_)
      | (with_reducible refine LeO.bind ?_ (fun _ => ?_))
      | exact ih0 _ _ _ _ _ _
      | exact ih1 _ _ _ _ _ _
      | exact ih2 _ _ _ _ _ _ _
      | exact ih3 _ _ _ _ _ _
      | exact ih4 _ _ _ _ _ _ _
      | exact LeO.none _
      | refine LeO.ite ?_ ?_
      | refine LeO.bind ?_ (fun _ => ?_)
    · intro y0 y1 y2 y3 y4 y5
      unfold quoinref14_Take.j1
      repeat' first
      | (with_reducible exact ih0 _ _ _ _ _ _)
      | (with_reducible exact ih1 _ _ _ _ _ _)
      | (with_reducible exact ih2 _ _ _ _ _ _ _)
      | (with_reducible exact ih3 _ _ _ _ _ _)
      | (with_reducible exact ih4 _ _ _ _ _ _ _)
      | (with_reducible exact LeO.refl _)
      | (with_reducible exact LeO.none _)
      | (with_reducible refine LeO.ite ?_ ?_)
      | (with_reducible refine LeO.bind ?_ (fun _ => ?_))
      | exact ih0 _ _ _ _ _ _
      | exact ih1 _ _ _ _ _ _
      | exact ih2 _ _ _ _ _ _ _
      | exact ih3 _ _ _ _ _ _
      | exact ih4 _ _ _ _ _ _ _
      | exact LeO.none _
      | refine LeO.ite ?_ ?_
      | refine LeO.bind ?_ (fun _ => ?_)
    · intro y0 y1 y2 y3 y4 y5 y6
      unfold quoinref14_Take.j2
      repeat' first
      | (with_reducible exact ih0 _ _ _ _ _ _)
      | (with_reducible exact ih1 _ _ _ _ _ _)
      | (with_reducible exact ih2 _ _ _ _ _ _ _)
      | (with_reducible exact ih3 _ _ _ _ _ _)
      | (with_reducible exact ih4 _ _ _ _ _ _ _)
      | (with_reducible exact LeO.refl _)
      | (with_reducible exact LeO.none _)
      | (with_reducible refine LeO.ite ?_ ?_)
      | (with_reducible refine LeO.bind ?_ (fun _ => ?_))
      | exact ih0 _ _ _ _ _ _
      | exact ih1 _ _ _ _ _ _
      | exact ih2 _ _ _ _ _ _ _
      | exact ih3 _ _ _ _ _ _
      | exact ih4 _ _ _ _ _ _ _
      | exact LeO.none _
      | refine LeO.ite ?_ ?_
      | refine LeO.bind ?_ (fun _ => ?_)
    · intro y0 y1 y2 y3 y4 y5
      unfold quoinref14_Take.j3
      repeat' first
      | (with_reducible exact ih0 _ _ _ _ _ _)
      | (with_reducible exact ih1 _ _ _ _ _ _)
      | (with_reducible exact ih2 _ _ _ _ _ _ _)
      | (with_reducible exact ih3 _ _ _ _ _ _)
      | (with_reducible exact ih4 _ _ _ _ _ _ _)
      | (with_reducible exact LeO.refl _)
      | (with_reducible exact LeO.none _)
      | (with_reducible refine LeO.ite ?_ ?_)
      | (with_reducible refine LeO.bind ?_ (fun _ => ?_))
      | exact ih0 _ _ _ _ _ _
      | exact ih1 _ _ _ _ _ _
      | exact ih2 _ _ _ _ _ _ _
      | exact ih3 _ _ _ _ _ _
      | exact ih4 _ _ _ _ _ _ _
      | exact LeO.none _
      | refine LeO.ite ?_ ?_
      | refine LeO.bind ?_ (fun _ => ?_)
    · intro y0 y1 y2 y3 y4 y5 y6
      unfold quoinref14_Take.l0
      repeat' first
      | (with_reducible exact ih0 _ _ _ _ _ _)
      | (with_reducible exact ih1 _ _ _ _ _ _)
      | (with_reducible exact ih2 _ _ _ _ _ _ _)
      | (with_reducible exact ih3 _ _ _ _ _ _)
      | (with_reducible exact ih4 _ _ _ _ _ _ _)
      | (with_reducible exact LeO.refl _)
      | (with_reducible exact LeO.none _)
      | (with_reducible refine LeO.ite ?_ ?_)
      | (with_reducible refine LeO.bind ?_ (fun _ => ?_))
      | exact ih0 _ _ _ _ _ _
      | exact ih1 _ _ _ _ _ _
      | exact ih2 _ _ _ _ _ _ _
      | exact ih3 _ _ _ _ _ _
      | exact ih4 _ _ _ _ _ _ _
      | exact LeO.none _
      | refine LeO.ite ?_ ?_
      | refine LeO.bind ?_ (fun _ => ?_)
theorem quoinref14_Take.mono : ∀ a0 a1 a2 a3 a4 k, LeO (quoinref14_Take.f k a0 a1 a2 a3 a4) (quoinref14_Take.f (k + 1) a0 a1 a2 a3 a4) := by
  intro a0 a1 a2 a3 a4 k
  obtain ⟨ih0, ih1, ih2, ih3, ih4⟩ := quoinref14_Take.mono_l k
  unfold quoinref14_Take.f
  repeat' first
      | (with_reducible exact ih0 _ _ _ _ _ _)
      | (with_reducible exact ih1 _ _ _ _ _ _)
      | (with_reducible exact ih2 _ _ _ _ _ _ _)
      | (with_reducible exact ih3 _ _ _ _ _ _)
      | (with_reducible exact ih4 _ _ _ _ _ _ _)
      | (with_reducible exact LeO.refl _)
      | (with_reducible exact LeO.none _)
      | (with_reducible refine LeO.ite ?_ ?_)
      | (with_reducible refine LeO.bind ?_ (fun _ => ?_))
      | exact ih0 _ _ _ _ _ _
      | exact ih1 _ _ _ _ _ _
      | exact ih2 _ _ _ _ _ _ _
      | exact ih3 _ _ _ _ _ _
      | exact ih4 _ _ _ _ _ _ _
      | exact LeO.none _
      | refine LeO.ite ?_ ?_
      | refine LeO.bind ?_ (fun _ => ?_)
set_option maxHeartbeats 8000000 in
set_option maxRecDepth 100000 in
theorem quoinref14_Take.calls (k : Nat) (A0 : Option Addr) (c0 : Nat) (l0 : List Int) (a1_0 : Int) (a1_1 : Int) (a1_2 : Bool) (a1_3 : Bool) (r1 : Bool) (r2 : Bool) (r3 : List Int) (r4 : Int) (w : World) (hr0 : Kd.C (Kd.int .u8) w A0 l0.length l0) (hc0 : l0.length ≤ c0) (h : quoinref14_Take.f k l0 a1_0 a1_1 a1_2 a1_3 = some (r1, r2, r3, r4)) :
    Calls Try.prog 12 #[.slice A0 l0.length c0, .agg #[.int .i64 a1_0, .int .i64 a1_1, .bool a1_2, .bool a1_3]] w fun e w' => ∃ v2_ : Value, e = .returned (.tuple #[.agg #[.bool r1, .bool r2, v2_], .int .i64 r4]) ∧ Kd.R (Kd.int .u8) 5 w' w.heap.size (fun _ => True) v2_ r3 ∧ Below w.heap.size w w' := by
  have hu27 := Try.underlying27
  have hu38 := Try.underlying38
  have HR0 := Aside0.mk hr0
  have HC0 := Aside0.mk hc0
  clear hr0 hc0
  have HB := Aside0.mk (Below.refl w.heap.size w)
  have H : (if a1_0 < 0 then (quoinref14_Take.j0 k l0 true a1_0 a1_1 a1_2 a1_3) else (if a1_0 > a1_1 then (quoinref14_Take.j0 k l0 true a1_0 a1_1 a1_2 a1_3) else (quoinref14_Take.j0 k l0 (decide (a1_1 > (l0.length : Int))) a1_0 a1_1 a1_2 a1_3))) = some (r1, r2, r3, r4) := h
  clear h
  have HC3 := Aside0.mk H
  clear H
  go_enter Try.func12, Try.ntmps12
  go_upto_region 1 with (first | ((with_reducible refine gate_dst (N := 3) rfl ?_); (try (refine gate_guard (by rfl) ?_; dsimp only)); refine box_event ?hg (N := 3) ?hd (cs := #[.int .i64 a1_0, .int .i64 a1_1, .bool a1_2, .bool a1_3]) (t := 27) ?hr ?_; (case hd => rfl); (case hg => rfl); (case hr => first | (go_simp; done) | (go_simp; rfl)); intro gb265 hg w4 hbox hb; have n0_ := Aside0.mk (below_step (by repeat (first | (with_reducible first | exact HB.out | apply below_alloc | apply pw_below_drewN | apply below_drew1) | exact HB.out)) hb); have n1_ := Aside0.mk (hbox); have n2_ := Aside0.mk ((by rw [hg]; exact (below_size (by repeat (first | (with_reducible first | exact HB.out | apply below_alloc | apply pw_below_drewN | apply below_drew1) | exact HB.out))) : w.heap.size ≤ gb265)); have n3_ := Aside0.mk ((by rw [hg]; exact (below_size (by repeat (first | (with_reducible first | exact HB.out | apply below_alloc | apply pw_below_drewN | apply below_drew1) | exact HB.out))) : w.heap.size ≤ gb265)); clear HB; have HB := n0_; have BK265 := n1_; have GW265 := n2_; have GE265 := n3_; clear n0_ n1_ n2_ n3_; clear hb hbox hg) | ((with_reducible refine gate_dst (N := 4) rfl ?_); (try (refine gate_guard (by rfl) ?_; dsimp only)); refine box_event ?hg (N := 4) ?hd (cs := #[.bool false, .bool false, .slice none 0 0]) (t := 38) ?hr ?_; (case hd => rfl); (case hg => rfl); (case hr => first | (go_simp; done) | (go_simp; rfl)); intro gb266 hg w5 hbox hb; have n0_ := Aside0.mk (blk_below (g := gb265) (o := .cells #[.int .i64 a1_0, .int .i64 a1_1, .bool a1_2, .bool a1_3] 27 (0, 0)) (by (with_reducible repeat (first | refine blk_drewN ?_ _ | refine blk_drew ?_ | refine blk_alloc ?_ _)); exact BK265.out) hb); have n1_ := Aside0.mk (below_step (by repeat (first | (with_reducible first | exact HB.out | apply below_alloc | apply pw_below_drewN | apply below_drew1 | refine below_set ?_ GE265.out) | exact HB.out)) hb); have n2_ := Aside0.mk (hbox); have n3_ := Aside0.mk ((by rw [hg]; exact (below_size (by repeat (first | (with_reducible first | exact HB.out | apply below_alloc | apply pw_below_drewN | apply below_drew1 | refine below_set ?_ GE265.out) | exact HB.out))) : w.heap.size ≤ gb266)); have n4_ := Aside0.mk ((by rw [hg]; exact (below_size (by repeat (first | (with_reducible first | exact HB.out | apply below_alloc | apply pw_below_drewN | apply below_drew1 | refine below_set ?_ GE265.out) | exact HB.out))) : w.heap.size ≤ gb266)); have n5_ := Aside0.mk ((by rw [hg]; exact Nat.ne_of_lt (blk_lt (g := gb265) (o := .cells #[.int .i64 a1_0, .int .i64 a1_1, .bool a1_2, .bool a1_3] 27 (0, 0)) (by (with_reducible repeat (first | refine blk_drewN ?_ _ | refine blk_drew ?_ | refine blk_alloc ?_ _)); exact BK265.out)) : gb265 ≠ gb266)); have n6_ := Aside0.mk ((by rw [hg]; exact Nat.ne_of_gt (blk_lt (g := gb265) (o := .cells #[.int .i64 a1_0, .int .i64 a1_1, .bool a1_2, .bool a1_3] 27 (0, 0)) (by (with_reducible repeat (first | refine blk_drewN ?_ _ | refine blk_drew ?_ | refine blk_alloc ?_ _)); exact BK265.out)) : gb266 ≠ gb265)); clear BK265; clear HB; have BK265 := n0_; have HB := n1_; have BK266 := n2_; have GW266 := n3_; have GE266 := n4_; have NB265_266 := n5_; have NB266_265 := n6_; clear n0_ n1_ n2_ n3_ n4_ n5_ n6_; clear hb hbox hg))
  (try simp only [Act.put, List.setIfInBounds_toArray, List.set_cons_zero, List.set_cons_succ])
  go_cut [25] (fun v25 wc => ∃ (kq : Nat) (x25_2 : Bool), v25 = .bool x25_2 ∧ Aside0 (quoinref14_Take.j0 kq l0 x25_2 a1_0 a1_1 a1_2 a1_3 = some (r1, r2, r3, r4)) ∧ Aside0 (kq ≤ k) ∧ Aside0 (wc.heap[gb265]? = some (.cells #[.int .i64 a1_0, .int .i64 a1_1, .bool a1_2, .bool a1_3] 27 (0, 0))) ∧ Aside0 (wc.heap[gb266]? = some (.cells #[.bool false, .bool false, (.slice none 0 0)] 38 (0, 0))) ∧ Aside0 (Below w.heap.size w wc))
  case first =>
    have H := HC3.out
    clear HC3
    by_cases c6 : a1_0 < 0
    · rw [if_pos c6] at H
      have c6b0 : decide (a1_0 < 0) = true := decide_eq_true c6
      clear c6
      (first | rw [c6b0] | (simp only [i64_w, i32_w]; rw [c6b0]) | skip)
      have H' := Aside0.mk H
      clear H
      have hnb7 := NB265_266.out
      have hnc7 := NB266_265.out
      have hcz8_0 : w5.cell? ⟨gb265, 0, none⟩ = some (.int .i64 a1_0) := (blk_cell BK265.out 0).trans rfl
      have hcz8_1 : w5.cell? ⟨gb265, 1, none⟩ = some (.int .i64 a1_1) := (blk_cell BK265.out 1).trans rfl
      have hcz8_2 : w5.cell? ⟨gb265, 2, none⟩ = some (.bool a1_2) := (blk_cell BK265.out 2).trans rfl
      have hcz8_3 : w5.cell? ⟨gb265, 3, none⟩ = some (.bool a1_3) := (blk_cell BK265.out 3).trans rfl
      have hfz8_0 := blk_frozen BK265.out 0
      have hfz8_1 := blk_frozen BK265.out 1
      have hfz8_2 := blk_frozen BK265.out 2
      have hfz8_3 := blk_frozen BK265.out 3
      go_wp2
      go_meet
      case rel => exact ⟨_, (true), (by first | rfl | (simp; done) | (simp [*]; done)), H', ⟨by first | omega | exact Nat.le_refl _⟩, ⟨by (with_reducible repeat (first | refine blk_drewN ?_ _ | refine blk_drew ?_ | refine blk_alloc ?_ _)); exact BK265.out⟩, ⟨by (with_reducible repeat (first | refine blk_drewN ?_ _ | refine blk_drew ?_ | refine blk_alloc ?_ _)); exact BK266.out⟩, ⟨by repeat (first | (with_reducible first | exact HB.out | apply below_alloc | apply pw_below_drewN | apply below_drew1 | refine below_set ?_ GE265.out | refine below_set ?_ GE266.out) | exact HB.out)⟩⟩
    · rw [if_neg c6] at H
      have c6b0 : decide (a1_0 < 0) = false := decide_eq_false c6
      clear c6
      (first | rw [c6b0] | (simp only [i64_w, i32_w]; rw [c6b0]) | skip)
      by_cases c9 : a1_0 > a1_1
      · rw [if_pos c9] at H
        have c9b0 : decide (a1_1 < a1_0) = true := decide_eq_true c9
        clear c9
        have H' := Aside0.mk H
        clear H
        have hnb10 := NB265_266.out
        have hnc10 := NB266_265.out
        have hcz11_0 : w5.cell? ⟨gb265, 0, none⟩ = some (.int .i64 a1_0) := (blk_cell BK265.out 0).trans rfl
        have hcz11_1 : w5.cell? ⟨gb265, 1, none⟩ = some (.int .i64 a1_1) := (blk_cell BK265.out 1).trans rfl
        have hcz11_2 : w5.cell? ⟨gb265, 2, none⟩ = some (.bool a1_2) := (blk_cell BK265.out 2).trans rfl
        have hcz11_3 : w5.cell? ⟨gb265, 3, none⟩ = some (.bool a1_3) := (blk_cell BK265.out 3).trans rfl
        have hfz11_0 := blk_frozen BK265.out 0
        have hfz11_1 := blk_frozen BK265.out 1
        have hfz11_2 := blk_frozen BK265.out 2
        have hfz11_3 := blk_frozen BK265.out 3
        go_wp2
        go_meet
        case rel => exact ⟨_, (true), (by first | rfl | (simp; done) | (simp [*]; done)), H', ⟨by first | omega | exact Nat.le_refl _⟩, ⟨by (with_reducible repeat (first | refine blk_drewN ?_ _ | refine blk_drew ?_ | refine blk_alloc ?_ _)); exact BK265.out⟩, ⟨by (with_reducible repeat (first | refine blk_drewN ?_ _ | refine blk_drew ?_ | refine blk_alloc ?_ _)); exact BK266.out⟩, ⟨by repeat (first | (with_reducible first | exact HB.out | apply below_alloc | apply pw_below_drewN | apply below_drew1 | refine below_set ?_ GE265.out | refine below_set ?_ GE266.out) | exact HB.out)⟩⟩
      · rw [if_neg c9] at H
        have c9b0 : decide (a1_1 < a1_0) = false := decide_eq_false c9
        clear c9
        have H' := Aside0.mk H
        clear H
        have hnb12 := NB265_266.out
        have hnc12 := NB266_265.out
        have hcz13_0 : w5.cell? ⟨gb265, 0, none⟩ = some (.int .i64 a1_0) := (blk_cell BK265.out 0).trans rfl
        have hcz13_1 : w5.cell? ⟨gb265, 1, none⟩ = some (.int .i64 a1_1) := (blk_cell BK265.out 1).trans rfl
        have hcz13_2 : w5.cell? ⟨gb265, 2, none⟩ = some (.bool a1_2) := (blk_cell BK265.out 2).trans rfl
        have hcz13_3 : w5.cell? ⟨gb265, 3, none⟩ = some (.bool a1_3) := (blk_cell BK265.out 3).trans rfl
        have hfz13_0 := blk_frozen BK265.out 0
        have hfz13_1 := blk_frozen BK265.out 1
        have hfz13_2 := blk_frozen BK265.out 2
        have hfz13_3 := blk_frozen BK265.out 3
        go_wp2
        go_meet
        case rel => exact ⟨_, (decide (a1_1 > (l0.length : Int))), (by first | rfl | (simp; done) | (simp [*]; done)), H', ⟨by first | omega | exact Nat.le_refl _⟩, ⟨by (with_reducible repeat (first | refine blk_drewN ?_ _ | refine blk_drew ?_ | refine blk_alloc ?_ _)); exact BK265.out⟩, ⟨by (with_reducible repeat (first | refine blk_drewN ?_ _ | refine blk_drew ?_ | refine blk_alloc ?_ _)); exact BK266.out⟩, ⟨by repeat (first | (with_reducible first | exact HB.out | apply below_alloc | apply pw_below_drewN | apply below_drew1 | refine below_set ?_ GE265.out | refine below_set ?_ GE266.out) | exact HB.out)⟩⟩
  case rest =>
    clear HC3
    try clear c1
    try clear p2
    try clear c6
    try clear c6b0
    try clear c7
    try clear c9
    try clear c9b0
    try clear c10
    try clear c12
    try clear hcz11_0
    try clear hcz11_1
    try clear hcz11_2
    try clear hcz11_3
    try clear hcz13_0
    try clear hcz13_1
    try clear hcz13_2
    try clear hcz13_3
    try clear hcz8_0
    try clear hcz8_1
    try clear hcz8_2
    try clear hcz8_3
    try clear hfz11_0
    try clear hfz11_1
    try clear hfz11_2
    try clear hfz11_3
    try clear hfz13_0
    try clear hfz13_1
    try clear hfz13_2
    try clear hfz13_3
    try clear hfz8_0
    try clear hfz8_1
    try clear hfz8_2
    try clear hfz8_3
    obtain ⟨kq, x25_2, rfl, HA, HJ2, BK265, BK266, HB⟩ := hcut
    cases kq with
    | zero => exact absurd HA.out (by simp [quoinref14_Take.j0])
    | succ kj2 =>
      have H := HA.out
      clear HA
      simp only [quoinref14_Take.j0] at H
      by_cases c14 : x25_2 = true
      · subst c14
        have H1 : (some (false, false, ([] : List Int), 2)) = some (r1, r2, r3, r4) := by rw [if_pos rfl] at H; exact H
        clear H
        have H := H1
        clear H1
        simp only [Option.some.injEq, Prod.mk.injEq] at H
        obtain ⟨rfl, rfl, rfl, rfl⟩ := H
        have hnb15 := NB266_265.out
        have hnc15 := NB265_266.out
        have hcz16_0 : wc.cell? ⟨gb266, 0, none⟩ = some (.bool false) := (blk_cell BK266.out 0).trans rfl
        have hcz16_1 : wc.cell? ⟨gb266, 1, none⟩ = some (.bool false) := (blk_cell BK266.out 1).trans rfl
        have hcz16_2 : wc.cell? ⟨gb266, 2, none⟩ = some (.slice none 0 0) := (blk_cell BK266.out 2).trans rfl
        have hfz16_0 := blk_frozen BK266.out 0
        have hfz16_1 := blk_frozen BK266.out 1
        have hfz16_2 := blk_frozen BK266.out 2
        go_wp2
        refine bodyPost_ret (results_ct rfl _ _ gb266 38 #[.bool false, .bool false, .slice none 0 0] (0, 0) _ rfl (by (with_reducible repeat (first | refine blk_drewN ?_ _ | refine blk_drew ?_ | refine blk_alloc ?_ _)); refine blk_put (cs := #[.bool false, .bool false, .slice none 0 0]) ?_ 2 _ rfl; (with_reducible repeat (first | refine blk_drewN ?_ _ | refine blk_drew ?_ | refine blk_alloc ?_ _)); refine blk_put (cs := #[.bool false, .bool false, .slice none 0 0]) ?_ 1 _ rfl; (with_reducible repeat (first | refine blk_drewN ?_ _ | refine blk_drew ?_ | refine blk_alloc ?_ _)); refine blk_put (cs := #[.bool false, .bool false, .slice none 0 0]) ?_ 0 _ rfl; (with_reducible repeat (first | refine blk_drewN ?_ _ | refine blk_drew ?_ | refine blk_alloc ?_ _)); exact BK266.out) Try.underlying38 rfl (by kernel_rfl)) rfl ?_
        exact ⟨_, by first | rfl | (simp [errW_none, errW_some] <;> rfl) | (simp [*, errW_none, errW_some] <;> rfl), by first | exact Kd.R_nil _ _ _ _ _ | exact Kd.N_nil _ _ _ _ _ | exact Kd.V_nil _ _ _ _ _ | exact Kd.Q_nil _ _ _ _ _ | exact Kd.S_nil _ _ _ _ _, by repeat (first | (with_reducible first | exact HB.out | apply below_alloc | apply pw_below_drewN | apply below_drew1 | refine below_set ?_ GE265.out | refine below_set ?_ GE266.out) | exact HB.out)⟩
      · replace c14 := Bool.eq_false_iff.mpr c14
        subst c14
        have H1 : (if a1_2 = true then (if a1_3 = true then (if a1_0 = (l0.length : Int) then (quoinref14_Take.j1 kj2 l0 true a1_0 a1_1 a1_2 a1_3) else (if 0 ≤ a1_0 then (if a1_0 < (l0.length : Int) then (quoinref14_Take.j1 kj2 l0 ((rd l0 a1_0) != 10) a1_0 a1_1 a1_2 a1_3) else (none)) else (none))) else (quoinref14_Take.j1 kj2 l0 false a1_0 a1_1 a1_2 a1_3)) else (quoinref14_Take.j1 kj2 l0 false a1_0 a1_1 a1_2 a1_3)) = some (r1, r2, r3, r4) := by rw [if_neg (show ¬ (false = true) by decide)] at H; exact H
        clear H
        have H := H1
        clear H1
        have HC17 := Aside0.mk H
        clear H
        go_upto_region 3 with (fail)
        go_cut [47] (fun v47 wc => ∃ (kq : Nat) (x47_16 : Bool), v47 = .bool x47_16 ∧ Aside0 (quoinref14_Take.j1 kq l0 x47_16 a1_0 a1_1 a1_2 a1_3 = some (r1, r2, r3, r4)) ∧ Aside0 (kq ≤ kj2) ∧ Aside0 (wc.heap[gb265]? = some (.cells #[.int .i64 a1_0, .int .i64 a1_1, .bool a1_2, .bool a1_3] 27 (0, 0))) ∧ Aside0 (wc.heap[gb266]? = some (.cells #[.bool false, .bool false, (.slice none 0 0)] 38 (0, 0))) ∧ Aside0 (Below w.heap.size w wc))
        case first =>
          have H := HC17.out
          clear HC17
          by_cases c18 : a1_2 = true
          · subst c18
            have H1 : (if a1_3 = true then (if a1_0 = (l0.length : Int) then (quoinref14_Take.j1 kj2 l0 true a1_0 a1_1 true a1_3) else (if 0 ≤ a1_0 then (if a1_0 < (l0.length : Int) then (quoinref14_Take.j1 kj2 l0 ((rd l0 a1_0) != 10) a1_0 a1_1 true a1_3) else (none)) else (none))) else (quoinref14_Take.j1 kj2 l0 false a1_0 a1_1 true a1_3)) = some (r1, r2, r3, r4) := by rw [if_pos rfl] at H; exact H
            clear H
            have H := H1
            clear H1
            by_cases c19 : a1_3 = true
            · subst c19
              have H1 : (if a1_0 = (l0.length : Int) then (quoinref14_Take.j1 kj2 l0 true a1_0 a1_1 true true) else (if 0 ≤ a1_0 then (if a1_0 < (l0.length : Int) then (quoinref14_Take.j1 kj2 l0 ((rd l0 a1_0) != 10) a1_0 a1_1 true true) else (none)) else (none))) = some (r1, r2, r3, r4) := by rw [if_pos rfl] at H; exact H
              clear H
              have H := H1
              clear H1
              by_cases c20 : a1_0 = (l0.length : Int)
              · rw [if_pos c20] at H
                have c20b0 : (a1_0 == (l0.length : Int)) = true := beq_iff_eq.mpr c20
                have c20b1 : (a1_0 != (l0.length : Int)) = false := bne_eq_false_iff_eq.mpr c20
                clear c20
                (first | rw [c20b0] | (simp only [i64_w, i32_w]; rw [c20b0]) | skip)
                have H' := Aside0.mk H
                clear H
                have hnb21 := NB265_266.out
                have hnc21 := NB266_265.out
                have hcz22_0 : wc.cell? ⟨gb265, 0, none⟩ = some (.int .i64 a1_0) := (blk_cell BK265.out 0).trans rfl
                have hcz22_1 : wc.cell? ⟨gb265, 1, none⟩ = some (.int .i64 a1_1) := (blk_cell BK265.out 1).trans rfl
                have hcz22_2 : wc.cell? ⟨gb265, 2, none⟩ = some (.bool true) := (blk_cell BK265.out 2).trans rfl
                have hcz22_3 : wc.cell? ⟨gb265, 3, none⟩ = some (.bool true) := (blk_cell BK265.out 3).trans rfl
                have hfz22_0 := blk_frozen BK265.out 0
                have hfz22_1 := blk_frozen BK265.out 1
                have hfz22_2 := blk_frozen BK265.out 2
                have hfz22_3 := blk_frozen BK265.out 3
                go_wp2
                go_meet
                case rel => exact ⟨_, (true), (by first | rfl | (simp; done) | (simp [*]; done)), H', ⟨by have := HJ2.out; first | omega | exact Nat.le_refl _⟩, ⟨by (with_reducible repeat (first | refine blk_drewN ?_ _ | refine blk_drew ?_ | refine blk_alloc ?_ _)); exact BK265.out⟩, ⟨by (with_reducible repeat (first | refine blk_drewN ?_ _ | refine blk_drew ?_ | refine blk_alloc ?_ _)); exact BK266.out⟩, ⟨by repeat (first | (with_reducible first | exact HB.out | apply below_alloc | apply pw_below_drewN | apply below_drew1 | refine below_set ?_ GE265.out | refine below_set ?_ GE266.out) | exact HB.out)⟩⟩
              · rw [if_neg c20] at H
                have c20b0 : (a1_0 == (l0.length : Int)) = false := beq_eq_false_iff_ne.mpr c20
                have c20b1 : (a1_0 != (l0.length : Int)) = true := bne_iff_ne.mpr c20
                (first | rw [c20b0] | (simp only [i64_w, i32_w]; rw [c20b0]) | skip)
                by_cases c23 : 0 ≤ a1_0
                · rw [if_pos c23] at H
                  have c23b0 : decide (0 ≤ a1_0) = true := decide_eq_true c23
                  clear c23
                  by_cases c24 : a1_0 < (l0.length : Int)
                  · rw [if_pos c24] at H
                    have c24b0 : decide (a1_0 < (l0.length : Int)) = true := decide_eq_true c24
                    clear c24
                    have H' := Aside0.mk H
                    clear H
                    have hnb25 := NB265_266.out
                    have hnc25 := NB266_265.out
                    have hcz26_0 : wc.cell? ⟨gb265, 0, none⟩ = some (.int .i64 a1_0) := (blk_cell BK265.out 0).trans rfl
                    have hcz26_1 : wc.cell? ⟨gb265, 1, none⟩ = some (.int .i64 a1_1) := (blk_cell BK265.out 1).trans rfl
                    have hcz26_2 : wc.cell? ⟨gb265, 2, none⟩ = some (.bool true) := (blk_cell BK265.out 2).trans rfl
                    have hcz26_3 : wc.cell? ⟨gb265, 3, none⟩ = some (.bool true) := (blk_cell BK265.out 3).trans rfl
                    have hfz26_0 := blk_frozen BK265.out 0
                    have hfz26_1 := blk_frozen BK265.out 1
                    have hfz26_2 := blk_frozen BK265.out 2
                    have hfz26_3 := blk_frozen BK265.out 3
                    have p267 : 0 ≤ (a1_0 : Int) := of_decide_eq_true (by first | (with_reducible assumption) | assumption)
                    have q267 : a1_0 < (l0.length : Int) := of_decide_eq_true (by first | (with_reducible assumption) | assumption)
                    obtain ⟨ad267, e267, hx267_0⟩ := Kd.at_int HR0.out a1_0 p267 q267
                    cases e267
                    replace hx267_0 := (HB.out.cell (World.block_lt_of_cell? w _ hx267_0)).trans hx267_0
                    replace p267 := eq_true p267
                    replace q267 := eq_true q267
                    go_wp2
                    go_meet
                    case rel => exact ⟨_, (((rd l0 a1_0) != 10)), (by first | rfl | (simp; done) | (simp [*]; done)), H', ⟨by have := HJ2.out; first | omega | exact Nat.le_refl _⟩, ⟨by (with_reducible repeat (first | refine blk_drewN ?_ _ | refine blk_drew ?_ | refine blk_alloc ?_ _)); exact BK265.out⟩, ⟨by (with_reducible repeat (first | refine blk_drewN ?_ _ | refine blk_drew ?_ | refine blk_alloc ?_ _)); exact BK266.out⟩, ⟨by repeat (first | (with_reducible first | exact HB.out | apply below_alloc | apply pw_below_drewN | apply below_drew1 | refine below_set ?_ GE265.out | refine below_set ?_ GE266.out) | exact HB.out)⟩⟩
                  · rw [if_neg c24] at H
                    exact absurd H (by simp)
                · rw [if_neg c23] at H
                  exact absurd H (by simp)
            · replace c19 := Bool.eq_false_iff.mpr c19
              subst c19
              have H1 : (quoinref14_Take.j1 kj2 l0 false a1_0 a1_1 true false) = some (r1, r2, r3, r4) := by rw [if_neg (show ¬ (false = true) by decide)] at H; exact H
              clear H
              have H := H1
              clear H1
              have H' := Aside0.mk H
              clear H
              have hnb27 := NB265_266.out
              have hnc27 := NB266_265.out
              have hcz28_0 : wc.cell? ⟨gb265, 0, none⟩ = some (.int .i64 a1_0) := (blk_cell BK265.out 0).trans rfl
              have hcz28_1 : wc.cell? ⟨gb265, 1, none⟩ = some (.int .i64 a1_1) := (blk_cell BK265.out 1).trans rfl
              have hcz28_2 : wc.cell? ⟨gb265, 2, none⟩ = some (.bool true) := (blk_cell BK265.out 2).trans rfl
              have hcz28_3 : wc.cell? ⟨gb265, 3, none⟩ = some (.bool false) := (blk_cell BK265.out 3).trans rfl
              have hfz28_0 := blk_frozen BK265.out 0
              have hfz28_1 := blk_frozen BK265.out 1
              have hfz28_2 := blk_frozen BK265.out 2
              have hfz28_3 := blk_frozen BK265.out 3
              go_wp2
              go_meet
              case rel => exact ⟨_, (false), (by first | rfl | (simp; done) | (simp [*]; done)), H', ⟨by have := HJ2.out; first | omega | exact Nat.le_refl _⟩, ⟨by (with_reducible repeat (first | refine blk_drewN ?_ _ | refine blk_drew ?_ | refine blk_alloc ?_ _)); exact BK265.out⟩, ⟨by (with_reducible repeat (first | refine blk_drewN ?_ _ | refine blk_drew ?_ | refine blk_alloc ?_ _)); exact BK266.out⟩, ⟨by repeat (first | (with_reducible first | exact HB.out | apply below_alloc | apply pw_below_drewN | apply below_drew1 | refine below_set ?_ GE265.out | refine below_set ?_ GE266.out) | exact HB.out)⟩⟩
          · replace c18 := Bool.eq_false_iff.mpr c18
            subst c18
            have H1 : (quoinref14_Take.j1 kj2 l0 false a1_0 a1_1 false a1_3) = some (r1, r2, r3, r4) := by rw [if_neg (show ¬ (false = true) by decide)] at H; exact H
            clear H
            have H := H1
            clear H1
            have H' := Aside0.mk H
            clear H
            have hnb29 := NB265_266.out
            have hnc29 := NB266_265.out
            have hcz30_0 : wc.cell? ⟨gb265, 0, none⟩ = some (.int .i64 a1_0) := (blk_cell BK265.out 0).trans rfl
            have hcz30_1 : wc.cell? ⟨gb265, 1, none⟩ = some (.int .i64 a1_1) := (blk_cell BK265.out 1).trans rfl
            have hcz30_2 : wc.cell? ⟨gb265, 2, none⟩ = some (.bool false) := (blk_cell BK265.out 2).trans rfl
            have hcz30_3 : wc.cell? ⟨gb265, 3, none⟩ = some (.bool a1_3) := (blk_cell BK265.out 3).trans rfl
            have hfz30_0 := blk_frozen BK265.out 0
            have hfz30_1 := blk_frozen BK265.out 1
            have hfz30_2 := blk_frozen BK265.out 2
            have hfz30_3 := blk_frozen BK265.out 3
            go_wp2
            go_meet
            case rel => exact ⟨_, (false), (by first | rfl | (simp; done) | (simp [*]; done)), H', ⟨by have := HJ2.out; first | omega | exact Nat.le_refl _⟩, ⟨by (with_reducible repeat (first | refine blk_drewN ?_ _ | refine blk_drew ?_ | refine blk_alloc ?_ _)); exact BK265.out⟩, ⟨by (with_reducible repeat (first | refine blk_drewN ?_ _ | refine blk_drew ?_ | refine blk_alloc ?_ _)); exact BK266.out⟩, ⟨by repeat (first | (with_reducible first | exact HB.out | apply below_alloc | apply pw_below_drewN | apply below_drew1 | refine below_set ?_ GE265.out | refine below_set ?_ GE266.out) | exact HB.out)⟩⟩
        case rest =>
          clear HC17
          try clear c1
          try clear c2
          try clear p2
          try clear q2
          try clear hx2
          try clear c6
          try clear c6b0
          try clear c7
          try clear c9
          try clear c9b0
          try clear c10
          try clear c12
          try clear c14
          try clear c15
          try clear c18
          try clear c19
          try clear c20
          try clear c20b0
          try clear c20b1
          try clear c21
          try clear c23
          try clear c23b0
          try clear c24
          try clear c24b0
          try clear c25
          try clear p26
          try clear q26
          try clear hx26
          try clear c27
          try clear c29
          try clear hcz11_0
          try clear hcz11_1
          try clear hcz11_2
          try clear hcz11_3
          try clear hcz13_0
          try clear hcz13_1
          try clear hcz13_2
          try clear hcz13_3
          try clear hcz16_0
          try clear hcz16_1
          try clear hcz16_2
          try clear hcz22_0
          try clear hcz22_1
          try clear hcz22_2
          try clear hcz22_3
          try clear hcz26_0
          try clear hcz26_1
          try clear hcz26_2
          try clear hcz26_3
          try clear hcz28_0
          try clear hcz28_1
          try clear hcz28_2
          try clear hcz28_3
          try clear hcz30_0
          try clear hcz30_1
          try clear hcz30_2
          try clear hcz30_3
          try clear hcz8_0
          try clear hcz8_1
          try clear hcz8_2
          try clear hcz8_3
          try clear hfz11_0
          try clear hfz11_1
          try clear hfz11_2
          try clear hfz11_3
          try clear hfz13_0
          try clear hfz13_1
          try clear hfz13_2
          try clear hfz13_3
          try clear hfz16_0
          try clear hfz16_1
          try clear hfz16_2
          try clear hfz22_0
          try clear hfz22_1
          try clear hfz22_2
          try clear hfz22_3
          try clear hfz26_0
          try clear hfz26_1
          try clear hfz26_2
          try clear hfz26_3
          try clear hfz28_0
          try clear hfz28_1
          try clear hfz28_2
          try clear hfz28_3
          try clear hfz30_0
          try clear hfz30_1
          try clear hfz30_2
          try clear hfz30_3
          try clear hfz8_0
          try clear hfz8_1
          try clear hfz8_2
          try clear hfz8_3
          try clear hx267_0
          try clear p2
          try clear p267
          try clear q267
          obtain ⟨kq, x47_16, rfl, HA, HJ16, BK265, BK266, HB⟩ := hcut
          cases kq with
          | zero => exact absurd HA.out (by simp [quoinref14_Take.j1])
          | succ kj16 =>
            have H := HA.out
            clear HA
            simp only [quoinref14_Take.j1] at H
            by_cases c31 : x47_16 = true
            · subst c31
              have H1 : (some (false, false, ([] : List Int), 2)) = some (r1, r2, r3, r4) := by rw [if_pos rfl] at H; exact H
              clear H
              have H := H1
              clear H1
              simp only [Option.some.injEq, Prod.mk.injEq] at H
              obtain ⟨rfl, rfl, rfl, rfl⟩ := H
              have hnb32 := NB266_265.out
              have hnc32 := NB265_266.out
              have hcz33_0 : wc.cell? ⟨gb266, 0, none⟩ = some (.bool false) := (blk_cell BK266.out 0).trans rfl
              have hcz33_1 : wc.cell? ⟨gb266, 1, none⟩ = some (.bool false) := (blk_cell BK266.out 1).trans rfl
              have hcz33_2 : wc.cell? ⟨gb266, 2, none⟩ = some (.slice none 0 0) := (blk_cell BK266.out 2).trans rfl
              have hfz33_0 := blk_frozen BK266.out 0
              have hfz33_1 := blk_frozen BK266.out 1
              have hfz33_2 := blk_frozen BK266.out 2
              go_wp2
              refine bodyPost_ret (results_ct rfl _ _ gb266 38 #[.bool false, .bool false, .slice none 0 0] (0, 0) _ rfl (by (with_reducible repeat (first | refine blk_drewN ?_ _ | refine blk_drew ?_ | refine blk_alloc ?_ _)); refine blk_put (cs := #[.bool false, .bool false, .slice none 0 0]) ?_ 2 _ rfl; (with_reducible repeat (first | refine blk_drewN ?_ _ | refine blk_drew ?_ | refine blk_alloc ?_ _)); refine blk_put (cs := #[.bool false, .bool false, .slice none 0 0]) ?_ 1 _ rfl; (with_reducible repeat (first | refine blk_drewN ?_ _ | refine blk_drew ?_ | refine blk_alloc ?_ _)); refine blk_put (cs := #[.bool false, .bool false, .slice none 0 0]) ?_ 0 _ rfl; (with_reducible repeat (first | refine blk_drewN ?_ _ | refine blk_drew ?_ | refine blk_alloc ?_ _)); exact BK266.out) Try.underlying38 rfl (by kernel_rfl)) rfl ?_
              exact ⟨_, by first | rfl | (simp [errW_none, errW_some] <;> rfl) | (simp [*, errW_none, errW_some] <;> rfl), by first | exact Kd.R_nil _ _ _ _ _ | exact Kd.N_nil _ _ _ _ _ | exact Kd.V_nil _ _ _ _ _ | exact Kd.Q_nil _ _ _ _ _ | exact Kd.S_nil _ _ _ _ _, by repeat (first | (with_reducible first | exact HB.out | apply below_alloc | apply pw_below_drewN | apply below_drew1 | refine below_set ?_ GE265.out | refine below_set ?_ GE266.out) | exact HB.out)⟩
            · replace c31 := Bool.eq_false_iff.mpr c31
              subst c31
              have H1 : (if a1_2 = true then (quoinref14_Take.j2 kj16 l0 a1_0 a1_3 a1_0 a1_1 a1_2 a1_3) else (quoinref14_Take.j2 kj16 l0 a1_0 false a1_0 a1_1 a1_2 a1_3)) = some (r1, r2, r3, r4) := by rw [if_neg (show ¬ (false = true) by decide)] at H; exact H
              clear H
              have H := H1
              clear H1
              have HC34 := Aside0.mk H
              clear H
              have hnb35 := NB265_266.out
              have hnc35 := NB266_265.out
              have hcz36_0 : wc.cell? ⟨gb265, 0, none⟩ = some (.int .i64 a1_0) := (blk_cell BK265.out 0).trans rfl
              have hcz36_1 : wc.cell? ⟨gb265, 1, none⟩ = some (.int .i64 a1_1) := (blk_cell BK265.out 1).trans rfl
              have hcz36_2 : wc.cell? ⟨gb265, 2, none⟩ = some (.bool a1_2) := (blk_cell BK265.out 2).trans rfl
              have hcz36_3 : wc.cell? ⟨gb265, 3, none⟩ = some (.bool a1_3) := (blk_cell BK265.out 3).trans rfl
              have hfz36_0 := blk_frozen BK265.out 0
              have hfz36_1 := blk_frozen BK265.out 1
              have hfz36_2 := blk_frozen BK265.out 2
              have hfz36_3 := blk_frozen BK265.out 3
              go_upto_region 6 with (fail)
              go_cut [56] (fun v56 wc => ∃ (kq : Nat) (x56_33 : Bool), v56 = .bool x56_33 ∧ Aside0 (quoinref14_Take.j2 kq l0 a1_0 x56_33 a1_0 a1_1 a1_2 a1_3 = some (r1, r2, r3, r4)) ∧ Aside0 (kq ≤ kj16) ∧ Aside0 (wc.heap[gb265]? = some (.cells #[.int .i64 a1_0, .int .i64 a1_1, .bool a1_2, .bool a1_3] 27 (0, 0))) ∧ Aside0 (wc.heap[gb266]? = some (.cells #[.bool false, .bool false, (.slice none 0 0)] 38 (0, 0))) ∧ Aside0 (Below w.heap.size w wc))
              case first =>
                have H := HC34.out
                clear HC34
                by_cases c37 : a1_2 = true
                · subst c37
                  have H1 : (quoinref14_Take.j2 kj16 l0 a1_0 a1_3 a1_0 a1_1 true a1_3) = some (r1, r2, r3, r4) := by rw [if_pos rfl] at H; exact H
                  clear H
                  have H := H1
                  clear H1
                  have H' := Aside0.mk H
                  clear H
                  have hnb38 := NB265_266.out
                  have hnc38 := NB266_265.out
                  have hcz39_0 : wc.cell? ⟨gb265, 0, none⟩ = some (.int .i64 a1_0) := (blk_cell BK265.out 0).trans rfl
                  have hcz39_1 : wc.cell? ⟨gb265, 1, none⟩ = some (.int .i64 a1_1) := (blk_cell BK265.out 1).trans rfl
                  have hcz39_2 : wc.cell? ⟨gb265, 2, none⟩ = some (.bool true) := (blk_cell BK265.out 2).trans rfl
                  have hcz39_3 : wc.cell? ⟨gb265, 3, none⟩ = some (.bool a1_3) := (blk_cell BK265.out 3).trans rfl
                  have hfz39_0 := blk_frozen BK265.out 0
                  have hfz39_1 := blk_frozen BK265.out 1
                  have hfz39_2 := blk_frozen BK265.out 2
                  have hfz39_3 := blk_frozen BK265.out 3
                  go_wp2
                  go_meet
                  case rel => exact ⟨_, (a1_3), (by first | rfl | (simp; done) | (simp [*]; done)), H', ⟨by have := HJ2.out; have := HJ16.out; first | omega | exact Nat.le_refl _⟩, ⟨by (with_reducible repeat (first | refine blk_drewN ?_ _ | refine blk_drew ?_ | refine blk_alloc ?_ _)); exact BK265.out⟩, ⟨by (with_reducible repeat (first | refine blk_drewN ?_ _ | refine blk_drew ?_ | refine blk_alloc ?_ _)); exact BK266.out⟩, ⟨by repeat (first | (with_reducible first | exact HB.out | apply below_alloc | apply pw_below_drewN | apply below_drew1 | refine below_set ?_ GE265.out | refine below_set ?_ GE266.out) | exact HB.out)⟩⟩
                · replace c37 := Bool.eq_false_iff.mpr c37
                  subst c37
                  have H1 : (quoinref14_Take.j2 kj16 l0 a1_0 false a1_0 a1_1 false a1_3) = some (r1, r2, r3, r4) := by rw [if_neg (show ¬ (false = true) by decide)] at H; exact H
                  clear H
                  have H := H1
                  clear H1
                  have H' := Aside0.mk H
                  clear H
                  have hnb40 := NB265_266.out
                  have hnc40 := NB266_265.out
                  have hcz41_0 : wc.cell? ⟨gb265, 0, none⟩ = some (.int .i64 a1_0) := (blk_cell BK265.out 0).trans rfl
                  have hcz41_1 : wc.cell? ⟨gb265, 1, none⟩ = some (.int .i64 a1_1) := (blk_cell BK265.out 1).trans rfl
                  have hcz41_2 : wc.cell? ⟨gb265, 2, none⟩ = some (.bool false) := (blk_cell BK265.out 2).trans rfl
                  have hcz41_3 : wc.cell? ⟨gb265, 3, none⟩ = some (.bool a1_3) := (blk_cell BK265.out 3).trans rfl
                  have hfz41_0 := blk_frozen BK265.out 0
                  have hfz41_1 := blk_frozen BK265.out 1
                  have hfz41_2 := blk_frozen BK265.out 2
                  have hfz41_3 := blk_frozen BK265.out 3
                  go_wp2
                  go_meet
                  case rel => exact ⟨_, (false), (by first | rfl | (simp; done) | (simp [*]; done)), H', ⟨by have := HJ2.out; have := HJ16.out; first | omega | exact Nat.le_refl _⟩, ⟨by (with_reducible repeat (first | refine blk_drewN ?_ _ | refine blk_drew ?_ | refine blk_alloc ?_ _)); exact BK265.out⟩, ⟨by (with_reducible repeat (first | refine blk_drewN ?_ _ | refine blk_drew ?_ | refine blk_alloc ?_ _)); exact BK266.out⟩, ⟨by repeat (first | (with_reducible first | exact HB.out | apply below_alloc | apply pw_below_drewN | apply below_drew1 | refine below_set ?_ GE265.out | refine below_set ?_ GE266.out) | exact HB.out)⟩⟩
              case rest =>
                clear HC34
                try clear c1
                try clear c2
                try clear p2
                try clear q2
                try clear hx2
                try clear c3
                try clear c4
                try clear c6
                try clear c6b0
                try clear c7
                try clear c9
                try clear c9b0
                try clear c10
                try clear c12
                try clear c14
                try clear c15
                try clear c18
                try clear c19
                try clear c20
                try clear c20b0
                try clear c20b1
                try clear c21
                try clear c23
                try clear c23b0
                try clear c24
                try clear c24b0
                try clear c25
                try clear p26
                try clear q26
                try clear hx26
                try clear c27
                try clear c29
                try clear c31
                try clear c32
                try clear c35
                try clear c37
                try clear c38
                try clear c40
                try clear hcz11_0
                try clear hcz11_1
                try clear hcz11_2
                try clear hcz11_3
                try clear hcz13_0
                try clear hcz13_1
                try clear hcz13_2
                try clear hcz13_3
                try clear hcz16_0
                try clear hcz16_1
                try clear hcz16_2
                try clear hcz22_0
                try clear hcz22_1
                try clear hcz22_2
                try clear hcz22_3
                try clear hcz26_0
                try clear hcz26_1
                try clear hcz26_2
                try clear hcz26_3
                try clear hcz28_0
                try clear hcz28_1
                try clear hcz28_2
                try clear hcz28_3
                try clear hcz30_0
                try clear hcz30_1
                try clear hcz30_2
                try clear hcz30_3
                try clear hcz33_0
                try clear hcz33_1
                try clear hcz33_2
                try clear hcz36_0
                try clear hcz36_1
                try clear hcz36_2
                try clear hcz36_3
                try clear hcz39_0
                try clear hcz39_1
                try clear hcz39_2
                try clear hcz39_3
                try clear hcz41_0
                try clear hcz41_1
                try clear hcz41_2
                try clear hcz41_3
                try clear hcz8_0
                try clear hcz8_1
                try clear hcz8_2
                try clear hcz8_3
                try clear hfz11_0
                try clear hfz11_1
                try clear hfz11_2
                try clear hfz11_3
                try clear hfz13_0
                try clear hfz13_1
                try clear hfz13_2
                try clear hfz13_3
                try clear hfz16_0
                try clear hfz16_1
                try clear hfz16_2
                try clear hfz22_0
                try clear hfz22_1
                try clear hfz22_2
                try clear hfz22_3
                try clear hfz26_0
                try clear hfz26_1
                try clear hfz26_2
                try clear hfz26_3
                try clear hfz28_0
                try clear hfz28_1
                try clear hfz28_2
                try clear hfz28_3
                try clear hfz30_0
                try clear hfz30_1
                try clear hfz30_2
                try clear hfz30_3
                try clear hfz33_0
                try clear hfz33_1
                try clear hfz33_2
                try clear hfz36_0
                try clear hfz36_1
                try clear hfz36_2
                try clear hfz36_3
                try clear hfz39_0
                try clear hfz39_1
                try clear hfz39_2
                try clear hfz39_3
                try clear hfz41_0
                try clear hfz41_1
                try clear hfz41_2
                try clear hfz41_3
                try clear hfz8_0
                try clear hfz8_1
                try clear hfz8_2
                try clear hfz8_3
                try clear hx267_0
                try clear p2
                try clear p26
                try clear p267
                try clear q2
                try clear q26
                try clear q267
                obtain ⟨kq, x56_33, rfl, HA, HJ33, BK265, BK266, HB⟩ := hcut
                cases kq with
                | zero => exact absurd HA.out (by simp [quoinref14_Take.j2])
                | succ kj33 =>
                  have H := HA.out
                  clear HA
                  simp only [quoinref14_Take.j2] at H
                  have HC42 := Aside0.mk H
                  clear H
                  go_upto_if 56 with (fail)
                  go_cut [6] (fun v6 wc => ∃ (kq : Nat) (x6_41 : Int), v6 = .int .i64 x6_41 ∧ Aside0 (quoinref14_Take.j3 kq l0 x6_41 a1_0 a1_1 a1_2 a1_3 = some (r1, r2, r3, r4)) ∧ Aside0 (kq ≤ kj33) ∧ Aside0 (wc.heap[gb265]? = some (.cells #[.int .i64 a1_0, .int .i64 a1_1, .bool a1_2, .bool a1_3] 27 (0, 0))) ∧ Aside0 (wc.heap[gb266]? = some (.cells #[.bool false, .bool false, (.slice none 0 0)] 38 (0, 0))) ∧ Aside0 (Below w.heap.size w wc))
                  case first =>
                    have H := HC42.out
                    clear HC42
                    by_cases c43 : x56_33 = true
                    · subst c43
                      have H1 : (quoinref14_Take.j3 kj33 l0 (wrap64 (a1_0 + 1)) a1_0 a1_1 a1_2 a1_3) = some (r1, r2, r3, r4) := by rw [if_pos rfl] at H; exact H
                      clear H
                      have H := H1
                      clear H1
                      have H' := Aside0.mk H
                      clear H
                      go_wp2
                      go_meet
                      case rel => exact ⟨_, (wrap64 (a1_0 + 1)), (by first | rfl | (simp; done) | (simp [*]; done)), H', ⟨by have := HJ2.out; have := HJ16.out; have := HJ33.out; first | omega | exact Nat.le_refl _⟩, ⟨by (with_reducible repeat (first | refine blk_drewN ?_ _ | refine blk_drew ?_ | refine blk_alloc ?_ _)); exact BK265.out⟩, ⟨by (with_reducible repeat (first | refine blk_drewN ?_ _ | refine blk_drew ?_ | refine blk_alloc ?_ _)); exact BK266.out⟩, ⟨by repeat (first | (with_reducible first | exact HB.out | apply below_alloc | apply pw_below_drewN | apply below_drew1 | refine below_set ?_ GE265.out | refine below_set ?_ GE266.out) | exact HB.out)⟩⟩
                    · replace c43 := Bool.eq_false_iff.mpr c43
                      subst c43
                      have H1 : (quoinref14_Take.j3 kj33 l0 a1_0 a1_0 a1_1 a1_2 a1_3) = some (r1, r2, r3, r4) := by rw [if_neg (show ¬ (false = true) by decide)] at H; exact H
                      clear H
                      have H := H1
                      clear H1
                      have H' := Aside0.mk H
                      clear H
                      go_wp2
                      go_meet
                      case rel => exact ⟨_, (a1_0), (by first | rfl | (simp; done) | (simp [*]; done)), H', ⟨by have := HJ2.out; have := HJ16.out; have := HJ33.out; first | omega | exact Nat.le_refl _⟩, ⟨by (with_reducible repeat (first | refine blk_drewN ?_ _ | refine blk_drew ?_ | refine blk_alloc ?_ _)); exact BK265.out⟩, ⟨by (with_reducible repeat (first | refine blk_drewN ?_ _ | refine blk_drew ?_ | refine blk_alloc ?_ _)); exact BK266.out⟩, ⟨by repeat (first | (with_reducible first | exact HB.out | apply below_alloc | apply pw_below_drewN | apply below_drew1 | refine below_set ?_ GE265.out | refine below_set ?_ GE266.out) | exact HB.out)⟩⟩
                  case rest =>
                    clear HC42
                    try clear c1
                    try clear c2
                    try clear p2
                    try clear q2
                    try clear hx2
                    try clear c3
                    try clear c4
                    try clear c6
                    try clear c6b0
                    try clear p6
                    try clear c7
                    try clear c9
                    try clear c9b0
                    try clear c10
                    try clear c12
                    try clear c14
                    try clear c15
                    try clear c18
                    try clear c19
                    try clear c20
                    try clear c20b0
                    try clear c20b1
                    try clear c21
                    try clear c23
                    try clear c23b0
                    try clear c24
                    try clear c24b0
                    try clear c25
                    try clear p26
                    try clear q26
                    try clear hx26
                    try clear c27
                    try clear c29
                    try clear c31
                    try clear c32
                    try clear c35
                    try clear c37
                    try clear c38
                    try clear c40
                    try clear c43
                    try clear hcz11_0
                    try clear hcz11_1
                    try clear hcz11_2
                    try clear hcz11_3
                    try clear hcz13_0
                    try clear hcz13_1
                    try clear hcz13_2
                    try clear hcz13_3
                    try clear hcz16_0
                    try clear hcz16_1
                    try clear hcz16_2
                    try clear hcz22_0
                    try clear hcz22_1
                    try clear hcz22_2
                    try clear hcz22_3
                    try clear hcz26_0
                    try clear hcz26_1
                    try clear hcz26_2
                    try clear hcz26_3
                    try clear hcz28_0
                    try clear hcz28_1
                    try clear hcz28_2
                    try clear hcz28_3
                    try clear hcz30_0
                    try clear hcz30_1
                    try clear hcz30_2
                    try clear hcz30_3
                    try clear hcz33_0
                    try clear hcz33_1
                    try clear hcz33_2
                    try clear hcz36_0
                    try clear hcz36_1
                    try clear hcz36_2
                    try clear hcz36_3
                    try clear hcz39_0
                    try clear hcz39_1
                    try clear hcz39_2
                    try clear hcz39_3
                    try clear hcz41_0
                    try clear hcz41_1
                    try clear hcz41_2
                    try clear hcz41_3
                    try clear hcz8_0
                    try clear hcz8_1
                    try clear hcz8_2
                    try clear hcz8_3
                    try clear hfz11_0
                    try clear hfz11_1
                    try clear hfz11_2
                    try clear hfz11_3
                    try clear hfz13_0
                    try clear hfz13_1
                    try clear hfz13_2
                    try clear hfz13_3
                    try clear hfz16_0
                    try clear hfz16_1
                    try clear hfz16_2
                    try clear hfz22_0
                    try clear hfz22_1
                    try clear hfz22_2
                    try clear hfz22_3
                    try clear hfz26_0
                    try clear hfz26_1
                    try clear hfz26_2
                    try clear hfz26_3
                    try clear hfz28_0
                    try clear hfz28_1
                    try clear hfz28_2
                    try clear hfz28_3
                    try clear hfz30_0
                    try clear hfz30_1
                    try clear hfz30_2
                    try clear hfz30_3
                    try clear hfz33_0
                    try clear hfz33_1
                    try clear hfz33_2
                    try clear hfz36_0
                    try clear hfz36_1
                    try clear hfz36_2
                    try clear hfz36_3
                    try clear hfz39_0
                    try clear hfz39_1
                    try clear hfz39_2
                    try clear hfz39_3
                    try clear hfz41_0
                    try clear hfz41_1
                    try clear hfz41_2
                    try clear hfz41_3
                    try clear hfz8_0
                    try clear hfz8_1
                    try clear hfz8_2
                    try clear hfz8_3
                    try clear hx267_0
                    try clear p2
                    try clear p26
                    try clear p267
                    try clear q2
                    try clear q26
                    try clear q267
                    obtain ⟨kq, x6_41, rfl, HA, HJ41, BK265, BK266, HB⟩ := hcut
                    cases kq with
                    | zero => exact absurd HA.out (by simp [quoinref14_Take.j3])
                    | succ kj41 =>
                      have H := HA.out
                      clear HA
                      simp only [quoinref14_Take.j3] at H
                      obtain ⟨y268, hy268⟩ : ∃ y_ : List Int, y_ = (([] : List Int)) := ⟨_, rfl⟩
                      replace H : (quoinref14_Take.l0 kj41 l0 y268 x6_41 a1_0 a1_1 a1_2 a1_3) = some (r1, r2, r3, r4) := by first | (rw [hy268]; with_reducible exact H) | (have H2_ := (Option.bind_some _ _).symm.trans H; rw [hy268]; with_reducible exact H2_) | (have H2_ := (Option.bind_some _ _).symm.trans H; with_reducible exact H2_) | with_reducible exact H | (rw [hy268]; exact H) | exact H
                      have Ny268 := Aside0.mk hy268
                      clear hy268
                      have H' := Aside0.mk H
                      clear H
                      go_wp2_with (first | ((with_reducible refine gate_dst (N := 59) rfl ?_); (try (refine gate_guard (by rfl) ?_; dsimp only)); refine Kd.R_lit (Kd.int .u8) _ 5 ?hg (N := 59) ?hd (xs := ([] : List Int)) (inner := []) (ok := fun _ => True) (okp := fun _ => True) ?hr ?hp (fun _ hk => hk) trivial (Below.refl _ _) (Nat.le_refl _) (by simp) ?_; (case hd => rfl); (case hg => rfl); (case hr => first | (go_simp; done) | (go_simp; rfl)); (case hp => exact (Reps.none _ _)); intro v269 w44 ho45 hb hg_ hnew_; clear hg_ hnew_; (first | rw [← Ny268.out] at ho45 | (simp only [Int.reduceToNat] at ho45; rw [← Ny268.out] at ho45)); have n0_ := Aside0.mk (Kd.R_lower ho45 (below_size (by repeat (first | (with_reducible first | exact HB.out | apply below_alloc | apply pw_below_drewN | apply below_drew1 | refine below_set ?_ GE265.out | refine below_set ?_ GE266.out) | exact HB.out)))); have n1_ := Aside0.mk (blk_below (g := gb265) (o := .cells #[.int .i64 a1_0, .int .i64 a1_1, .bool a1_2, .bool a1_3] 27 (0, 0)) (by (with_reducible repeat (first | refine blk_drewN ?_ _ | refine blk_drew ?_ | refine blk_alloc ?_ _)); exact BK265.out) hb); have n2_ := Aside0.mk (blk_below (g := gb266) (o := .cells #[.bool false, .bool false, .slice none 0 0] 38 (0, 0)) (by (with_reducible repeat (first | refine blk_drewN ?_ _ | refine blk_drew ?_ | refine blk_alloc ?_ _)); exact BK266.out) hb); have n3_ := Aside0.mk (below_step (by repeat (first | (with_reducible first | exact HB.out | apply below_alloc | apply pw_below_drewN | apply below_drew1 | refine below_set ?_ GE265.out | refine below_set ?_ GE266.out) | exact HB.out)) hb); clear BK265; clear BK266; clear HB; have HO270 := n0_; have BK265 := n1_; have BK266 := n2_; have HB := n3_; clear n0_ n1_ n2_ n3_; clear hb ho45))
                      go_loopg [7, 8] kj41 (fun kq v7 v8 w' => ∃ (x7_5 : List Int) (x8_5 : Int), v8 = .int .i64 x8_5 ∧ Aside0 (quoinref14_Take.l0 kq l0 x7_5 x8_5 a1_0 a1_1 a1_2 a1_3 = some (r1, r2, r3, r4)) ∧ Aside0 (kq ≤ kj41) ∧ Aside0 (Kd.R (Kd.int .u8) 5 w' w.heap.size (fun _ => True) v7 x7_5) ∧ Aside0 (w'.heap[gb265]? = some (.cells #[.int .i64 a1_0, .int .i64 a1_1, .bool a1_2, .bool a1_3] 27 (0, 0))) ∧ Aside0 (w'.heap[gb266]? = some (.cells #[.bool false, .bool false, (.slice none 0 0)] 38 (0, 0))) ∧ Aside0 (Below w.heap.size w w'))
                      case atStart => exact ⟨(y268), (x6_41), (by first | rfl | (simp; done) | (simp [*]; done)), H', ⟨Nat.le_refl _⟩, ⟨by (with_reducible repeat (first | apply Kd.R_alloc | apply Kd.R_drewN | apply Kd.R_drew)); exact HO270.out⟩, ⟨by (with_reducible repeat (first | refine blk_drewN ?_ _ | refine blk_drew ?_ | refine blk_alloc ?_ _)); exact BK265.out⟩, ⟨by (with_reducible repeat (first | refine blk_drewN ?_ _ | refine blk_drew ?_ | refine blk_alloc ?_ _)); exact BK266.out⟩, ⟨by repeat (first | (with_reducible first | exact HB.out | apply below_alloc | apply pw_below_drewN | apply below_drew1 | refine below_set ?_ GE265.out | refine below_set ?_ GE266.out) | exact HB.out)⟩⟩
                      case round =>
                        clear H'
                        try clear c1
                        try clear c2
                        try clear p2
                        try clear q2
                        try clear hx2
                        try clear c3
                        try clear c4
                        try clear c6
                        try clear c6b0
                        try clear p6
                        try clear c7
                        try clear c9
                        try clear c9b0
                        try clear c10
                        try clear c12
                        try clear c14
                        try clear c15
                        try clear c18
                        try clear c19
                        try clear c20
                        try clear c20b0
                        try clear c20b1
                        try clear c21
                        try clear c23
                        try clear c23b0
                        try clear c24
                        try clear c24b0
                        try clear c25
                        try clear p26
                        try clear q26
                        try clear hx26
                        try clear c27
                        try clear c29
                        try clear c31
                        try clear c32
                        try clear c35
                        try clear c37
                        try clear c38
                        try clear c40
                        try clear c43
                        try clear hcz11_0
                        try clear hcz11_1
                        try clear hcz11_2
                        try clear hcz11_3
                        try clear hcz13_0
                        try clear hcz13_1
                        try clear hcz13_2
                        try clear hcz13_3
                        try clear hcz16_0
                        try clear hcz16_1
                        try clear hcz16_2
                        try clear hcz22_0
                        try clear hcz22_1
                        try clear hcz22_2
                        try clear hcz22_3
                        try clear hcz26_0
                        try clear hcz26_1
                        try clear hcz26_2
                        try clear hcz26_3
                        try clear hcz28_0
                        try clear hcz28_1
                        try clear hcz28_2
                        try clear hcz28_3
                        try clear hcz30_0
                        try clear hcz30_1
                        try clear hcz30_2
                        try clear hcz30_3
                        try clear hcz33_0
                        try clear hcz33_1
                        try clear hcz33_2
                        try clear hcz36_0
                        try clear hcz36_1
                        try clear hcz36_2
                        try clear hcz36_3
                        try clear hcz39_0
                        try clear hcz39_1
                        try clear hcz39_2
                        try clear hcz39_3
                        try clear hcz41_0
                        try clear hcz41_1
                        try clear hcz41_2
                        try clear hcz41_3
                        try clear hcz8_0
                        try clear hcz8_1
                        try clear hcz8_2
                        try clear hcz8_3
                        try clear hfz11_0
                        try clear hfz11_1
                        try clear hfz11_2
                        try clear hfz11_3
                        try clear hfz13_0
                        try clear hfz13_1
                        try clear hfz13_2
                        try clear hfz13_3
                        try clear hfz16_0
                        try clear hfz16_1
                        try clear hfz16_2
                        try clear hfz22_0
                        try clear hfz22_1
                        try clear hfz22_2
                        try clear hfz22_3
                        try clear hfz26_0
                        try clear hfz26_1
                        try clear hfz26_2
                        try clear hfz26_3
                        try clear hfz28_0
                        try clear hfz28_1
                        try clear hfz28_2
                        try clear hfz28_3
                        try clear hfz30_0
                        try clear hfz30_1
                        try clear hfz30_2
                        try clear hfz30_3
                        try clear hfz33_0
                        try clear hfz33_1
                        try clear hfz33_2
                        try clear hfz36_0
                        try clear hfz36_1
                        try clear hfz36_2
                        try clear hfz36_3
                        try clear hfz39_0
                        try clear hfz39_1
                        try clear hfz39_2
                        try clear hfz39_3
                        try clear hfz41_0
                        try clear hfz41_1
                        try clear hfz41_2
                        try clear hfz41_3
                        try clear hfz8_0
                        try clear hfz8_1
                        try clear hfz8_2
                        try clear hfz8_3
                        try clear hx267_0
                        try clear p2
                        try clear p26
                        try clear p267
                        try clear p6
                        try clear q2
                        try clear q26
                        try clear q267
                        obtain ⟨x7_5, x8_5, rfl, HA, HK5, HO_7, BK265, BK266, HB⟩ := hrel
                        cases gk with
                        | zero => exact absurd HA.out (by simp [quoinref14_Take.l0])
                        | succ k5 =>
                          have H := HA.out
                          clear HA
                          simp only [quoinref14_Take.l0] at H
                          by_cases c46 : x8_5 < a1_1
                          · rw [if_pos c46] at H
                            have c46b0 : decide (x8_5 < a1_1) = true := decide_eq_true c46
                            clear c46
                            by_cases c47 : 0 ≤ x8_5
                            · rw [if_pos c47] at H
                              have c47b0 : decide (0 ≤ x8_5) = true := decide_eq_true c47
                              clear c47
                              by_cases c48 : x8_5 < (l0.length : Int)
                              · rw [if_pos c48] at H
                                have c48b0 : decide (x8_5 < (l0.length : Int)) = true := decide_eq_true c48
                                clear c48
                                by_cases c49 : x7_5.length < 140737488355328
                                · rw [if_pos c49] at H
                                  have LMc49 := Aside0.mk c49
                                  clear c49
                                  obtain ⟨y272, hy272⟩ : ∃ y_ : List Int, y_ = (x7_5 ++ [rd l0 x8_5]) := ⟨_, rfl⟩
                                  replace H : (quoinref14_Take.l0 k5 l0 y272 (wrap64 (x8_5 + 1)) a1_0 a1_1 a1_2 a1_3) = some (r1, r2, r3, r4) := by first | (rw [hy272]; with_reducible exact H) | (have H2_ := (Option.bind_some _ _).symm.trans H; rw [hy272]; with_reducible exact H2_) | (have H2_ := (Option.bind_some _ _).symm.trans H; with_reducible exact H2_) | with_reducible exact H | (rw [hy272]; exact H) | exact H
                                  have Ny272 := Aside0.mk hy272
                                  clear hy272
                                  have H' := Aside0.mk H
                                  clear H
                                  have hnb50 := NB265_266.out
                                  have hnc50 := NB266_265.out
                                  have hcz51_0 : wr.cell? ⟨gb265, 0, none⟩ = some (.int .i64 a1_0) := (blk_cell BK265.out 0).trans rfl
                                  have hcz51_1 : wr.cell? ⟨gb265, 1, none⟩ = some (.int .i64 a1_1) := (blk_cell BK265.out 1).trans rfl
                                  have hcz51_2 : wr.cell? ⟨gb265, 2, none⟩ = some (.bool a1_2) := (blk_cell BK265.out 2).trans rfl
                                  have hcz51_3 : wr.cell? ⟨gb265, 3, none⟩ = some (.bool a1_3) := (blk_cell BK265.out 3).trans rfl
                                  have hfz51_0 := blk_frozen BK265.out 0
                                  have hfz51_1 := blk_frozen BK265.out 1
                                  have hfz51_2 := blk_frozen BK265.out 2
                                  have hfz51_3 := blk_frozen BK265.out 3
                                  have p271 : 0 ≤ (x8_5 : Int) := of_decide_eq_true (by first | (with_reducible assumption) | assumption)
                                  have q271 : x8_5 < (l0.length : Int) := of_decide_eq_true (by first | (with_reducible assumption) | assumption)
                                  obtain ⟨ad271, e271, hx271_0⟩ := Kd.at_int HR0.out x8_5 p271 q271
                                  cases e271
                                  replace hx271_0 := (HB.out.cell (World.block_lt_of_cell? w _ hx271_0)).trans hx271_0
                                  replace p271 := eq_true p271
                                  replace q271 := eq_true q271
                                  go_wp2_with (first | ((with_reducible refine gate_builtin (b := .append) (xs := #[.tmp 67, .tmp 72]) rfl ?_); (try (refine gate_guard (by rfl) ?_; dsimp only)); at_builtin; refine Kd.R_append (Kd.int .u8) (w0 := w) w.heap.size rfl (.tmp 67) (.tmp 72) 22 5 (.int .u8 0) 1 rfl Try.underlying22 info5 rfl (by decide) (by omega) u7 x7_5 (rd l0 x8_5) [.int .u8 (rd l0 x8_5)] (fun _ => True) (fun _ => False) rfl rfl ?aP (fun _ hk => hk.elim) ?aF ?aO ?aB ?aS ?aL ?_; (case aP => exact rfl); (case aB => exact (by repeat (first | (with_reducible first | exact HB.out | apply below_alloc | apply pw_below_drewN | apply below_drew1 | refine below_set ?_ GE265.out | refine below_set ?_ GE266.out) | exact HB.out))); (case aF => exact (fun _ _ => trivial)); (case aO => exact (by (with_reducible repeat (first | apply Kd.R_alloc | apply Kd.R_drewN | apply Kd.R_drew)); exact HO_7.out)); (case aS => exact (below_size (by repeat (first | (with_reducible first | exact HB.out | apply below_alloc | apply pw_below_drewN | apply below_drew1 | refine below_set ?_ GE265.out | refine below_set ?_ GE266.out) | exact HB.out)))); (case aL => have := LMc49.out; omega); intro v273 w52 ho hb hg hat; rw [← Ny272.out] at ho; have n0_ := Aside0.mk (blk_grown (g := gb265) (o := .cells #[.int .i64 a1_0, .int .i64 a1_1, .bool a1_2, .bool a1_3] 27 (0, 0)) (by (with_reducible repeat (first | refine blk_drewN ?_ _ | refine blk_drew ?_ | refine blk_alloc ?_ _)); exact BK265.out) hg (Kd.R_ne HO_7.out BK265.out (by decide))); have n1_ := Aside0.mk (blk_grown (g := gb266) (o := .cells #[.bool false, .bool false, .slice none 0 0] 38 (0, 0)) (by (with_reducible repeat (first | refine blk_drewN ?_ _ | refine blk_drew ?_ | refine blk_alloc ?_ _)); exact BK266.out) hg (Kd.R_ne HO_7.out BK266.out (by decide))); have n2_ := Aside0.mk (hb); have n3_ := Aside0.mk (ho); clear BK265; clear BK266; clear HB; clear HO_7; have BK265 := n0_; have BK266 := n1_; have HB := n2_; have HO274 := n3_; clear n0_ n1_ n2_ n3_; clear ho hb hg hat))
                                  go_roundg k5
                                  case measure => have := HJ2.out; have := HJ16.out; have := HJ33.out; have := HJ41.out; have := HK5.out; omega
                                  case rel => exact ⟨(y272), (wrap64 (x8_5 + 1)), (by first | rfl | (simp; done) | (simp [*]; done)), H', ⟨by have := HJ2.out; have := HJ16.out; have := HJ33.out; have := HJ41.out; have := HK5.out; omega⟩, ⟨by (with_reducible repeat (first | apply Kd.R_alloc | apply Kd.R_drewN | apply Kd.R_drew)); exact HO274.out⟩, ⟨by (with_reducible repeat (first | refine blk_drewN ?_ _ | refine blk_drew ?_ | refine blk_alloc ?_ _)); exact BK265.out⟩, ⟨by (with_reducible repeat (first | refine blk_drewN ?_ _ | refine blk_drew ?_ | refine blk_alloc ?_ _)); exact BK266.out⟩, ⟨by repeat (first | (with_reducible first | exact HB.out | apply below_alloc | apply pw_below_drewN | apply below_drew1 | refine below_set ?_ GE265.out | refine below_set ?_ GE266.out) | exact HB.out)⟩⟩
                                · rw [if_neg c49] at H
                                  exact absurd H (by simp)
                              · rw [if_neg c48] at H
                                exact absurd H (by simp)
                            · rw [if_neg c47] at H
                              exact absurd H (by simp)
                          · rw [if_neg c46] at H
                            have c46b0 : decide (x8_5 < a1_1) = false := decide_eq_false c46
                            clear c46
                            by_cases c53 : a1_2 = true
                            · subst c53
                              have H1 : (if a1_3 = true then (if x7_5.length < 140737488355328 then (some (true, true, (x7_5 ++ [10]), 0)) else (none)) else (if (x7_5.length : Int) = 0 then (if x7_5.length < 140737488355328 then (some (true, true, (x7_5 ++ [10]), 0)) else (none)) else (if 0 ≤ (wrap64 ((x7_5.length : Int) - 1)) then (if (wrap64 ((x7_5.length : Int) - 1)) < (x7_5.length : Int) then (if (rd x7_5 (wrap64 ((x7_5.length : Int) - 1))) = 10 then (some (true, true, x7_5, 0)) else (if x7_5.length < 140737488355328 then (some (true, true, (x7_5 ++ [10]), 0)) else (none))) else (none)) else (none)))) = some (r1, r2, r3, r4) := by rw [if_pos rfl] at H; exact H
                              clear H
                              have H := H1
                              clear H1
                              by_cases c54 : a1_3 = true
                              · subst c54
                                have H1 : (if x7_5.length < 140737488355328 then (some (true, true, (x7_5 ++ [10]), 0)) else (none)) = some (r1, r2, r3, r4) := by rw [if_pos rfl] at H; exact H
                                clear H
                                have H := H1
                                clear H1
                                by_cases c55 : x7_5.length < 140737488355328
                                · rw [if_pos c55] at H
                                  have LMc55 := Aside0.mk c55
                                  clear c55
                                  obtain ⟨y275, hy275⟩ : ∃ y_ : List Int, y_ = (x7_5 ++ [10]) := ⟨_, rfl⟩
                                  replace H : (some (true, true, y275, 0)) = some (r1, r2, r3, r4) := by first | (rw [hy275]; with_reducible exact H) | (have H2_ := (Option.bind_some _ _).symm.trans H; rw [hy275]; with_reducible exact H2_) | (have H2_ := (Option.bind_some _ _).symm.trans H; with_reducible exact H2_) | with_reducible exact H | (rw [hy275]; exact H) | exact H
                                  have Ny275 := Aside0.mk hy275
                                  clear hy275
                                  simp only [Option.some.injEq, Prod.mk.injEq] at H
                                  obtain ⟨rfl, rfl, rfl, rfl⟩ := H
                                  have hnb56 := NB265_266.out
                                  have hnc56 := NB266_265.out
                                  have hcz57_0 : wr.cell? ⟨gb265, 0, none⟩ = some (.int .i64 a1_0) := (blk_cell BK265.out 0).trans rfl
                                  have hcz57_1 : wr.cell? ⟨gb265, 1, none⟩ = some (.int .i64 a1_1) := (blk_cell BK265.out 1).trans rfl
                                  have hcz57_2 : wr.cell? ⟨gb265, 2, none⟩ = some (.bool true) := (blk_cell BK265.out 2).trans rfl
                                  have hcz57_3 : wr.cell? ⟨gb265, 3, none⟩ = some (.bool true) := (blk_cell BK265.out 3).trans rfl
                                  have hfz57_0 := blk_frozen BK265.out 0
                                  have hfz57_1 := blk_frozen BK265.out 1
                                  have hfz57_2 := blk_frozen BK265.out 2
                                  have hfz57_3 := blk_frozen BK265.out 3
                                  go_wp2_with (first | ((with_reducible refine gate_builtin (b := .append) (xs := #[.tmp 94, .tmp 95]) rfl ?_); (try (refine gate_guard (by rfl) ?_; dsimp only)); at_builtin; refine Kd.R_append (Kd.int .u8) (w0 := w) w.heap.size rfl (.tmp 94) (.tmp 95) 22 5 (.int .u8 0) 1 rfl Try.underlying22 info5 rfl (by decide) (by omega) u7 x7_5 10 [.int .u8 10] (fun _ => True) (fun _ => False) rfl rfl ?aP (fun _ hk => hk.elim) ?aF ?aO ?aB ?aS ?aL ?_; (case aP => exact rfl); (case aB => exact (by repeat (first | (with_reducible first | exact HB.out | apply below_alloc | apply pw_below_drewN | apply below_drew1 | refine below_set ?_ GE265.out | refine below_set ?_ GE266.out) | exact HB.out))); (case aF => exact (fun _ _ => trivial)); (case aO => exact (by (with_reducible repeat (first | apply Kd.R_alloc | apply Kd.R_drewN | apply Kd.R_drew)); exact HO_7.out)); (case aS => exact (below_size (by repeat (first | (with_reducible first | exact HB.out | apply below_alloc | apply pw_below_drewN | apply below_drew1 | refine below_set ?_ GE265.out | refine below_set ?_ GE266.out) | exact HB.out)))); (case aL => have := LMc55.out; omega); intro v276 w58 ho hb hg hat; rw [← Ny275.out] at ho; have n0_ := Aside0.mk (blk_grown (g := gb265) (o := .cells #[.int .i64 a1_0, .int .i64 a1_1, .bool true, .bool true] 27 (0, 0)) (by (with_reducible repeat (first | refine blk_drewN ?_ _ | refine blk_drew ?_ | refine blk_alloc ?_ _)); exact BK265.out) hg (Kd.R_ne HO_7.out BK265.out (by decide))); have n1_ := Aside0.mk (blk_grown (g := gb266) (o := .cells #[.bool false, .bool false, .slice none 0 0] 38 (0, 0)) (by (with_reducible repeat (first | refine blk_drewN ?_ _ | refine blk_drew ?_ | refine blk_alloc ?_ _)); exact BK266.out) hg (Kd.R_ne HO_7.out BK266.out (by decide))); have n2_ := Aside0.mk (hb); have n3_ := Aside0.mk (ho); clear BK265; clear BK266; clear HB; clear HO_7; have BK265 := n0_; have BK266 := n1_; have HB := n2_; have HO277 := n3_; clear n0_ n1_ n2_ n3_; clear ho hb hg hat; have hcz59_0 : w58.cell? ⟨gb265, 0, none⟩ = some (.int .i64 a1_0) := (blk_cell BK265.out 0).trans rfl; have hcz59_1 : w58.cell? ⟨gb265, 1, none⟩ = some (.int .i64 a1_1) := (blk_cell BK265.out 1).trans rfl; have hcz59_2 : w58.cell? ⟨gb265, 2, none⟩ = some (.bool true) := (blk_cell BK265.out 2).trans rfl; have hcz59_3 : w58.cell? ⟨gb265, 3, none⟩ = some (.bool true) := (blk_cell BK265.out 3).trans rfl; have hfz59_0 := blk_frozen BK265.out 0; have hfz59_1 := blk_frozen BK265.out 1; have hfz59_2 := blk_frozen BK265.out 2; have hfz59_3 := blk_frozen BK265.out 3; obtain ⟨Ao60, co60, eo60⟩ := Kd.R_slice HO277.out; subst eo60; have hcz61_0 : w58.cell? ⟨gb266, 0, none⟩ = some (.bool false) := (blk_cell BK266.out 0).trans rfl; have hcz61_1 : w58.cell? ⟨gb266, 1, none⟩ = some (.bool false) := (blk_cell BK266.out 1).trans rfl; have hcz61_2 : w58.cell? ⟨gb266, 2, none⟩ = some (.slice none 0 0) := (blk_cell BK266.out 2).trans rfl; have hfz61_0 := blk_frozen BK266.out 0; have hfz61_1 := blk_frozen BK266.out 1; have hfz61_2 := blk_frozen BK266.out 2))
                                  refine bodyPost_ret (results_ct rfl _ _ gb266 38 #[.bool true, .bool true, .slice Ao60 y275.length co60] (0, 0) _ rfl (by (with_reducible repeat (first | refine blk_drewN ?_ _ | refine blk_drew ?_ | refine blk_alloc ?_ _)); refine blk_put (cs := #[.bool true, .bool true, .slice none 0 0]) ?_ 2 _ rfl; (with_reducible repeat (first | refine blk_drewN ?_ _ | refine blk_drew ?_ | refine blk_alloc ?_ _)); refine blk_put (cs := #[.bool true, .bool false, .slice none 0 0]) ?_ 1 _ rfl; (with_reducible repeat (first | refine blk_drewN ?_ _ | refine blk_drew ?_ | refine blk_alloc ?_ _)); refine blk_put (cs := #[.bool false, .bool false, .slice none 0 0]) ?_ 0 _ rfl; (with_reducible repeat (first | refine blk_drewN ?_ _ | refine blk_drew ?_ | refine blk_alloc ?_ _)); exact BK266.out) Try.underlying38 rfl (by kernel_rfl)) rfl ?_
                                  exact ⟨_, by first | rfl | (simp [errW_none, errW_some] <;> rfl) | (simp [*, errW_none, errW_some] <;> rfl), by (with_reducible repeat (first | apply Kd.R_alloc | apply Kd.R_drewN | apply Kd.R_drew)); exact Kd.R_mono (Kd.R_far (p := ⟨gb266, 2, none⟩) (Kd.R_far (p := ⟨gb266, 1, none⟩) (Kd.R_far (p := ⟨gb266, 0, none⟩) (Kd.R_types HO277.out BK266.out (by decide)) (fun _ hk => hk.2) (.bool true)) (fun _ hk => hk.2) (.bool true)) (fun _ hk => hk.2) (.slice Ao60 y275.length co60)) (fun _ hk => trivial), by repeat (first | (with_reducible first | exact HB.out | apply below_alloc | apply pw_below_drewN | apply below_drew1 | refine below_set ?_ GE265.out | refine below_set ?_ GE266.out) | exact HB.out)⟩
                                · rw [if_neg c55] at H
                                  exact absurd H (by simp)
                              · replace c54 := Bool.eq_false_iff.mpr c54
                                subst c54
                                have H1 : (if (x7_5.length : Int) = 0 then (if x7_5.length < 140737488355328 then (some (true, true, (x7_5 ++ [10]), 0)) else (none)) else (if 0 ≤ (wrap64 ((x7_5.length : Int) - 1)) then (if (wrap64 ((x7_5.length : Int) - 1)) < (x7_5.length : Int) then (if (rd x7_5 (wrap64 ((x7_5.length : Int) - 1))) = 10 then (some (true, true, x7_5, 0)) else (if x7_5.length < 140737488355328 then (some (true, true, (x7_5 ++ [10]), 0)) else (none))) else (none)) else (none))) = some (r1, r2, r3, r4) := by rw [if_neg (show ¬ (false = true) by decide)] at H; exact H
                                clear H
                                have H := H1
                                clear H1
                                by_cases c62 : (x7_5.length : Int) = 0
                                · rw [if_pos c62] at H
                                  have c62b0 : ((x7_5.length : Int) == 0) = true := beq_iff_eq.mpr c62
                                  have c62b1 : ((x7_5.length : Int) != 0) = false := bne_eq_false_iff_eq.mpr c62
                                  clear c62
                                  by_cases c63 : x7_5.length < 140737488355328
                                  · rw [if_pos c63] at H
                                    have LMc63 := Aside0.mk c63
                                    clear c63
                                    obtain ⟨y278, hy278⟩ : ∃ y_ : List Int, y_ = (x7_5 ++ [10]) := ⟨_, rfl⟩
                                    replace H : (some (true, true, y278, 0)) = some (r1, r2, r3, r4) := by first | (rw [hy278]; with_reducible exact H) | (have H2_ := (Option.bind_some _ _).symm.trans H; rw [hy278]; with_reducible exact H2_) | (have H2_ := (Option.bind_some _ _).symm.trans H; with_reducible exact H2_) | with_reducible exact H | (rw [hy278]; exact H) | exact H
                                    have Ny278 := Aside0.mk hy278
                                    clear hy278
                                    simp only [Option.some.injEq, Prod.mk.injEq] at H
                                    obtain ⟨rfl, rfl, rfl, rfl⟩ := H
                                    have hnb64 := NB265_266.out
                                    have hnc64 := NB266_265.out
                                    have hcz65_0 : wr.cell? ⟨gb265, 0, none⟩ = some (.int .i64 a1_0) := (blk_cell BK265.out 0).trans rfl
                                    have hcz65_1 : wr.cell? ⟨gb265, 1, none⟩ = some (.int .i64 a1_1) := (blk_cell BK265.out 1).trans rfl
                                    have hcz65_2 : wr.cell? ⟨gb265, 2, none⟩ = some (.bool true) := (blk_cell BK265.out 2).trans rfl
                                    have hcz65_3 : wr.cell? ⟨gb265, 3, none⟩ = some (.bool false) := (blk_cell BK265.out 3).trans rfl
                                    have hfz65_0 := blk_frozen BK265.out 0
                                    have hfz65_1 := blk_frozen BK265.out 1
                                    have hfz65_2 := blk_frozen BK265.out 2
                                    have hfz65_3 := blk_frozen BK265.out 3
                                    obtain ⟨Ao66, co66, eo66⟩ := Kd.R_slice HO_7.out
                                    subst eo66
                                    go_wp2_with (first | ((with_reducible refine gate_builtin (b := .append) (xs := #[.tmp 94, .tmp 95]) rfl ?_); (try (refine gate_guard (by rfl) ?_; dsimp only)); at_builtin; refine Kd.R_append (Kd.int .u8) (w0 := w) w.heap.size rfl (.tmp 94) (.tmp 95) 22 5 (.int .u8 0) 1 rfl Try.underlying22 info5 rfl (by decide) (by omega) (.slice Ao66 x7_5.length co66) x7_5 10 [.int .u8 10] (fun _ => True) (fun _ => False) rfl rfl ?aP (fun _ hk => hk.elim) ?aF ?aO ?aB ?aS ?aL ?_; (case aP => exact rfl); (case aB => exact (by repeat (first | (with_reducible first | exact HB.out | apply below_alloc | apply pw_below_drewN | apply below_drew1 | refine below_set ?_ GE265.out | refine below_set ?_ GE266.out) | exact HB.out))); (case aF => exact (fun _ _ => trivial)); (case aO => exact (by (with_reducible repeat (first | apply Kd.R_alloc | apply Kd.R_drewN | apply Kd.R_drew)); exact HO_7.out)); (case aS => exact (below_size (by repeat (first | (with_reducible first | exact HB.out | apply below_alloc | apply pw_below_drewN | apply below_drew1 | refine below_set ?_ GE265.out | refine below_set ?_ GE266.out) | exact HB.out)))); (case aL => have := LMc63.out; omega); intro v279 w67 ho hb hg hat; rw [← Ny278.out] at ho; have n0_ := Aside0.mk (blk_grown (g := gb265) (o := .cells #[.int .i64 a1_0, .int .i64 a1_1, .bool true, .bool false] 27 (0, 0)) (by (with_reducible repeat (first | refine blk_drewN ?_ _ | refine blk_drew ?_ | refine blk_alloc ?_ _)); exact BK265.out) hg (Kd.R_ne HO_7.out BK265.out (by decide))); have n1_ := Aside0.mk (blk_grown (g := gb266) (o := .cells #[.bool false, .bool false, .slice none 0 0] 38 (0, 0)) (by (with_reducible repeat (first | refine blk_drewN ?_ _ | refine blk_drew ?_ | refine blk_alloc ?_ _)); exact BK266.out) hg (Kd.R_ne HO_7.out BK266.out (by decide))); have n2_ := Aside0.mk (hb); have n3_ := Aside0.mk (ho); clear BK265; clear BK266; clear HB; clear HO_7; have BK265 := n0_; have BK266 := n1_; have HB := n2_; have HO280 := n3_; clear n0_ n1_ n2_ n3_; clear ho hb hg hat; have hcz68_0 : w67.cell? ⟨gb265, 0, none⟩ = some (.int .i64 a1_0) := (blk_cell BK265.out 0).trans rfl; have hcz68_1 : w67.cell? ⟨gb265, 1, none⟩ = some (.int .i64 a1_1) := (blk_cell BK265.out 1).trans rfl; have hcz68_2 : w67.cell? ⟨gb265, 2, none⟩ = some (.bool true) := (blk_cell BK265.out 2).trans rfl; have hcz68_3 : w67.cell? ⟨gb265, 3, none⟩ = some (.bool false) := (blk_cell BK265.out 3).trans rfl; have hfz68_0 := blk_frozen BK265.out 0; have hfz68_1 := blk_frozen BK265.out 1; have hfz68_2 := blk_frozen BK265.out 2; have hfz68_3 := blk_frozen BK265.out 3; obtain ⟨Ao69, co69, eo69⟩ := Kd.R_slice HO280.out; subst eo69; have hcz70_0 : w67.cell? ⟨gb266, 0, none⟩ = some (.bool false) := (blk_cell BK266.out 0).trans rfl; have hcz70_1 : w67.cell? ⟨gb266, 1, none⟩ = some (.bool false) := (blk_cell BK266.out 1).trans rfl; have hcz70_2 : w67.cell? ⟨gb266, 2, none⟩ = some (.slice none 0 0) := (blk_cell BK266.out 2).trans rfl; have hfz70_0 := blk_frozen BK266.out 0; have hfz70_1 := blk_frozen BK266.out 1; have hfz70_2 := blk_frozen BK266.out 2))
                                    refine bodyPost_ret (results_ct rfl _ _ gb266 38 #[.bool true, .bool true, .slice Ao69 y278.length co69] (0, 0) _ rfl (by (with_reducible repeat (first | refine blk_drewN ?_ _ | refine blk_drew ?_ | refine blk_alloc ?_ _)); refine blk_put (cs := #[.bool true, .bool true, .slice none 0 0]) ?_ 2 _ rfl; (with_reducible repeat (first | refine blk_drewN ?_ _ | refine blk_drew ?_ | refine blk_alloc ?_ _)); refine blk_put (cs := #[.bool true, .bool false, .slice none 0 0]) ?_ 1 _ rfl; (with_reducible repeat (first | refine blk_drewN ?_ _ | refine blk_drew ?_ | refine blk_alloc ?_ _)); refine blk_put (cs := #[.bool false, .bool false, .slice none 0 0]) ?_ 0 _ rfl; (with_reducible repeat (first | refine blk_drewN ?_ _ | refine blk_drew ?_ | refine blk_alloc ?_ _)); exact BK266.out) Try.underlying38 rfl (by kernel_rfl)) rfl ?_
                                    exact ⟨_, by first | rfl | (simp [errW_none, errW_some] <;> rfl) | (simp [*, errW_none, errW_some] <;> rfl), by (with_reducible repeat (first | apply Kd.R_alloc | apply Kd.R_drewN | apply Kd.R_drew)); exact Kd.R_mono (Kd.R_far (p := ⟨gb266, 2, none⟩) (Kd.R_far (p := ⟨gb266, 1, none⟩) (Kd.R_far (p := ⟨gb266, 0, none⟩) (Kd.R_types HO280.out BK266.out (by decide)) (fun _ hk => hk.2) (.bool true)) (fun _ hk => hk.2) (.bool true)) (fun _ hk => hk.2) (.slice Ao69 y278.length co69)) (fun _ hk => trivial), by repeat (first | (with_reducible first | exact HB.out | apply below_alloc | apply pw_below_drewN | apply below_drew1 | refine below_set ?_ GE265.out | refine below_set ?_ GE266.out) | exact HB.out)⟩
                                  · rw [if_neg c63] at H
                                    exact absurd H (by simp)
                                · rw [if_neg c62] at H
                                  have c62b0 : ((x7_5.length : Int) == 0) = false := beq_eq_false_iff_ne.mpr c62
                                  have c62b1 : ((x7_5.length : Int) != 0) = true := bne_iff_ne.mpr c62
                                  have c62b2 : ¬ (x7_5 = []) := fun h_ => c62 (by rw [h_]; rfl)
                                  obtain ⟨ji71, hji71⟩ : ∃ j_ : Int, (wrap64 ((x7_5.length : Int) - 1)) = j_ := ⟨_, rfl⟩
                                  replace H : (if 0 ≤ (ji71) then (if (ji71) < (x7_5.length : Int) then (if (rd x7_5 (ji71)) = 10 then (some (true, true, x7_5, 0)) else (if x7_5.length < 140737488355328 then (some (true, true, (x7_5 ++ [10]), 0)) else (none))) else (none)) else (none)) = some (r1, r2, r3, r4) := by first | (rw [hji71] at H; exact H) | (simp only [hji71] at H ⊢; exact H)
                                  have hji71w : (IntKind.i64.wrap ((x7_5.length : Int) - 1)) = ji71 := (i64_w _).trans hji71
                                  by_cases c72 : 0 ≤ (ji71)
                                  · rw [if_pos c72] at H
                                    have c72b0 : decide (0 ≤ (ji71)) = true := decide_eq_true c72
                                    clear c72
                                    by_cases c73 : (ji71) < (x7_5.length : Int)
                                    · rw [if_pos c73] at H
                                      have c73b0 : decide ((ji71) < (x7_5.length : Int)) = true := decide_eq_true c73
                                      clear c73
                                      by_cases c74 : (rd x7_5 (ji71)) = 10
                                      · rw [if_pos c74] at H
                                        have c74b0 : ((rd x7_5 (ji71)) == 10) = true := beq_iff_eq.mpr c74
                                        have c74b1 : ((rd x7_5 (ji71)) != 10) = false := bne_eq_false_iff_eq.mpr c74
                                        clear c74
                                        simp only [Option.some.injEq, Prod.mk.injEq] at H
                                        obtain ⟨rfl, rfl, rfl, rfl⟩ := H
                                        have hnb75 := NB265_266.out
                                        have hnc75 := NB266_265.out
                                        have hcz76_0 : wr.cell? ⟨gb265, 0, none⟩ = some (.int .i64 a1_0) := (blk_cell BK265.out 0).trans rfl
                                        have hcz76_1 : wr.cell? ⟨gb265, 1, none⟩ = some (.int .i64 a1_1) := (blk_cell BK265.out 1).trans rfl
                                        have hcz76_2 : wr.cell? ⟨gb265, 2, none⟩ = some (.bool true) := (blk_cell BK265.out 2).trans rfl
                                        have hcz76_3 : wr.cell? ⟨gb265, 3, none⟩ = some (.bool false) := (blk_cell BK265.out 3).trans rfl
                                        have hfz76_0 := blk_frozen BK265.out 0
                                        have hfz76_1 := blk_frozen BK265.out 1
                                        have hfz76_2 := blk_frozen BK265.out 2
                                        have hfz76_3 := blk_frozen BK265.out 3
                                        obtain ⟨Ao77, co77, eo77⟩ := Kd.R_slice HO_7.out
                                        subst eo77
                                        have p281 : 0 ≤ ((ji71) : Int) := of_decide_eq_true (by first | (with_reducible assumption) | assumption)
                                        have q281 : (ji71) < (x7_5.length : Int) := of_decide_eq_true (by first | (with_reducible assumption) | assumption)
                                        obtain ⟨ad281, e281, hx281_0⟩ := Kd.at_int (Kd.R_reads' HO_7.out).2.2 (ji71) p281 q281
                                        cases e281
                                        replace p281 := eq_true p281
                                        replace q281 := eq_true q281
                                        have hcz78_0 : wr.cell? ⟨gb266, 0, none⟩ = some (.bool false) := (blk_cell BK266.out 0).trans rfl
                                        have hcz78_1 : wr.cell? ⟨gb266, 1, none⟩ = some (.bool false) := (blk_cell BK266.out 1).trans rfl
                                        have hcz78_2 : wr.cell? ⟨gb266, 2, none⟩ = some (.slice none 0 0) := (blk_cell BK266.out 2).trans rfl
                                        have hfz78_0 := blk_frozen BK266.out 0
                                        have hfz78_1 := blk_frozen BK266.out 1
                                        have hfz78_2 := blk_frozen BK266.out 2
                                        go_wp2
                                        refine bodyPost_ret (results_ct rfl _ _ gb266 38 #[.bool true, .bool true, .slice (some ad281) x7_5.length co77] (0, 0) _ rfl (by (with_reducible repeat (first | refine blk_drewN ?_ _ | refine blk_drew ?_ | refine blk_alloc ?_ _)); refine blk_put (cs := #[.bool true, .bool true, .slice none 0 0]) ?_ 2 _ rfl; (with_reducible repeat (first | refine blk_drewN ?_ _ | refine blk_drew ?_ | refine blk_alloc ?_ _)); refine blk_put (cs := #[.bool true, .bool false, .slice none 0 0]) ?_ 1 _ rfl; (with_reducible repeat (first | refine blk_drewN ?_ _ | refine blk_drew ?_ | refine blk_alloc ?_ _)); refine blk_put (cs := #[.bool false, .bool false, .slice none 0 0]) ?_ 0 _ rfl; (with_reducible repeat (first | refine blk_drewN ?_ _ | refine blk_drew ?_ | refine blk_alloc ?_ _)); exact BK266.out) Try.underlying38 rfl (by kernel_rfl)) rfl ?_
                                        exact ⟨_, by first | rfl | (simp [errW_none, errW_some] <;> rfl) | (simp only [← hji71]; first | rfl | (simp [errW_none, errW_some] <;> rfl)) | (simp [*, errW_none, errW_some] <;> rfl), by (with_reducible repeat (first | apply Kd.R_alloc | apply Kd.R_drewN | apply Kd.R_drew)); exact Kd.R_mono (Kd.R_far (p := ⟨gb266, 2, none⟩) (Kd.R_far (p := ⟨gb266, 1, none⟩) (Kd.R_far (p := ⟨gb266, 0, none⟩) (Kd.R_types HO_7.out BK266.out (by decide)) (fun _ hk => hk.2) (.bool true)) (fun _ hk => hk.2) (.bool true)) (fun _ hk => hk.2) (.slice (some ad281) x7_5.length co77)) (fun _ hk => trivial), by repeat (first | (with_reducible first | exact HB.out | apply below_alloc | apply pw_below_drewN | apply below_drew1 | refine below_set ?_ GE265.out | refine below_set ?_ GE266.out) | exact HB.out)⟩
                                      · rw [if_neg c74] at H
                                        have c74b0 : ((rd x7_5 (ji71)) == 10) = false := beq_eq_false_iff_ne.mpr c74
                                        have c74b1 : ((rd x7_5 (ji71)) != 10) = true := bne_iff_ne.mpr c74
                                        by_cases c79 : x7_5.length < 140737488355328
                                        · rw [if_pos c79] at H
                                          have LMc79 := Aside0.mk c79
                                          clear c79
                                          obtain ⟨y282, hy282⟩ : ∃ y_ : List Int, y_ = (x7_5 ++ [10]) := ⟨_, rfl⟩
                                          replace H : (some (true, true, y282, 0)) = some (r1, r2, r3, r4) := by first | (rw [hy282]; with_reducible exact H) | (have H2_ := (Option.bind_some _ _).symm.trans H; rw [hy282]; with_reducible exact H2_) | (have H2_ := (Option.bind_some _ _).symm.trans H; with_reducible exact H2_) | with_reducible exact H | (rw [hy282]; exact H) | exact H
                                          have Ny282 := Aside0.mk hy282
                                          clear hy282
                                          simp only [Option.some.injEq, Prod.mk.injEq] at H
                                          obtain ⟨rfl, rfl, rfl, rfl⟩ := H
                                          have hnb80 := NB265_266.out
                                          have hnc80 := NB266_265.out
                                          have hcz81_0 : wr.cell? ⟨gb265, 0, none⟩ = some (.int .i64 a1_0) := (blk_cell BK265.out 0).trans rfl
                                          have hcz81_1 : wr.cell? ⟨gb265, 1, none⟩ = some (.int .i64 a1_1) := (blk_cell BK265.out 1).trans rfl
                                          have hcz81_2 : wr.cell? ⟨gb265, 2, none⟩ = some (.bool true) := (blk_cell BK265.out 2).trans rfl
                                          have hcz81_3 : wr.cell? ⟨gb265, 3, none⟩ = some (.bool false) := (blk_cell BK265.out 3).trans rfl
                                          have hfz81_0 := blk_frozen BK265.out 0
                                          have hfz81_1 := blk_frozen BK265.out 1
                                          have hfz81_2 := blk_frozen BK265.out 2
                                          have hfz81_3 := blk_frozen BK265.out 3
                                          obtain ⟨Ao82, co82, eo82⟩ := Kd.R_slice HO_7.out
                                          subst eo82
                                          have p281 : 0 ≤ ((ji71) : Int) := of_decide_eq_true (by first | (with_reducible assumption) | assumption)
                                          have q281 : (ji71) < (x7_5.length : Int) := of_decide_eq_true (by first | (with_reducible assumption) | assumption)
                                          obtain ⟨ad281, e281, hx281_0⟩ := Kd.at_int (Kd.R_reads' HO_7.out).2.2 (ji71) p281 q281
                                          cases e281
                                          replace p281 := eq_true p281
                                          replace q281 := eq_true q281
                                          go_wp2_with (first | ((with_reducible refine gate_builtin (b := .append) (xs := #[.tmp 94, .tmp 95]) rfl ?_); (try (refine gate_guard (by rfl) ?_; dsimp only)); at_builtin; refine Kd.R_append (Kd.int .u8) (w0 := w) w.heap.size rfl (.tmp 94) (.tmp 95) 22 5 (.int .u8 0) 1 rfl Try.underlying22 info5 rfl (by decide) (by omega) (.slice (some ad281) x7_5.length co82) x7_5 10 [.int .u8 10] (fun _ => True) (fun _ => False) rfl rfl ?aP (fun _ hk => hk.elim) ?aF ?aO ?aB ?aS ?aL ?_; (case aP => exact rfl); (case aB => exact (by repeat (first | (with_reducible first | exact HB.out | apply below_alloc | apply pw_below_drewN | apply below_drew1 | refine below_set ?_ GE265.out | refine below_set ?_ GE266.out) | exact HB.out))); (case aF => exact (fun _ _ => trivial)); (case aO => exact (by (with_reducible repeat (first | apply Kd.R_alloc | apply Kd.R_drewN | apply Kd.R_drew)); exact HO_7.out)); (case aS => exact (below_size (by repeat (first | (with_reducible first | exact HB.out | apply below_alloc | apply pw_below_drewN | apply below_drew1 | refine below_set ?_ GE265.out | refine below_set ?_ GE266.out) | exact HB.out)))); (case aL => have := LMc79.out; omega); intro v283 w83 ho hb hg hat; rw [← Ny282.out] at ho; have n0_ := Aside0.mk (blk_grown (g := gb265) (o := .cells #[.int .i64 a1_0, .int .i64 a1_1, .bool true, .bool false] 27 (0, 0)) (by (with_reducible repeat (first | refine blk_drewN ?_ _ | refine blk_drew ?_ | refine blk_alloc ?_ _)); exact BK265.out) hg (Kd.R_ne HO_7.out BK265.out (by decide))); have n1_ := Aside0.mk (blk_grown (g := gb266) (o := .cells #[.bool false, .bool false, .slice none 0 0] 38 (0, 0)) (by (with_reducible repeat (first | refine blk_drewN ?_ _ | refine blk_drew ?_ | refine blk_alloc ?_ _)); exact BK266.out) hg (Kd.R_ne HO_7.out BK266.out (by decide))); have n2_ := Aside0.mk (hb); have n3_ := Aside0.mk (ho); clear BK265; clear BK266; clear HB; clear HO_7; have BK265 := n0_; have BK266 := n1_; have HB := n2_; have HO284 := n3_; clear n0_ n1_ n2_ n3_; clear ho hb hg hat; have hcz84_0 : w83.cell? ⟨gb265, 0, none⟩ = some (.int .i64 a1_0) := (blk_cell BK265.out 0).trans rfl; have hcz84_1 : w83.cell? ⟨gb265, 1, none⟩ = some (.int .i64 a1_1) := (blk_cell BK265.out 1).trans rfl; have hcz84_2 : w83.cell? ⟨gb265, 2, none⟩ = some (.bool true) := (blk_cell BK265.out 2).trans rfl; have hcz84_3 : w83.cell? ⟨gb265, 3, none⟩ = some (.bool false) := (blk_cell BK265.out 3).trans rfl; have hfz84_0 := blk_frozen BK265.out 0; have hfz84_1 := blk_frozen BK265.out 1; have hfz84_2 := blk_frozen BK265.out 2; have hfz84_3 := blk_frozen BK265.out 3; obtain ⟨Ao85, co85, eo85⟩ := Kd.R_slice HO284.out; subst eo85; have hcz86_0 : w83.cell? ⟨gb266, 0, none⟩ = some (.bool false) := (blk_cell BK266.out 0).trans rfl; have hcz86_1 : w83.cell? ⟨gb266, 1, none⟩ = some (.bool false) := (blk_cell BK266.out 1).trans rfl; have hcz86_2 : w83.cell? ⟨gb266, 2, none⟩ = some (.slice none 0 0) := (blk_cell BK266.out 2).trans rfl; have hfz86_0 := blk_frozen BK266.out 0; have hfz86_1 := blk_frozen BK266.out 1; have hfz86_2 := blk_frozen BK266.out 2))
                                          refine bodyPost_ret (results_ct rfl _ _ gb266 38 #[.bool true, .bool true, .slice Ao85 y282.length co85] (0, 0) _ rfl (by (with_reducible repeat (first | refine blk_drewN ?_ _ | refine blk_drew ?_ | refine blk_alloc ?_ _)); refine blk_put (cs := #[.bool true, .bool true, .slice none 0 0]) ?_ 2 _ rfl; (with_reducible repeat (first | refine blk_drewN ?_ _ | refine blk_drew ?_ | refine blk_alloc ?_ _)); refine blk_put (cs := #[.bool true, .bool false, .slice none 0 0]) ?_ 1 _ rfl; (with_reducible repeat (first | refine blk_drewN ?_ _ | refine blk_drew ?_ | refine blk_alloc ?_ _)); refine blk_put (cs := #[.bool false, .bool false, .slice none 0 0]) ?_ 0 _ rfl; (with_reducible repeat (first | refine blk_drewN ?_ _ | refine blk_drew ?_ | refine blk_alloc ?_ _)); exact BK266.out) Try.underlying38 rfl (by kernel_rfl)) rfl ?_
                                          exact ⟨_, by first | rfl | (simp [errW_none, errW_some] <;> rfl) | (simp only [← hji71]; first | rfl | (simp [errW_none, errW_some] <;> rfl)) | (simp [*, errW_none, errW_some] <;> rfl), by (with_reducible repeat (first | apply Kd.R_alloc | apply Kd.R_drewN | apply Kd.R_drew)); exact Kd.R_mono (Kd.R_far (p := ⟨gb266, 2, none⟩) (Kd.R_far (p := ⟨gb266, 1, none⟩) (Kd.R_far (p := ⟨gb266, 0, none⟩) (Kd.R_types HO284.out BK266.out (by decide)) (fun _ hk => hk.2) (.bool true)) (fun _ hk => hk.2) (.bool true)) (fun _ hk => hk.2) (.slice Ao85 y282.length co85)) (fun _ hk => trivial), by repeat (first | (with_reducible first | exact HB.out | apply below_alloc | apply pw_below_drewN | apply below_drew1 | refine below_set ?_ GE265.out | refine below_set ?_ GE266.out) | exact HB.out)⟩
                                        · rw [if_neg c79] at H
                                          exact absurd H (by simp)
                                    · rw [if_neg c73] at H
                                      exact absurd H (by simp)
                                  · rw [if_neg c72] at H
                                    exact absurd H (by simp)
                            · replace c53 := Bool.eq_false_iff.mpr c53
                              subst c53
                              have H1 : (some (true, false, x7_5, 0)) = some (r1, r2, r3, r4) := by rw [if_neg (show ¬ (false = true) by decide)] at H; exact H
                              clear H
                              have H := H1
                              clear H1
                              simp only [Option.some.injEq, Prod.mk.injEq] at H
                              obtain ⟨rfl, rfl, rfl, rfl⟩ := H
                              have hnb87 := NB265_266.out
                              have hnc87 := NB266_265.out
                              have hcz88_0 : wr.cell? ⟨gb265, 0, none⟩ = some (.int .i64 a1_0) := (blk_cell BK265.out 0).trans rfl
                              have hcz88_1 : wr.cell? ⟨gb265, 1, none⟩ = some (.int .i64 a1_1) := (blk_cell BK265.out 1).trans rfl
                              have hcz88_2 : wr.cell? ⟨gb265, 2, none⟩ = some (.bool false) := (blk_cell BK265.out 2).trans rfl
                              have hcz88_3 : wr.cell? ⟨gb265, 3, none⟩ = some (.bool a1_3) := (blk_cell BK265.out 3).trans rfl
                              have hfz88_0 := blk_frozen BK265.out 0
                              have hfz88_1 := blk_frozen BK265.out 1
                              have hfz88_2 := blk_frozen BK265.out 2
                              have hfz88_3 := blk_frozen BK265.out 3
                              obtain ⟨Ao89, co89, eo89⟩ := Kd.R_slice HO_7.out
                              subst eo89
                              have hcz90_0 : wr.cell? ⟨gb266, 0, none⟩ = some (.bool false) := (blk_cell BK266.out 0).trans rfl
                              have hcz90_1 : wr.cell? ⟨gb266, 1, none⟩ = some (.bool false) := (blk_cell BK266.out 1).trans rfl
                              have hcz90_2 : wr.cell? ⟨gb266, 2, none⟩ = some (.slice none 0 0) := (blk_cell BK266.out 2).trans rfl
                              have hfz90_0 := blk_frozen BK266.out 0
                              have hfz90_1 := blk_frozen BK266.out 1
                              have hfz90_2 := blk_frozen BK266.out 2
                              go_wp2
                              refine bodyPost_ret (results_ct rfl _ _ gb266 38 #[.bool true, .bool false, .slice Ao89 x7_5.length co89] (0, 0) _ rfl (by (with_reducible repeat (first | refine blk_drewN ?_ _ | refine blk_drew ?_ | refine blk_alloc ?_ _)); refine blk_put (cs := #[.bool true, .bool false, .slice none 0 0]) ?_ 2 _ rfl; (with_reducible repeat (first | refine blk_drewN ?_ _ | refine blk_drew ?_ | refine blk_alloc ?_ _)); refine blk_put (cs := #[.bool true, .bool false, .slice none 0 0]) ?_ 1 _ rfl; (with_reducible repeat (first | refine blk_drewN ?_ _ | refine blk_drew ?_ | refine blk_alloc ?_ _)); refine blk_put (cs := #[.bool false, .bool false, .slice none 0 0]) ?_ 0 _ rfl; (with_reducible repeat (first | refine blk_drewN ?_ _ | refine blk_drew ?_ | refine blk_alloc ?_ _)); exact BK266.out) Try.underlying38 rfl (by kernel_rfl)) rfl ?_
                              exact ⟨_, by first | rfl | (simp [errW_none, errW_some] <;> rfl) | (simp [*, errW_none, errW_some] <;> rfl), by (with_reducible repeat (first | apply Kd.R_alloc | apply Kd.R_drewN | apply Kd.R_drew)); exact Kd.R_mono (Kd.R_far (p := ⟨gb266, 2, none⟩) (Kd.R_far (p := ⟨gb266, 1, none⟩) (Kd.R_far (p := ⟨gb266, 0, none⟩) (Kd.R_types HO_7.out BK266.out (by decide)) (fun _ hk => hk.2) (.bool true)) (fun _ hk => hk.2) (.bool false)) (fun _ hk => hk.2) (.slice Ao89 x7_5.length co89)) (fun _ hk => trivial), by repeat (first | (with_reducible first | exact HB.out | apply below_alloc | apply pw_below_drewN | apply below_drew1 | refine below_set ?_ GE265.out | refine below_set ?_ GE266.out) | exact HB.out)⟩

end Go.Proofs.Ytlcdnpecoaamcaa.X
