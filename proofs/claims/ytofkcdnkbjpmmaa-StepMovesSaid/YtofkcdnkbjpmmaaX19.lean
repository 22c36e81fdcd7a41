-- Written by wip/xprint.py over the kit's print.py: the Lean function of each Go function, and the proof that the Go text comes to it.
import Derived.Test.YtofkcdnkbjpmmaaX0
import Derived.Test.YtofkcdnkbjpmmaaX12
import Derived.Test.YtofkcdnkbjpmmaaX17
namespace Go.Proofs.Ytofkcdnkbjpmmaa.X
open Go.RowKit Go.Proofs.YtofkcdnkbjpmmaaW.PrintWords Go.Proofs.YtofkcdnkbjpmmaaW.PrintLast Go.Proofs.YtofkcdnkbjpmmaaW.PrintMore
attribute [local go_sem] max2_int min2_int max_two min_two max_three min_three max_four min_four   -- for this text's walks alone
set_option linter.unusedVariables false
set_option linter.unusedSimpArgs false

/-! ### step_walk_back: function 45 -/
mutual
def step_walk_back.l0 : Nat → Int → Int → Int → List Int → Int → Int → Int → Bool → Int → Int → Int → Int → Option (Int × Int × Int × Int × Int × Bool)
 | 0, _, _, _, _, _, _, _, _, _, _, _, _ => none
 | k + 1, x6, x7, x8, x155000, x155001, x155002, x155003, x155004, x155005, x155006, x155007, x155008 => if x8 ≥ 0 then (step_walk_back.j1 k x6 x7 x8 (decide (x7 > 0)) x155000 x155001 x155002 x155003 x155004 x155005 x155006 x155007 x155008) else (step_walk_back.j1 k x6 x7 x8 false x155000 x155001 x155002 x155003 x155004 x155005 x155006 x155007 x155008)
def step_walk_back.j1 : Nat → Int → Int → Int → Bool → List Int → Int → Int → Int → Bool → Int → Int → Int → Int → Option (Int × Int × Int × Int × Int × Bool)
 | 0, _, _, _, _, _, _, _, _, _, _, _, _, _ => none
 | k + 1, x6, x7, x8, x19, x155000, x155001, x155002, x155003, x155004, x155005, x155006, x155007, x155008 => if x19 = true then (if 0 ≤ x8 then (if x8 < (x155000.length : Int) then (if (rd x155000 x8) = 10 then (if x8 = 0 then (step_walk_back.l0 k x8 (wrap64 (x7 - 1)) (wrap64 (x8 - 1)) x155000 x155001 x155002 x155003 x155004 x155005 x155006 x155007 x155008) else (if 0 ≤ (wrap64 (x8 - 1)) then (if (wrap64 (x8 - 1)) < (x155000.length : Int) then (if (rd x155000 (wrap64 (x8 - 1))) = 10 then (step_walk_back.l0 k x8 (wrap64 (x7 - 1)) (wrap64 (x8 - 1)) x155000 x155001 x155002 x155003 x155004 x155005 x155006 x155007 x155008) else (step_walk_back.l0 k x6 x7 (wrap64 (x8 - 1)) x155000 x155001 x155002 x155003 x155004 x155005 x155006 x155007 x155008)) else (none)) else (none))) else (step_walk_back.l0 k x8 (wrap64 (x7 - 1)) (wrap64 (x8 - 1)) x155000 x155001 x155002 x155003 x155004 x155005 x155006 x155007 x155008)) else (none)) else (none)) else (if x6 < 0 then ((step_walk_fails.f x155000 x155001 x155002 x155003 x155004 x155005 x155006 x155007 x155008).bind fun bt158 => (some (bt158.1, bt158.2.1, bt158.2.2.1, bt158.2.2.2.1, bt158.2.2.2.2.1, bt158.2.2.2.2.2))) else ((step_walk_to.f k x155000 x155001 x155002 x155003 x155004 x155005 x155006 x155007 x155008 x6 1).bind fun bt164 => (some (bt164.1, bt164.2.1, bt164.2.2.1, bt164.2.2.2.1, bt164.2.2.2.2.1, bt164.2.2.2.2.2))))
end
def step_walk_back.f (k : Nat) (l0_0 : List Int) (a0_1 : Int) (a0_2 : Int) (a0_3 : Int) (a0_4 : Bool) (a0_5 : Int) (a0_6 : Int) (a0_7 : Int) (a0_8 : Int) : Option (Int × Int × Int × Int × Int × Bool) := step_walk_back.l0 k (-1) a0_3 (wrap64 (a0_1 - 1)) l0_0 a0_1 a0_2 a0_3 a0_4 a0_5 a0_6 a0_7 a0_8
theorem step_walk_back.mono_l : ∀ k, (∀ y0 y1 y2 y3 y4 y5 y6 y7 y8 y9 y10 y11, LeO (step_walk_back.l0 k y0 y1 y2 y3 y4 y5 y6 y7 y8 y9 y10 y11) (step_walk_back.l0 (k + 1) y0 y1 y2 y3 y4 y5 y6 y7 y8 y9 y10 y11)) ∧ (∀ y0 y1 y2 y3 y4 y5 y6 y7 y8 y9 y10 y11 y12, LeO (step_walk_back.j1 k y0 y1 y2 y3 y4 y5 y6 y7 y8 y9 y10 y11 y12) (step_walk_back.j1 (k + 1) y0 y1 y2 y3 y4 y5 y6 y7 y8 y9 y10 y11 y12))
 | 0 => ⟨fun _ _ _ _ _ _ _ _ _ _ _ _ r h => by simp [step_walk_back.l0] at h, fun _ _ _ _ _ _ _ _ _ _ _ _ _ r h => by simp [step_walk_back.j1] at h⟩
 | k + 1 => by
  obtain ⟨ih0, ih1⟩ := step_walk_back.mono_l k
  refine ⟨?_, ?_⟩
  ·intro y0 y1 y2 y3 y4 y5 y6 y7 y8 y9 y10 y11
   unfold step_walk_back.l0
   repeat' first
   | (with_reducible exact ih0 _ _ _ _ _ _ _ _ _ _ _ _)
   | (with_reducible exact ih1 _ _ _ _ _ _ _ _ _ _ _ _ _)
   | (with_reducible exact step_walk_to.mono _ _ _ _ _ _ _ _ _ _ _ _)
   | (with_reducible exact LeO.refl _)
   | (with_reducible exact LeO.none _)
   | (with_reducible refine LeO.ite ?_ ?_)
   | (with_reducible refine LeO.bind ?_ (fun _ => ?_))
   | exact ih0 _ _ _ _ _ _ _ _ _ _ _ _
   | exact ih1 _ _ _ _ _ _ _ _ _ _ _ _ _
   | exact step_walk_to.mono _ _ _ _ _ _ _ _ _ _ _ _
   | exact LeO.none _
   | refine LeO.ite ?_ ?_
   | refine LeO.bind ?_ (fun _ => ?_)
  ·intro y0 y1 y2 y3 y4 y5 y6 y7 y8 y9 y10 y11 y12
   unfold step_walk_back.j1
   repeat' first
   | (with_reducible exact ih0 _ _ _ _ _ _ _ _ _ _ _ _)
   | (with_reducible exact ih1 _ _ _ _ _ _ _ _ _ _ _ _ _)
   | (with_reducible exact step_walk_to.mono _ _ _ _ _ _ _ _ _ _ _ _)
   | (with_reducible exact LeO.refl _)
   | (with_reducible exact LeO.none _)
   | (with_reducible refine LeO.ite ?_ ?_)
   | (with_reducible refine LeO.bind ?_ (fun _ => ?_))
   | exact ih0 _ _ _ _ _ _ _ _ _ _ _ _
   | exact ih1 _ _ _ _ _ _ _ _ _ _ _ _ _
   | exact step_walk_to.mono _ _ _ _ _ _ _ _ _ _ _ _
   | exact LeO.none _
   | refine LeO.ite ?_ ?_
   | refine LeO.bind ?_ (fun _ => ?_)
theorem step_walk_back.mono : ∀ a0 a1 a2 a3 a4 a5 a6 a7 a8 k, LeO (step_walk_back.f k a0 a1 a2 a3 a4 a5 a6 a7 a8) (step_walk_back.f (k + 1) a0 a1 a2 a3 a4 a5 a6 a7 a8) := by
 intro a0 a1 a2 a3 a4 a5 a6 a7 a8 k
 obtain ⟨ih0, ih1⟩ := step_walk_back.mono_l k
 unfold step_walk_back.f
 repeat' first
   | (with_reducible exact ih0 _ _ _ _ _ _ _ _ _ _ _ _)
   | (with_reducible exact ih1 _ _ _ _ _ _ _ _ _ _ _ _ _)
   | (with_reducible exact step_walk_to.mono _ _ _ _ _ _ _ _ _ _ _ _)
   | (with_reducible exact LeO.refl _)
   | (with_reducible exact LeO.none _)
   | (with_reducible refine LeO.ite ?_ ?_)
   | (with_reducible refine LeO.bind ?_ (fun _ => ?_))
   | exact ih0 _ _ _ _ _ _ _ _ _ _ _ _
   | exact ih1 _ _ _ _ _ _ _ _ _ _ _ _ _
   | exact step_walk_to.mono _ _ _ _ _ _ _ _ _ _ _ _
   | exact LeO.none _
   | refine LeO.ite ?_ ?_
   | refine LeO.bind ?_ (fun _ => ?_)
set_option maxHeartbeats 8000000 in
set_option maxRecDepth 100000 in
theorem step_walk_back.calls (k : Nat) (A0_0 : Option Addr) (c0_0 : Nat) (l0_0 : List Int) (a0_1 : Int) (a0_2 : Int) (a0_3 : Int) (a0_4 : Bool) (a0_5 : Int) (a0_6 : Int) (a0_7 : Int) (a0_8 : Int) (r1 : Int) (r2 : Int) (r3 : Int) (r4 : Int) (r5 : Int) (r6 : Bool) (w : World) (hr0_0 : Kd.C (Kd.int .u8) w A0_0 l0_0.length l0_0) (hc0_0 : l0_0.length ≤ c0_0) (h : step_walk_back.f k l0_0 a0_1 a0_2 a0_3 a0_4 a0_5 a0_6 a0_7 a0_8 = some (r1, r2, r3, r4, r5, r6)) :
  Calls Try.prog 45 #[.agg #[.slice A0_0 l0_0.length c0_0, .int .i64 a0_1, .int .i64 a0_2, .int .i64 a0_3, .bool a0_4, .int .i64 a0_5, .int .i64 a0_6, .int .i64 a0_7, .int .i64 a0_8]] w fun e w' => e = .returned (.tuple #[.agg #[.int .i64 r1, .int .i64 r2, .int .i64 r3], .int .i64 r4, .int .i64 r5, .bool r6]) ∧ Below w.heap.size w w' := by
 have hu51 := Try.underlying51
 have hu29 := Try.underlying29
 have HR0_0 := Aside0.mk hr0_0
 have HC0_0 := Aside0.mk hc0_0
 clear hr0_0 hc0_0
 have HB := Aside0.mk (Below.refl w.heap.size w)
 have H : (step_walk_back.l0 k (-1) a0_3 (wrap64 (a0_1 - 1)) l0_0 a0_1 a0_2 a0_3 a0_4 a0_5 a0_6 a0_7 a0_8) = some (r1, r2, r3, r4, r5, r6) := h
 clear h
 have H' := Aside0.mk H
 clear H
 go_enter Try.func45, Try.ntmps45
 go_wp2_with (first | ((with_reducible refine gate_dst (N := 1) rfl ?_); refine box_event ?hg (N := 1) ?hd (cs := #[.slice A0_0 l0_0.length c0_0, .int .i64 a0_1, .int .i64 a0_2, .int .i64 a0_3, .bool a0_4, .int .i64 a0_5, .int .i64 a0_6, .int .i64 a0_7, .int .i64 a0_8]) (t := 51) ?hr ?_; (case hd => rfl); (case hg => rfl); (case hr => first | (go_simp; done) | (go_simp; rfl)); intro gb154 hg w2 hbox hb; have n0_ := Aside0.mk (below_step (by repeat (first | (with_reducible first | exact HB.out | apply below_alloc | apply pw_below_drewN | apply below_drew1) | exact HB.out)) hb); have n1_ := Aside0.mk (hbox); have n2_ := Aside0.mk ((by rw [hg]; exact (below_size (by repeat (first | (with_reducible first | exact HB.out | apply below_alloc | apply pw_below_drewN | apply below_drew1) | exact HB.out))) : w.heap.size ≤ gb154)); have n3_ := Aside0.mk ((by rw [hg]; exact (below_size (by repeat (first | (with_reducible first | exact HB.out | apply below_alloc | apply pw_below_drewN | apply below_drew1) | exact HB.out))) : w.heap.size ≤ gb154)); clear HB; have HB := n0_; have BK154 := n1_; have GW154 := n2_; have GE154 := n3_; clear n0_ n1_ n2_ n3_; clear hb hbox hg) | ((with_reducible refine gate_dst (N := 2) rfl ?_); refine box_event ?hg (N := 2) ?hd (cs := #[.int .i64 0, .int .i64 0, .int .i64 0]) (t := 29) ?hr ?_; (case hd => rfl); (case hg => rfl); (case hr => first | (go_simp; done) | (go_simp; rfl)); intro gb155 hg w3 hbox hb; have n0_ := Aside0.mk (blk_below (g := gb154) (o := .cells #[.slice A0_0 l0_0.length c0_0, .int .i64 a0_1, .int .i64 a0_2, .int .i64 a0_3, .bool a0_4, .int .i64 a0_5, .int .i64 a0_6, .int .i64 a0_7, .int .i64 a0_8] 51 (0, 0)) (by (with_reducible repeat (first | refine blk_drewN ?_ _ | refine blk_drew ?_ | refine blk_alloc ?_ _)); exact BK154.out) hb); have n1_ := Aside0.mk (below_step (by repeat (first | (with_reducible first | exact HB.out | apply below_alloc | apply pw_below_drewN | apply below_drew1 | refine below_set ?_ GE154.out) | exact HB.out)) hb); have n2_ := Aside0.mk (hbox); have n3_ := Aside0.mk ((by rw [hg]; exact (below_size (by repeat (first | (with_reducible first | exact HB.out | apply below_alloc | apply pw_below_drewN | apply below_drew1 | refine below_set ?_ GE154.out) | exact HB.out))) : w.heap.size ≤ gb155)); have n4_ := Aside0.mk ((by rw [hg]; exact (below_size (by repeat (first | (with_reducible first | exact HB.out | apply below_alloc | apply pw_below_drewN | apply below_drew1 | refine below_set ?_ GE154.out) | exact HB.out))) : w.heap.size ≤ gb155)); have n5_ := Aside0.mk ((by rw [hg]; exact Nat.ne_of_lt (blk_lt (g := gb154) (o := .cells #[.slice A0_0 l0_0.length c0_0, .int .i64 a0_1, .int .i64 a0_2, .int .i64 a0_3, .bool a0_4, .int .i64 a0_5, .int .i64 a0_6, .int .i64 a0_7, .int .i64 a0_8] 51 (0, 0)) (by (with_reducible repeat (first | refine blk_drewN ?_ _ | refine blk_drew ?_ | refine blk_alloc ?_ _)); exact BK154.out)) : gb154 ≠ gb155)); have n6_ := Aside0.mk ((by rw [hg]; exact Nat.ne_of_gt (blk_lt (g := gb154) (o := .cells #[.slice A0_0 l0_0.length c0_0, .int .i64 a0_1, .int .i64 a0_2, .int .i64 a0_3, .bool a0_4, .int .i64 a0_5, .int .i64 a0_6, .int .i64 a0_7, .int .i64 a0_8] 51 (0, 0)) (by (with_reducible repeat (first | refine blk_drewN ?_ _ | refine blk_drew ?_ | refine blk_alloc ?_ _)); exact BK154.out)) : gb155 ≠ gb154)); clear BK154; clear HB; have BK154 := n0_; have HB := n1_; have BK155 := n2_; have GW155 := n3_; have GE155 := n4_; have NB154_155 := n5_; have NB155_154 := n6_; clear n0_ n1_ n2_ n3_ n4_ n5_ n6_; clear hb hbox hg; have hnb4 := NB154_155.out; have hnc4 := NB155_154.out; have hcz5_0 : w3.cell? ⟨gb154, 0, none⟩ = some (.slice A0_0 l0_0.length c0_0) := (blk_cell BK154.out 0).trans rfl; have hcz5_1 : w3.cell? ⟨gb154, 1, none⟩ = some (.int .i64 a0_1) := (blk_cell BK154.out 1).trans rfl; have hcz5_2 : w3.cell? ⟨gb154, 2, none⟩ = some (.int .i64 a0_2) := (blk_cell BK154.out 2).trans rfl; have hcz5_3 : w3.cell? ⟨gb154, 3, none⟩ = some (.int .i64 a0_3) := (blk_cell BK154.out 3).trans rfl; have hcz5_4 : w3.cell? ⟨gb154, 4, none⟩ = some (.bool a0_4) := (blk_cell BK154.out 4).trans rfl; have hcz5_5 : w3.cell? ⟨gb154, 5, none⟩ = some (.int .i64 a0_5) := (blk_cell BK154.out 5).trans rfl; have hcz5_6 : w3.cell? ⟨gb154, 6, none⟩ = some (.int .i64 a0_6) := (blk_cell BK154.out 6).trans rfl; have hcz5_7 : w3.cell? ⟨gb154, 7, none⟩ = some (.int .i64 a0_7) := (blk_cell BK154.out 7).trans rfl; have hcz5_8 : w3.cell? ⟨gb154, 8, none⟩ = some (.int .i64 a0_8) := (blk_cell BK154.out 8).trans rfl; have hfz5_0 := blk_frozen BK154.out 0; have hfz5_1 := blk_frozen BK154.out 1; have hfz5_2 := blk_frozen BK154.out 2; have hfz5_3 := blk_frozen BK154.out 3; have hfz5_4 := blk_frozen BK154.out 4; have hfz5_5 := blk_frozen BK154.out 5; have hfz5_6 := blk_frozen BK154.out 6; have hfz5_7 := blk_frozen BK154.out 7; have hfz5_8 := blk_frozen BK154.out 8))
 repeat (go_quiet (first | ((with_reducible refine gate_dst (N := 1) rfl ?_); refine box_event ?hg (N := 1) ?hd (cs := #[.slice A0_0 l0_0.length c0_0, .int .i64 a0_1, .int .i64 a0_2, .int .i64 a0_3, .bool a0_4, .int .i64 a0_5, .int .i64 a0_6, .int .i64 a0_7, .int .i64 a0_8]) (t := 51) ?hr ?_; (case hd => rfl); (case hg => rfl); (case hr => first | (go_simp; done) | (go_simp; rfl)); intro gb154 hg w2 hbox hb; have n0_ := Aside0.mk (below_step (by repeat (first | (with_reducible first | exact HB.out | apply below_alloc | apply pw_below_drewN | apply below_drew1) | exact HB.out)) hb); have n1_ := Aside0.mk (hbox); have n2_ := Aside0.mk ((by rw [hg]; exact (below_size (by repeat (first | (with_reducible first | exact HB.out | apply below_alloc | apply pw_below_drewN | apply below_drew1) | exact HB.out))) : w.heap.size ≤ gb154)); have n3_ := Aside0.mk ((by rw [hg]; exact (below_size (by repeat (first | (with_reducible first | exact HB.out | apply below_alloc | apply pw_below_drewN | apply below_drew1) | exact HB.out))) : w.heap.size ≤ gb154)); clear HB; have HB := n0_; have BK154 := n1_; have GW154 := n2_; have GE154 := n3_; clear n0_ n1_ n2_ n3_; clear hb hbox hg) | ((with_reducible refine gate_dst (N := 2) rfl ?_); refine box_event ?hg (N := 2) ?hd (cs := #[.int .i64 0, .int .i64 0, .int .i64 0]) (t := 29) ?hr ?_; (case hd => rfl); (case hg => rfl); (case hr => first | (go_simp; done) | (go_simp; rfl)); intro gb155 hg w3 hbox hb; have n0_ := Aside0.mk (blk_below (g := gb154) (o := .cells #[.slice A0_0 l0_0.length c0_0, .int .i64 a0_1, .int .i64 a0_2, .int .i64 a0_3, .bool a0_4, .int .i64 a0_5, .int .i64 a0_6, .int .i64 a0_7, .int .i64 a0_8] 51 (0, 0)) (by (with_reducible repeat (first | refine blk_drewN ?_ _ | refine blk_drew ?_ | refine blk_alloc ?_ _)); exact BK154.out) hb); have n1_ := Aside0.mk (below_step (by repeat (first | (with_reducible first | exact HB.out | apply below_alloc | apply pw_below_drewN | apply below_drew1 | refine below_set ?_ GE154.out) | exact HB.out)) hb); have n2_ := Aside0.mk (hbox); have n3_ := Aside0.mk ((by rw [hg]; exact (below_size (by repeat (first | (with_reducible first | exact HB.out | apply below_alloc | apply pw_below_drewN | apply below_drew1 | refine below_set ?_ GE154.out) | exact HB.out))) : w.heap.size ≤ gb155)); have n4_ := Aside0.mk ((by rw [hg]; exact (below_size (by repeat (first | (with_reducible first | exact HB.out | apply below_alloc | apply pw_below_drewN | apply below_drew1 | refine below_set ?_ GE154.out) | exact HB.out))) : w.heap.size ≤ gb155)); have n5_ := Aside0.mk ((by rw [hg]; exact Nat.ne_of_lt (blk_lt (g := gb154) (o := .cells #[.slice A0_0 l0_0.length c0_0, .int .i64 a0_1, .int .i64 a0_2, .int .i64 a0_3, .bool a0_4, .int .i64 a0_5, .int .i64 a0_6, .int .i64 a0_7, .int .i64 a0_8] 51 (0, 0)) (by (with_reducible repeat (first | refine blk_drewN ?_ _ | refine blk_drew ?_ | refine blk_alloc ?_ _)); exact BK154.out)) : gb154 ≠ gb155)); have n6_ := Aside0.mk ((by rw [hg]; exact Nat.ne_of_gt (blk_lt (g := gb154) (o := .cells #[.slice A0_0 l0_0.length c0_0, .int .i64 a0_1, .int .i64 a0_2, .int .i64 a0_3, .bool a0_4, .int .i64 a0_5, .int .i64 a0_6, .int .i64 a0_7, .int .i64 a0_8] 51 (0, 0)) (by (with_reducible repeat (first | refine blk_drewN ?_ _ | refine blk_drew ?_ | refine blk_alloc ?_ _)); exact BK154.out)) : gb155 ≠ gb154)); clear BK154; clear HB; have BK154 := n0_; have HB := n1_; have BK155 := n2_; have GW155 := n3_; have GE155 := n4_; have NB154_155 := n5_; have NB155_154 := n6_; clear n0_ n1_ n2_ n3_ n4_ n5_ n6_; clear hb hbox hg; have hnb4 := NB154_155.out; have hnc4 := NB155_154.out; have hcz5_0 : w3.cell? ⟨gb154, 0, none⟩ = some (.slice A0_0 l0_0.length c0_0) := (blk_cell BK154.out 0).trans rfl; have hcz5_1 : w3.cell? ⟨gb154, 1, none⟩ = some (.int .i64 a0_1) := (blk_cell BK154.out 1).trans rfl; have hcz5_2 : w3.cell? ⟨gb154, 2, none⟩ = some (.int .i64 a0_2) := (blk_cell BK154.out 2).trans rfl; have hcz5_3 : w3.cell? ⟨gb154, 3, none⟩ = some (.int .i64 a0_3) := (blk_cell BK154.out 3).trans rfl; have hcz5_4 : w3.cell? ⟨gb154, 4, none⟩ = some (.bool a0_4) := (blk_cell BK154.out 4).trans rfl; have hcz5_5 : w3.cell? ⟨gb154, 5, none⟩ = some (.int .i64 a0_5) := (blk_cell BK154.out 5).trans rfl; have hcz5_6 : w3.cell? ⟨gb154, 6, none⟩ = some (.int .i64 a0_6) := (blk_cell BK154.out 6).trans rfl; have hcz5_7 : w3.cell? ⟨gb154, 7, none⟩ = some (.int .i64 a0_7) := (blk_cell BK154.out 7).trans rfl; have hcz5_8 : w3.cell? ⟨gb154, 8, none⟩ = some (.int .i64 a0_8) := (blk_cell BK154.out 8).trans rfl; have hfz5_0 := blk_frozen BK154.out 0; have hfz5_1 := blk_frozen BK154.out 1; have hfz5_2 := blk_frozen BK154.out 2; have hfz5_3 := blk_frozen BK154.out 3; have hfz5_4 := blk_frozen BK154.out 4; have hfz5_5 := blk_frozen BK154.out 5; have hfz5_6 := blk_frozen BK154.out 6; have hfz5_7 := blk_frozen BK154.out 7; have hfz5_8 := blk_frozen BK154.out 8)); try go_wp2_with (first | ((with_reducible refine gate_dst (N := 1) rfl ?_); refine box_event ?hg (N := 1) ?hd (cs := #[.slice A0_0 l0_0.length c0_0, .int .i64 a0_1, .int .i64 a0_2, .int .i64 a0_3, .bool a0_4, .int .i64 a0_5, .int .i64 a0_6, .int .i64 a0_7, .int .i64 a0_8]) (t := 51) ?hr ?_; (case hd => rfl); (case hg => rfl); (case hr => first | (go_simp; done) | (go_simp; rfl)); intro gb154 hg w2 hbox hb; have n0_ := Aside0.mk (below_step (by repeat (first | (with_reducible first | exact HB.out | apply below_alloc | apply pw_below_drewN | apply below_drew1) | exact HB.out)) hb); have n1_ := Aside0.mk (hbox); have n2_ := Aside0.mk ((by rw [hg]; exact (below_size (by repeat (first | (with_reducible first | exact HB.out | apply below_alloc | apply pw_below_drewN | apply below_drew1) | exact HB.out))) : w.heap.size ≤ gb154)); have n3_ := Aside0.mk ((by rw [hg]; exact (below_size (by repeat (first | (with_reducible first | exact HB.out | apply below_alloc | apply pw_below_drewN | apply below_drew1) | exact HB.out))) : w.heap.size ≤ gb154)); clear HB; have HB := n0_; have BK154 := n1_; have GW154 := n2_; have GE154 := n3_; clear n0_ n1_ n2_ n3_; clear hb hbox hg) | ((with_reducible refine gate_dst (N := 2) rfl ?_); refine box_event ?hg (N := 2) ?hd (cs := #[.int .i64 0, .int .i64 0, .int .i64 0]) (t := 29) ?hr ?_; (case hd => rfl); (case hg => rfl); (case hr => first | (go_simp; done) | (go_simp; rfl)); intro gb155 hg w3 hbox hb; have n0_ := Aside0.mk (blk_below (g := gb154) (o := .cells #[.slice A0_0 l0_0.length c0_0, .int .i64 a0_1, .int .i64 a0_2, .int .i64 a0_3, .bool a0_4, .int .i64 a0_5, .int .i64 a0_6, .int .i64 a0_7, .int .i64 a0_8] 51 (0, 0)) (by (with_reducible repeat (first | refine blk_drewN ?_ _ | refine blk_drew ?_ | refine blk_alloc ?_ _)); exact BK154.out) hb); have n1_ := Aside0.mk (below_step (by repeat (first | (with_reducible first | exact HB.out | apply below_alloc | apply pw_below_drewN | apply below_drew1 | refine below_set ?_ GE154.out) | exact HB.out)) hb); have n2_ := Aside0.mk (hbox); have n3_ := Aside0.mk ((by rw [hg]; exact (below_size (by repeat (first | (with_reducible first | exact HB.out | apply below_alloc | apply pw_below_drewN | apply below_drew1 | refine below_set ?_ GE154.out) | exact HB.out))) : w.heap.size ≤ gb155)); have n4_ := Aside0.mk ((by rw [hg]; exact (below_size (by repeat (first | (with_reducible first | exact HB.out | apply below_alloc | apply pw_below_drewN | apply below_drew1 | refine below_set ?_ GE154.out) | exact HB.out))) : w.heap.size ≤ gb155)); have n5_ := Aside0.mk ((by rw [hg]; exact Nat.ne_of_lt (blk_lt (g := gb154) (o := .cells #[.slice A0_0 l0_0.length c0_0, .int .i64 a0_1, .int .i64 a0_2, .int .i64 a0_3, .bool a0_4, .int .i64 a0_5, .int .i64 a0_6, .int .i64 a0_7, .int .i64 a0_8] 51 (0, 0)) (by (with_reducible repeat (first | refine blk_drewN ?_ _ | refine blk_drew ?_ | refine blk_alloc ?_ _)); exact BK154.out)) : gb154 ≠ gb155)); have n6_ := Aside0.mk ((by rw [hg]; exact Nat.ne_of_gt (blk_lt (g := gb154) (o := .cells #[.slice A0_0 l0_0.length c0_0, .int .i64 a0_1, .int .i64 a0_2, .int .i64 a0_3, .bool a0_4, .int .i64 a0_5, .int .i64 a0_6, .int .i64 a0_7, .int .i64 a0_8] 51 (0, 0)) (by (with_reducible repeat (first | refine blk_drewN ?_ _ | refine blk_drew ?_ | refine blk_alloc ?_ _)); exact BK154.out)) : gb155 ≠ gb154)); clear BK154; clear HB; have BK154 := n0_; have HB := n1_; have BK155 := n2_; have GW155 := n3_; have GE155 := n4_; have NB154_155 := n5_; have NB155_154 := n6_; clear n0_ n1_ n2_ n3_ n4_ n5_ n6_; clear hb hbox hg; have hnb4 := NB154_155.out; have hnc4 := NB155_154.out; have hcz5_0 : w3.cell? ⟨gb154, 0, none⟩ = some (.slice A0_0 l0_0.length c0_0) := (blk_cell BK154.out 0).trans rfl; have hcz5_1 : w3.cell? ⟨gb154, 1, none⟩ = some (.int .i64 a0_1) := (blk_cell BK154.out 1).trans rfl; have hcz5_2 : w3.cell? ⟨gb154, 2, none⟩ = some (.int .i64 a0_2) := (blk_cell BK154.out 2).trans rfl; have hcz5_3 : w3.cell? ⟨gb154, 3, none⟩ = some (.int .i64 a0_3) := (blk_cell BK154.out 3).trans rfl; have hcz5_4 : w3.cell? ⟨gb154, 4, none⟩ = some (.bool a0_4) := (blk_cell BK154.out 4).trans rfl; have hcz5_5 : w3.cell? ⟨gb154, 5, none⟩ = some (.int .i64 a0_5) := (blk_cell BK154.out 5).trans rfl; have hcz5_6 : w3.cell? ⟨gb154, 6, none⟩ = some (.int .i64 a0_6) := (blk_cell BK154.out 6).trans rfl; have hcz5_7 : w3.cell? ⟨gb154, 7, none⟩ = some (.int .i64 a0_7) := (blk_cell BK154.out 7).trans rfl; have hcz5_8 : w3.cell? ⟨gb154, 8, none⟩ = some (.int .i64 a0_8) := (blk_cell BK154.out 8).trans rfl; have hfz5_0 := blk_frozen BK154.out 0; have hfz5_1 := blk_frozen BK154.out 1; have hfz5_2 := blk_frozen BK154.out 2; have hfz5_3 := blk_frozen BK154.out 3; have hfz5_4 := blk_frozen BK154.out 4; have hfz5_5 := blk_frozen BK154.out 5; have hfz5_6 := blk_frozen BK154.out 6; have hfz5_7 := blk_frozen BK154.out 7; have hfz5_8 := blk_frozen BK154.out 8)))
 go_loopg [6, 7, 8] k (fun kq v6 v7 v8 w' => ∃ (x6_1 : Int) (x7_1 : Int) (x8_1 : Int), v6 = .int .i64 x6_1 ∧ v7 = .int .i64 x7_1 ∧ v8 = .int .i64 x8_1 ∧ Aside0 (step_walk_back.l0 kq x6_1 x7_1 x8_1 l0_0 a0_1 a0_2 a0_3 a0_4 a0_5 a0_6 a0_7 a0_8 = some (r1, r2, r3, r4, r5, r6)) ∧ Aside0 (kq ≤ k) ∧ Aside0 (w'.heap[gb154]? = some (.cells #[(.slice A0_0 l0_0.length c0_0), .int .i64 a0_1, .int .i64 a0_2, .int .i64 a0_3, .bool a0_4, .int .i64 a0_5, .int .i64 a0_6, .int .i64 a0_7, .int .i64 a0_8] 51 (0, 0))) ∧ Aside0 (w'.heap[gb155]? = some (.cells #[.int .i64 0, .int .i64 0, .int .i64 0] 29 (0, 0))) ∧ Aside0 (Below w.heap.size w w'))
 case atStart => exact ⟨((-1)), (a0_3), (wrap64 (a0_1 - 1)), (by first | rfl | (simp; done) | (simp [*]; done)), (by first | rfl | (simp; done) | (simp [*]; done)), (by first | rfl | (simp; done) | (simp [*]; done)), H', ⟨Nat.le_refl _⟩, ⟨by (with_reducible repeat (first | refine blk_drewN ?_ _ | refine blk_drew ?_ | refine blk_alloc ?_ _)); exact BK154.out⟩, ⟨by (with_reducible repeat (first | refine blk_drewN ?_ _ | refine blk_drew ?_ | refine blk_alloc ?_ _)); exact BK155.out⟩, ⟨by repeat (first | (with_reducible first | exact HB.out | apply below_alloc | apply pw_below_drewN | apply below_drew1 | refine below_set ?_ GE154.out | refine below_set ?_ GE155.out) | exact HB.out)⟩⟩
 case round =>
  clear H'
  try clear p2
  try clear c4
  try clear hcz5_0
  try clear hcz5_1
  try clear hcz5_2
  try clear hcz5_3
  try clear hcz5_4
  try clear hcz5_5
  try clear hcz5_6
  try clear hcz5_7
  try clear hcz5_8
  try clear hfz5_0
  try clear hfz5_1
  try clear hfz5_2
  try clear hfz5_3
  try clear hfz5_4
  try clear hfz5_5
  try clear hfz5_6
  try clear hfz5_7
  try clear hfz5_8
  obtain ⟨x6_1, x7_1, x8_1, rfl, rfl, rfl, HA, HK1, BK154, BK155, HB⟩ := hrel
  cases gk with
  | zero => exact absurd HA.out (by simp [step_walk_back.l0])
  | succ k1 =>
   have H := HA.out
   clear HA
   simp only [step_walk_back.l0] at H
   have HC6 := Aside0.mk H
   clear H
   go_upto_region 3 with (fail)
   repeat (go_quiet (fail); go_upto_region 3 with (fail))
   go_cut [19] (fun v19 wc => ∃ (kq : Nat) (x19_5 : Bool), v19 = .bool x19_5 ∧ Aside0 (step_walk_back.j1 kq x6_1 x7_1 x8_1 x19_5 l0_0 a0_1 a0_2 a0_3 a0_4 a0_5 a0_6 a0_7 a0_8 = some (r1, r2, r3, r4, r5, r6)) ∧ Aside0 (kq ≤ k1) ∧ Aside0 (wc.heap[gb154]? = some (.cells #[(.slice A0_0 l0_0.length c0_0), .int .i64 a0_1, .int .i64 a0_2, .int .i64 a0_3, .bool a0_4, .int .i64 a0_5, .int .i64 a0_6, .int .i64 a0_7, .int .i64 a0_8] 51 (0, 0))) ∧ Aside0 (wc.heap[gb155]? = some (.cells #[.int .i64 0, .int .i64 0, .int .i64 0] 29 (0, 0))) ∧ Aside0 (Below w.heap.size w wc))
   case first =>
    have H := HC6.out
    clear HC6
    by_cases c7 : x8_1 ≥ 0
    ·rw [if_pos c7] at H
     have c7b0 : decide (0 ≤ x8_1) = true := decide_eq_true c7
     clear c7
     (first | rw [c7b0] | (simp only [i64_w, i32_w]; rw [c7b0]) | skip)
     have H' := Aside0.mk H
     clear H
     go_wp2
     repeat (go_quiet (fail); try go_wp2)
     go_meet
     case rel => exact ⟨_, (decide (x7_1 > 0)), (by first | rfl | (simp; done) | (simp [*]; done)), H', ⟨by have := HK1.out; first | omega | exact Nat.le_refl _⟩, ⟨by (with_reducible repeat (first | refine blk_drewN ?_ _ | refine blk_drew ?_ | refine blk_alloc ?_ _)); exact BK154.out⟩, ⟨by (with_reducible repeat (first | refine blk_drewN ?_ _ | refine blk_drew ?_ | refine blk_alloc ?_ _)); exact BK155.out⟩, ⟨by repeat (first | (with_reducible first | exact HB.out | apply below_alloc | apply pw_below_drewN | apply below_drew1 | refine below_set ?_ GE154.out | refine below_set ?_ GE155.out) | exact HB.out)⟩⟩
    ·rw [if_neg c7] at H
     have c7b0 : decide (0 ≤ x8_1) = false := decide_eq_false c7
     clear c7
     (first | rw [c7b0] | (simp only [i64_w, i32_w]; rw [c7b0]) | skip)
     have H' := Aside0.mk H
     clear H
     go_wp2
     repeat (go_quiet (fail); try go_wp2)
     go_meet
     case rel => exact ⟨_, (false), (by first | rfl | (simp; done) | (simp [*]; done)), H', ⟨by have := HK1.out; first | omega | exact Nat.le_refl _⟩, ⟨by (with_reducible repeat (first | refine blk_drewN ?_ _ | refine blk_drew ?_ | refine blk_alloc ?_ _)); exact BK154.out⟩, ⟨by (with_reducible repeat (first | refine blk_drewN ?_ _ | refine blk_drew ?_ | refine blk_alloc ?_ _)); exact BK155.out⟩, ⟨by repeat (first | (with_reducible first | exact HB.out | apply below_alloc | apply pw_below_drewN | apply below_drew1 | refine below_set ?_ GE154.out | refine below_set ?_ GE155.out) | exact HB.out)⟩⟩
   case rest =>
    clear HC6
    try clear p2
    try clear c4
    try clear p6
    try clear c7
    try clear c7b0
    try clear hcz5_0
    try clear hcz5_1
    try clear hcz5_2
    try clear hcz5_3
    try clear hcz5_4
    try clear hcz5_5
    try clear hcz5_6
    try clear hcz5_7
    try clear hcz5_8
    try clear hfz5_0
    try clear hfz5_1
    try clear hfz5_2
    try clear hfz5_3
    try clear hfz5_4
    try clear hfz5_5
    try clear hfz5_6
    try clear hfz5_7
    try clear hfz5_8
    try clear p2
    obtain ⟨kq, x19_5, rfl, HA, HJ5, BK154, BK155, HB⟩ := hcut
    cases kq with
    | zero => exact absurd HA.out (by simp [step_walk_back.j1])
    | succ kj5 =>
     have H := HA.out
     clear HA
     simp only [step_walk_back.j1] at H
     by_cases c8 : x19_5 = true
     ·subst c8
      have H1 : (if 0 ≤ x8_1 then (if x8_1 < (l0_0.length : Int) then (if (rd l0_0 x8_1) = 10 then (if x8_1 = 0 then (step_walk_back.l0 kj5 x8_1 (wrap64 (x7_1 - 1)) (wrap64 (x8_1 - 1)) l0_0 a0_1 a0_2 a0_3 a0_4 a0_5 a0_6 a0_7 a0_8) else (if 0 ≤ (wrap64 (x8_1 - 1)) then (if (wrap64 (x8_1 - 1)) < (l0_0.length : Int) then (if (rd l0_0 (wrap64 (x8_1 - 1))) = 10 then (step_walk_back.l0 kj5 x8_1 (wrap64 (x7_1 - 1)) (wrap64 (x8_1 - 1)) l0_0 a0_1 a0_2 a0_3 a0_4 a0_5 a0_6 a0_7 a0_8) else (step_walk_back.l0 kj5 x6_1 x7_1 (wrap64 (x8_1 - 1)) l0_0 a0_1 a0_2 a0_3 a0_4 a0_5 a0_6 a0_7 a0_8)) else (none)) else (none))) else (step_walk_back.l0 kj5 x8_1 (wrap64 (x7_1 - 1)) (wrap64 (x8_1 - 1)) l0_0 a0_1 a0_2 a0_3 a0_4 a0_5 a0_6 a0_7 a0_8)) else (none)) else (none)) = some (r1, r2, r3, r4, r5, r6) := by rw [if_pos rfl] at H; exact H
      clear H
      have H := H1
      clear H1
      by_cases c9 : 0 ≤ x8_1
      ·rw [if_pos c9] at H
       have c9b0 : decide (0 ≤ x8_1) = true := decide_eq_true c9
       clear c9
       by_cases c10 : x8_1 < (l0_0.length : Int)
       ·rw [if_pos c10] at H
        have c10b0 : decide (x8_1 < (l0_0.length : Int)) = true := decide_eq_true c10
        clear c10
        by_cases c11 : (rd l0_0 x8_1) = 10
        ·rw [if_pos c11] at H
         have c11b0 : ((rd l0_0 x8_1) == 10) = true := beq_iff_eq.mpr c11
         have c11b1 : ((rd l0_0 x8_1) != 10) = false := bne_eq_false_iff_eq.mpr c11
         clear c11
         by_cases c12 : x8_1 = 0
         ·rw [if_pos c12] at H
          have c12b0 : (x8_1 == 0) = true := beq_iff_eq.mpr c12
          have c12b1 : (x8_1 != 0) = false := bne_eq_false_iff_eq.mpr c12
          clear c12
          have H' := Aside0.mk H
          clear H
          have hnb13 := NB154_155.out
          have hnc13 := NB155_154.out
          have hcz14_0 : wc.cell? ⟨gb154, 0, none⟩ = some (.slice A0_0 l0_0.length c0_0) := (blk_cell BK154.out 0).trans rfl
          have hcz14_1 : wc.cell? ⟨gb154, 1, none⟩ = some (.int .i64 a0_1) := (blk_cell BK154.out 1).trans rfl
          have hcz14_2 : wc.cell? ⟨gb154, 2, none⟩ = some (.int .i64 a0_2) := (blk_cell BK154.out 2).trans rfl
          have hcz14_3 : wc.cell? ⟨gb154, 3, none⟩ = some (.int .i64 a0_3) := (blk_cell BK154.out 3).trans rfl
          have hcz14_4 : wc.cell? ⟨gb154, 4, none⟩ = some (.bool a0_4) := (blk_cell BK154.out 4).trans rfl
          have hcz14_5 : wc.cell? ⟨gb154, 5, none⟩ = some (.int .i64 a0_5) := (blk_cell BK154.out 5).trans rfl
          have hcz14_6 : wc.cell? ⟨gb154, 6, none⟩ = some (.int .i64 a0_6) := (blk_cell BK154.out 6).trans rfl
          have hcz14_7 : wc.cell? ⟨gb154, 7, none⟩ = some (.int .i64 a0_7) := (blk_cell BK154.out 7).trans rfl
          have hcz14_8 : wc.cell? ⟨gb154, 8, none⟩ = some (.int .i64 a0_8) := (blk_cell BK154.out 8).trans rfl
          have hfz14_0 := blk_frozen BK154.out 0
          have hfz14_1 := blk_frozen BK154.out 1
          have hfz14_2 := blk_frozen BK154.out 2
          have hfz14_3 := blk_frozen BK154.out 3
          have hfz14_4 := blk_frozen BK154.out 4
          have hfz14_5 := blk_frozen BK154.out 5
          have hfz14_6 := blk_frozen BK154.out 6
          have hfz14_7 := blk_frozen BK154.out 7
          have hfz14_8 := blk_frozen BK154.out 8
          have p156 : 0 ≤ (x8_1 : Int) := of_decide_eq_true (by first | (with_reducible assumption) | assumption)
          have q156 : x8_1 < (l0_0.length : Int) := of_decide_eq_true (by first | (with_reducible assumption) | assumption)
          obtain ⟨ad156, e156, hx156_0⟩ := Kd.at_int HR0_0.out x8_1 p156 q156
          cases e156
          replace hx156_0 := (HB.out.cell (World.block_lt_of_cell? w _ hx156_0)).trans hx156_0
          replace p156 := eq_true p156
          replace q156 := eq_true q156
          go_wp2
          repeat (go_quiet (fail); try go_wp2)
          go_roundg kj5
          case measure => have := HK1.out; have := HJ5.out; omega
          case rel => exact ⟨(x8_1), (wrap64 (x7_1 - 1)), (wrap64 (x8_1 - 1)), (by first | rfl | (simp; done) | (simp [*]; done)), (by first | rfl | (simp; done) | (simp [*]; done)), (by first | rfl | (simp; done) | (simp [*]; done)), H', ⟨by have := HK1.out; have := HJ5.out; omega⟩, ⟨by (with_reducible repeat (first | refine blk_drewN ?_ _ | refine blk_drew ?_ | refine blk_alloc ?_ _)); exact BK154.out⟩, ⟨by (with_reducible repeat (first | refine blk_drewN ?_ _ | refine blk_drew ?_ | refine blk_alloc ?_ _)); exact BK155.out⟩, ⟨by repeat (first | (with_reducible first | exact HB.out | apply below_alloc | apply pw_below_drewN | apply below_drew1 | refine below_set ?_ GE154.out | refine below_set ?_ GE155.out) | exact HB.out)⟩⟩
         ·rw [if_neg c12] at H
          have c12b0 : (x8_1 == 0) = false := beq_eq_false_iff_ne.mpr c12
          have c12b1 : (x8_1 != 0) = true := bne_iff_ne.mpr c12
          obtain ⟨ji15, hji15⟩ : ∃ j_ : Int, (wrap64 (x8_1 - 1)) = j_ := ⟨_, rfl⟩
          replace H : (if 0 ≤ (ji15) then (if (ji15) < (l0_0.length : Int) then (if (rd l0_0 (ji15)) = 10 then (step_walk_back.l0 kj5 x8_1 (wrap64 (x7_1 - 1)) ji15 l0_0 a0_1 a0_2 a0_3 a0_4 a0_5 a0_6 a0_7 a0_8) else (step_walk_back.l0 kj5 x6_1 x7_1 ji15 l0_0 a0_1 a0_2 a0_3 a0_4 a0_5 a0_6 a0_7 a0_8)) else (none)) else (none)) = some (r1, r2, r3, r4, r5, r6) := by first | (rw [hji15] at H; exact H) | (simp only [hji15] at H ⊢; exact H)
          have hji15w : (IntKind.i64.wrap (x8_1 - 1)) = ji15 := (i64_w _).trans hji15
          by_cases c16 : 0 ≤ (ji15)
          ·rw [if_pos c16] at H
           have c16b0 : decide (0 ≤ (ji15)) = true := decide_eq_true c16
           clear c16
           by_cases c17 : (ji15) < (l0_0.length : Int)
           ·rw [if_pos c17] at H
            have c17b0 : decide ((ji15) < (l0_0.length : Int)) = true := decide_eq_true c17
            clear c17
            by_cases c18 : (rd l0_0 (ji15)) = 10
            ·rw [if_pos c18] at H
             have c18b0 : ((rd l0_0 (ji15)) == 10) = true := beq_iff_eq.mpr c18
             have c18b1 : ((rd l0_0 (ji15)) != 10) = false := bne_eq_false_iff_eq.mpr c18
             clear c18
             have H' := Aside0.mk H
             clear H
             have hnb19 := NB154_155.out
             have hnc19 := NB155_154.out
             have hcz20_0 : wc.cell? ⟨gb154, 0, none⟩ = some (.slice A0_0 l0_0.length c0_0) := (blk_cell BK154.out 0).trans rfl
             have hcz20_1 : wc.cell? ⟨gb154, 1, none⟩ = some (.int .i64 a0_1) := (blk_cell BK154.out 1).trans rfl
             have hcz20_2 : wc.cell? ⟨gb154, 2, none⟩ = some (.int .i64 a0_2) := (blk_cell BK154.out 2).trans rfl
             have hcz20_3 : wc.cell? ⟨gb154, 3, none⟩ = some (.int .i64 a0_3) := (blk_cell BK154.out 3).trans rfl
             have hcz20_4 : wc.cell? ⟨gb154, 4, none⟩ = some (.bool a0_4) := (blk_cell BK154.out 4).trans rfl
             have hcz20_5 : wc.cell? ⟨gb154, 5, none⟩ = some (.int .i64 a0_5) := (blk_cell BK154.out 5).trans rfl
             have hcz20_6 : wc.cell? ⟨gb154, 6, none⟩ = some (.int .i64 a0_6) := (blk_cell BK154.out 6).trans rfl
             have hcz20_7 : wc.cell? ⟨gb154, 7, none⟩ = some (.int .i64 a0_7) := (blk_cell BK154.out 7).trans rfl
             have hcz20_8 : wc.cell? ⟨gb154, 8, none⟩ = some (.int .i64 a0_8) := (blk_cell BK154.out 8).trans rfl
             have hfz20_0 := blk_frozen BK154.out 0
             have hfz20_1 := blk_frozen BK154.out 1
             have hfz20_2 := blk_frozen BK154.out 2
             have hfz20_3 := blk_frozen BK154.out 3
             have hfz20_4 := blk_frozen BK154.out 4
             have hfz20_5 := blk_frozen BK154.out 5
             have hfz20_6 := blk_frozen BK154.out 6
             have hfz20_7 := blk_frozen BK154.out 7
             have hfz20_8 := blk_frozen BK154.out 8
             have p156 : 0 ≤ (x8_1 : Int) := of_decide_eq_true (by first | (with_reducible assumption) | assumption)
             have q156 : x8_1 < (l0_0.length : Int) := of_decide_eq_true (by first | (with_reducible assumption) | assumption)
             obtain ⟨ad156, e156, hx156_0⟩ := Kd.at_int HR0_0.out x8_1 p156 q156
             cases e156
             replace hx156_0 := (HB.out.cell (World.block_lt_of_cell? w _ hx156_0)).trans hx156_0
             replace p156 := eq_true p156
             replace q156 := eq_true q156
             have p157 : 0 ≤ ((ji15) : Int) := of_decide_eq_true (by first | (with_reducible assumption) | assumption)
             have q157 : (ji15) < (l0_0.length : Int) := of_decide_eq_true (by first | (with_reducible assumption) | assumption)
             obtain ⟨ad157, e157, hx157_0⟩ := Kd.at_int HR0_0.out (ji15) p157 q157
             obtain rfl : ad156 = ad157 := (by injection e157)
             replace hx157_0 := (HB.out.cell (World.block_lt_of_cell? w _ hx157_0)).trans hx157_0
             replace p157 := eq_true p157
             replace q157 := eq_true q157
             go_wp2
             repeat (go_quiet (fail); try go_wp2)
             go_roundg kj5
             case measure => have := HK1.out; have := HJ5.out; omega
             case rel => exact ⟨(x8_1), (wrap64 (x7_1 - 1)), (ji15), (by first | rfl | (simp; done) | (simp [*]; done)), (by first | rfl | (simp; done) | (simp [*]; done)), (by first | rfl | (simp; done) | (simp only [← hji15] <;> (first | rfl | simp)) | (simp [*]; done)), H', ⟨by have := HK1.out; have := HJ5.out; omega⟩, ⟨by (with_reducible repeat (first | refine blk_drewN ?_ _ | refine blk_drew ?_ | refine blk_alloc ?_ _)); exact BK154.out⟩, ⟨by (with_reducible repeat (first | refine blk_drewN ?_ _ | refine blk_drew ?_ | refine blk_alloc ?_ _)); exact BK155.out⟩, ⟨by repeat (first | (with_reducible first | exact HB.out | apply below_alloc | apply pw_below_drewN | apply below_drew1 | refine below_set ?_ GE154.out | refine below_set ?_ GE155.out) | exact HB.out)⟩⟩
            ·rw [if_neg c18] at H
             have c18b0 : ((rd l0_0 (ji15)) == 10) = false := beq_eq_false_iff_ne.mpr c18
             have c18b1 : ((rd l0_0 (ji15)) != 10) = true := bne_iff_ne.mpr c18
             have H' := Aside0.mk H
             clear H
             have hnb21 := NB154_155.out
             have hnc21 := NB155_154.out
             have hcz22_0 : wc.cell? ⟨gb154, 0, none⟩ = some (.slice A0_0 l0_0.length c0_0) := (blk_cell BK154.out 0).trans rfl
             have hcz22_1 : wc.cell? ⟨gb154, 1, none⟩ = some (.int .i64 a0_1) := (blk_cell BK154.out 1).trans rfl
             have hcz22_2 : wc.cell? ⟨gb154, 2, none⟩ = some (.int .i64 a0_2) := (blk_cell BK154.out 2).trans rfl
             have hcz22_3 : wc.cell? ⟨gb154, 3, none⟩ = some (.int .i64 a0_3) := (blk_cell BK154.out 3).trans rfl
             have hcz22_4 : wc.cell? ⟨gb154, 4, none⟩ = some (.bool a0_4) := (blk_cell BK154.out 4).trans rfl
             have hcz22_5 : wc.cell? ⟨gb154, 5, none⟩ = some (.int .i64 a0_5) := (blk_cell BK154.out 5).trans rfl
             have hcz22_6 : wc.cell? ⟨gb154, 6, none⟩ = some (.int .i64 a0_6) := (blk_cell BK154.out 6).trans rfl
             have hcz22_7 : wc.cell? ⟨gb154, 7, none⟩ = some (.int .i64 a0_7) := (blk_cell BK154.out 7).trans rfl
             have hcz22_8 : wc.cell? ⟨gb154, 8, none⟩ = some (.int .i64 a0_8) := (blk_cell BK154.out 8).trans rfl
             have hfz22_0 := blk_frozen BK154.out 0
             have hfz22_1 := blk_frozen BK154.out 1
             have hfz22_2 := blk_frozen BK154.out 2
             have hfz22_3 := blk_frozen BK154.out 3
             have hfz22_4 := blk_frozen BK154.out 4
             have hfz22_5 := blk_frozen BK154.out 5
             have hfz22_6 := blk_frozen BK154.out 6
             have hfz22_7 := blk_frozen BK154.out 7
             have hfz22_8 := blk_frozen BK154.out 8
             have p156 : 0 ≤ (x8_1 : Int) := of_decide_eq_true (by first | (with_reducible assumption) | assumption)
             have q156 : x8_1 < (l0_0.length : Int) := of_decide_eq_true (by first | (with_reducible assumption) | assumption)
             obtain ⟨ad156, e156, hx156_0⟩ := Kd.at_int HR0_0.out x8_1 p156 q156
             cases e156
             replace hx156_0 := (HB.out.cell (World.block_lt_of_cell? w _ hx156_0)).trans hx156_0
             replace p156 := eq_true p156
             replace q156 := eq_true q156
             have p157 : 0 ≤ ((ji15) : Int) := of_decide_eq_true (by first | (with_reducible assumption) | assumption)
             have q157 : (ji15) < (l0_0.length : Int) := of_decide_eq_true (by first | (with_reducible assumption) | assumption)
             obtain ⟨ad157, e157, hx157_0⟩ := Kd.at_int HR0_0.out (ji15) p157 q157
             obtain rfl : ad156 = ad157 := (by injection e157)
             replace hx157_0 := (HB.out.cell (World.block_lt_of_cell? w _ hx157_0)).trans hx157_0
             replace p157 := eq_true p157
             replace q157 := eq_true q157
             go_wp2
             repeat (go_quiet (fail); try go_wp2)
             go_roundg kj5
             case measure => have := HK1.out; have := HJ5.out; omega
             case rel => exact ⟨(x6_1), (x7_1), (ji15), (by first | rfl | (simp; done) | (simp [*]; done)), (by first | rfl | (simp; done) | (simp [*]; done)), (by first | rfl | (simp; done) | (simp only [← hji15] <;> (first | rfl | simp)) | (simp [*]; done)), H', ⟨by have := HK1.out; have := HJ5.out; omega⟩, ⟨by (with_reducible repeat (first | refine blk_drewN ?_ _ | refine blk_drew ?_ | refine blk_alloc ?_ _)); exact BK154.out⟩, ⟨by (with_reducible repeat (first | refine blk_drewN ?_ _ | refine blk_drew ?_ | refine blk_alloc ?_ _)); exact BK155.out⟩, ⟨by repeat (first | (with_reducible first | exact HB.out | apply below_alloc | apply pw_below_drewN | apply below_drew1 | refine below_set ?_ GE154.out | refine below_set ?_ GE155.out) | exact HB.out)⟩⟩
           ·rw [if_neg c17] at H
            exact absurd H (by simp)
          ·rw [if_neg c16] at H
           exact absurd H (by simp)
        ·rw [if_neg c11] at H
         have c11b0 : ((rd l0_0 x8_1) == 10) = false := beq_eq_false_iff_ne.mpr c11
         have c11b1 : ((rd l0_0 x8_1) != 10) = true := bne_iff_ne.mpr c11
         have H' := Aside0.mk H
         clear H
         have hnb23 := NB154_155.out
         have hnc23 := NB155_154.out
         have hcz24_0 : wc.cell? ⟨gb154, 0, none⟩ = some (.slice A0_0 l0_0.length c0_0) := (blk_cell BK154.out 0).trans rfl
         have hcz24_1 : wc.cell? ⟨gb154, 1, none⟩ = some (.int .i64 a0_1) := (blk_cell BK154.out 1).trans rfl
         have hcz24_2 : wc.cell? ⟨gb154, 2, none⟩ = some (.int .i64 a0_2) := (blk_cell BK154.out 2).trans rfl
         have hcz24_3 : wc.cell? ⟨gb154, 3, none⟩ = some (.int .i64 a0_3) := (blk_cell BK154.out 3).trans rfl
         have hcz24_4 : wc.cell? ⟨gb154, 4, none⟩ = some (.bool a0_4) := (blk_cell BK154.out 4).trans rfl
         have hcz24_5 : wc.cell? ⟨gb154, 5, none⟩ = some (.int .i64 a0_5) := (blk_cell BK154.out 5).trans rfl
         have hcz24_6 : wc.cell? ⟨gb154, 6, none⟩ = some (.int .i64 a0_6) := (blk_cell BK154.out 6).trans rfl
         have hcz24_7 : wc.cell? ⟨gb154, 7, none⟩ = some (.int .i64 a0_7) := (blk_cell BK154.out 7).trans rfl
         have hcz24_8 : wc.cell? ⟨gb154, 8, none⟩ = some (.int .i64 a0_8) := (blk_cell BK154.out 8).trans rfl
         have hfz24_0 := blk_frozen BK154.out 0
         have hfz24_1 := blk_frozen BK154.out 1
         have hfz24_2 := blk_frozen BK154.out 2
         have hfz24_3 := blk_frozen BK154.out 3
         have hfz24_4 := blk_frozen BK154.out 4
         have hfz24_5 := blk_frozen BK154.out 5
         have hfz24_6 := blk_frozen BK154.out 6
         have hfz24_7 := blk_frozen BK154.out 7
         have hfz24_8 := blk_frozen BK154.out 8
         have p156 : 0 ≤ (x8_1 : Int) := of_decide_eq_true (by first | (with_reducible assumption) | assumption)
         have q156 : x8_1 < (l0_0.length : Int) := of_decide_eq_true (by first | (with_reducible assumption) | assumption)
         obtain ⟨ad156, e156, hx156_0⟩ := Kd.at_int HR0_0.out x8_1 p156 q156
         cases e156
         replace hx156_0 := (HB.out.cell (World.block_lt_of_cell? w _ hx156_0)).trans hx156_0
         replace p156 := eq_true p156
         replace q156 := eq_true q156
         go_wp2
         repeat (go_quiet (fail); try go_wp2)
         go_roundg kj5
         case measure => have := HK1.out; have := HJ5.out; omega
         case rel => exact ⟨(x8_1), (wrap64 (x7_1 - 1)), (wrap64 (x8_1 - 1)), (by first | rfl | (simp; done) | (simp [*]; done)), (by first | rfl | (simp; done) | (simp [*]; done)), (by first | rfl | (simp; done) | (simp [*]; done)), H', ⟨by have := HK1.out; have := HJ5.out; omega⟩, ⟨by (with_reducible repeat (first | refine blk_drewN ?_ _ | refine blk_drew ?_ | refine blk_alloc ?_ _)); exact BK154.out⟩, ⟨by (with_reducible repeat (first | refine blk_drewN ?_ _ | refine blk_drew ?_ | refine blk_alloc ?_ _)); exact BK155.out⟩, ⟨by repeat (first | (with_reducible first | exact HB.out | apply below_alloc | apply pw_below_drewN | apply below_drew1 | refine below_set ?_ GE154.out | refine below_set ?_ GE155.out) | exact HB.out)⟩⟩
       ·rw [if_neg c10] at H
        exact absurd H (by simp)
      ·rw [if_neg c9] at H
       exact absurd H (by simp)
     ·replace c8 := Bool.eq_false_iff.mpr c8
      subst c8
      have H1 : (if x6_1 < 0 then ((step_walk_fails.f l0_0 a0_1 a0_2 a0_3 a0_4 a0_5 a0_6 a0_7 a0_8).bind fun bt158 => (some (bt158.1, bt158.2.1, bt158.2.2.1, bt158.2.2.2.1, bt158.2.2.2.2.1, bt158.2.2.2.2.2))) else ((step_walk_to.f kj5 l0_0 a0_1 a0_2 a0_3 a0_4 a0_5 a0_6 a0_7 a0_8 x6_1 1).bind fun bt164 => (some (bt164.1, bt164.2.1, bt164.2.2.1, bt164.2.2.2.1, bt164.2.2.2.2.1, bt164.2.2.2.2.2)))) = some (r1, r2, r3, r4, r5, r6) := by rw [if_neg (show ¬ (false = true) by decide)] at H; exact H
      clear H
      have H := H1
      clear H1
      by_cases c25 : x6_1 < 0
      ·rw [if_pos c25] at H
       have c25b0 : decide (x6_1 < 0) = true := decide_eq_true c25
       clear c25
       replace H := Option.bind_eq_some_iff.mp H
       obtain ⟨⟨t158, t159, t160, t161, t162, t163⟩, A260, H⟩ := H
       replace H : (some (t158, t159, t160, t161, t162, t163)) = some (r1, r2, r3, r4, r5, r6) := H
       have A26 := Aside0.mk A260
       clear A260
       simp only [Option.some.injEq, Prod.mk.injEq] at H
       obtain ⟨rfl, rfl, rfl, rfl, rfl, rfl⟩ := H
       have hnb27 := NB154_155.out
       have hnc27 := NB155_154.out
       have hcz28_0 : wc.cell? ⟨gb154, 0, none⟩ = some (.slice A0_0 l0_0.length c0_0) := (blk_cell BK154.out 0).trans rfl
       have hcz28_1 : wc.cell? ⟨gb154, 1, none⟩ = some (.int .i64 a0_1) := (blk_cell BK154.out 1).trans rfl
       have hcz28_2 : wc.cell? ⟨gb154, 2, none⟩ = some (.int .i64 a0_2) := (blk_cell BK154.out 2).trans rfl
       have hcz28_3 : wc.cell? ⟨gb154, 3, none⟩ = some (.int .i64 a0_3) := (blk_cell BK154.out 3).trans rfl
       have hcz28_4 : wc.cell? ⟨gb154, 4, none⟩ = some (.bool a0_4) := (blk_cell BK154.out 4).trans rfl
       have hcz28_5 : wc.cell? ⟨gb154, 5, none⟩ = some (.int .i64 a0_5) := (blk_cell BK154.out 5).trans rfl
       have hcz28_6 : wc.cell? ⟨gb154, 6, none⟩ = some (.int .i64 a0_6) := (blk_cell BK154.out 6).trans rfl
       have hcz28_7 : wc.cell? ⟨gb154, 7, none⟩ = some (.int .i64 a0_7) := (blk_cell BK154.out 7).trans rfl
       have hcz28_8 : wc.cell? ⟨gb154, 8, none⟩ = some (.int .i64 a0_8) := (blk_cell BK154.out 8).trans rfl
       have hfz28_0 := blk_frozen BK154.out 0
       have hfz28_1 := blk_frozen BK154.out 1
       have hfz28_2 := blk_frozen BK154.out 2
       have hfz28_3 := blk_frozen BK154.out 3
       have hfz28_4 := blk_frozen BK154.out 4
       have hfz28_5 := blk_frozen BK154.out 5
       have hfz28_6 := blk_frozen BK154.out 6
       have hfz28_7 := blk_frozen BK154.out 7
       have hfz28_8 := blk_frozen BK154.out 8
       go_wp2_with (first | (go_at_call 42; (with_reducible refine (step_walk_fails.calls _ _ l0_0 a0_1 a0_2 a0_3 a0_4 a0_5 a0_6 a0_7 a0_8 t158 t159 t160 t161 t162 t163 _ ?side1 ?side2 A26.out).mono ?_); (case side1 => repeat (first | exact (Kd.C_below HR0_0.out HB.out) | (with_reducible refine Kd.C_alloc ?_ _) | (with_reducible refine Kd.C_drewN ?_ _) | (with_reducible refine Kd.C_drew ?_))); (case side2 => exact HC0_0.out); rintro e w29 ⟨rfl, hb⟩; have n0_ := Aside0.mk (blk_below (g := gb154) (o := .cells #[.slice A0_0 l0_0.length c0_0, .int .i64 a0_1, .int .i64 a0_2, .int .i64 a0_3, .bool a0_4, .int .i64 a0_5, .int .i64 a0_6, .int .i64 a0_7, .int .i64 a0_8] 51 (0, 0)) (by (with_reducible repeat (first | refine blk_drewN ?_ _ | refine blk_drew ?_ | refine blk_alloc ?_ _)); exact BK154.out) hb); have n1_ := Aside0.mk (blk_below (g := gb155) (o := .cells #[.int .i64 0, .int .i64 0, .int .i64 0] 29 (0, 0)) (by (with_reducible repeat (first | refine blk_drewN ?_ _ | refine blk_drew ?_ | refine blk_alloc ?_ _)); exact BK155.out) hb); have n2_ := Aside0.mk (below_step (by repeat (first | (with_reducible first | exact HB.out | apply below_alloc | apply pw_below_drewN | apply below_drew1 | refine below_set ?_ GE154.out | refine below_set ?_ GE155.out) | exact HB.out)) hb); clear BK154; clear BK155; clear HB; have BK154 := n0_; have BK155 := n1_; have HB := n2_; clear n0_ n1_ n2_; (try clear hb); (try clear hb2); (try clear hk); (try clear hi); have hcz30_0 : w29.cell? ⟨gb155, 0, none⟩ = some (.int .i64 0) := (blk_cell BK155.out 0).trans rfl; have hcz30_1 : w29.cell? ⟨gb155, 1, none⟩ = some (.int .i64 0) := (blk_cell BK155.out 1).trans rfl; have hcz30_2 : w29.cell? ⟨gb155, 2, none⟩ = some (.int .i64 0) := (blk_cell BK155.out 2).trans rfl; have hfz30_0 := blk_frozen BK155.out 0; have hfz30_1 := blk_frozen BK155.out 1; have hfz30_2 := blk_frozen BK155.out 2))
       repeat (go_quiet (first | (go_at_call 42; (with_reducible refine (step_walk_fails.calls _ _ l0_0 a0_1 a0_2 a0_3 a0_4 a0_5 a0_6 a0_7 a0_8 t158 t159 t160 t161 t162 t163 _ ?side1 ?side2 A26.out).mono ?_); (case side1 => repeat (first | exact (Kd.C_below HR0_0.out HB.out) | (with_reducible refine Kd.C_alloc ?_ _) | (with_reducible refine Kd.C_drewN ?_ _) | (with_reducible refine Kd.C_drew ?_))); (case side2 => exact HC0_0.out); rintro e w29 ⟨rfl, hb⟩; have n0_ := Aside0.mk (blk_below (g := gb154) (o := .cells #[.slice A0_0 l0_0.length c0_0, .int .i64 a0_1, .int .i64 a0_2, .int .i64 a0_3, .bool a0_4, .int .i64 a0_5, .int .i64 a0_6, .int .i64 a0_7, .int .i64 a0_8] 51 (0, 0)) (by (with_reducible repeat (first | refine blk_drewN ?_ _ | refine blk_drew ?_ | refine blk_alloc ?_ _)); exact BK154.out) hb); have n1_ := Aside0.mk (blk_below (g := gb155) (o := .cells #[.int .i64 0, .int .i64 0, .int .i64 0] 29 (0, 0)) (by (with_reducible repeat (first | refine blk_drewN ?_ _ | refine blk_drew ?_ | refine blk_alloc ?_ _)); exact BK155.out) hb); have n2_ := Aside0.mk (below_step (by repeat (first | (with_reducible first | exact HB.out | apply below_alloc | apply pw_below_drewN | apply below_drew1 | refine below_set ?_ GE154.out | refine below_set ?_ GE155.out) | exact HB.out)) hb); clear BK154; clear BK155; clear HB; have BK154 := n0_; have BK155 := n1_; have HB := n2_; clear n0_ n1_ n2_; (try clear hb); (try clear hb2); (try clear hk); (try clear hi); have hcz30_0 : w29.cell? ⟨gb155, 0, none⟩ = some (.int .i64 0) := (blk_cell BK155.out 0).trans rfl; have hcz30_1 : w29.cell? ⟨gb155, 1, none⟩ = some (.int .i64 0) := (blk_cell BK155.out 1).trans rfl; have hcz30_2 : w29.cell? ⟨gb155, 2, none⟩ = some (.int .i64 0) := (blk_cell BK155.out 2).trans rfl; have hfz30_0 := blk_frozen BK155.out 0; have hfz30_1 := blk_frozen BK155.out 1; have hfz30_2 := blk_frozen BK155.out 2)); try go_wp2_with (first | (go_at_call 42; (with_reducible refine (step_walk_fails.calls _ _ l0_0 a0_1 a0_2 a0_3 a0_4 a0_5 a0_6 a0_7 a0_8 t158 t159 t160 t161 t162 t163 _ ?side1 ?side2 A26.out).mono ?_); (case side1 => repeat (first | exact (Kd.C_below HR0_0.out HB.out) | (with_reducible refine Kd.C_alloc ?_ _) | (with_reducible refine Kd.C_drewN ?_ _) | (with_reducible refine Kd.C_drew ?_))); (case side2 => exact HC0_0.out); rintro e w29 ⟨rfl, hb⟩; have n0_ := Aside0.mk (blk_below (g := gb154) (o := .cells #[.slice A0_0 l0_0.length c0_0, .int .i64 a0_1, .int .i64 a0_2, .int .i64 a0_3, .bool a0_4, .int .i64 a0_5, .int .i64 a0_6, .int .i64 a0_7, .int .i64 a0_8] 51 (0, 0)) (by (with_reducible repeat (first | refine blk_drewN ?_ _ | refine blk_drew ?_ | refine blk_alloc ?_ _)); exact BK154.out) hb); have n1_ := Aside0.mk (blk_below (g := gb155) (o := .cells #[.int .i64 0, .int .i64 0, .int .i64 0] 29 (0, 0)) (by (with_reducible repeat (first | refine blk_drewN ?_ _ | refine blk_drew ?_ | refine blk_alloc ?_ _)); exact BK155.out) hb); have n2_ := Aside0.mk (below_step (by repeat (first | (with_reducible first | exact HB.out | apply below_alloc | apply pw_below_drewN | apply below_drew1 | refine below_set ?_ GE154.out | refine below_set ?_ GE155.out) | exact HB.out)) hb); clear BK154; clear BK155; clear HB; have BK154 := n0_; have BK155 := n1_; have HB := n2_; clear n0_ n1_ n2_; (try clear hb); (try clear hb2); (try clear hk); (try clear hi); have hcz30_0 : w29.cell? ⟨gb155, 0, none⟩ = some (.int .i64 0) := (blk_cell BK155.out 0).trans rfl; have hcz30_1 : w29.cell? ⟨gb155, 1, none⟩ = some (.int .i64 0) := (blk_cell BK155.out 1).trans rfl; have hcz30_2 : w29.cell? ⟨gb155, 2, none⟩ = some (.int .i64 0) := (blk_cell BK155.out 2).trans rfl; have hfz30_0 := blk_frozen BK155.out 0; have hfz30_1 := blk_frozen BK155.out 1; have hfz30_2 := blk_frozen BK155.out 2)))
       refine bodyPost_ret (results_list (rs := [.cell 2 29, .tmp 3, .tmp 4, .tmp 5]) rfl (by simp) (.cell gb155 29 #[.int .i64 t158, .int .i64 t159, .int .i64 t160] (0, 0) _ rfl (by (with_reducible repeat (first | refine blk_drewN ?_ _ | refine blk_drew ?_ | refine blk_alloc ?_ _)); refine blk_put (cs := #[.int .i64 t158, .int .i64 t159, .int .i64 0]) ?_ 2 _ rfl; (with_reducible repeat (first | refine blk_drewN ?_ _ | refine blk_drew ?_ | refine blk_alloc ?_ _)); refine blk_put (cs := #[.int .i64 t158, .int .i64 0, .int .i64 0]) ?_ 1 _ rfl; (with_reducible repeat (first | refine blk_drewN ?_ _ | refine blk_drew ?_ | refine blk_alloc ?_ _)); refine blk_put (cs := #[.int .i64 0, .int .i64 0, .int .i64 0]) ?_ 0 _ rfl; (with_reducible repeat (first | refine blk_drewN ?_ _ | refine blk_drew ?_ | refine blk_alloc ?_ _)); exact BK155.out) Try.underlying29 rfl (by kernel_rfl) (.tmp (.tmp (.tmp .nil))))) rfl ?_
       exact ⟨by first | rfl | (simp [errW_none, errW_some] <;> rfl) | (simp [*, errW_none, errW_some] <;> rfl), by repeat (first | (with_reducible first | exact HB.out | apply below_alloc | apply pw_below_drewN | apply below_drew1 | refine below_set ?_ GE154.out | refine below_set ?_ GE155.out) | exact HB.out)⟩
      ·rw [if_neg c25] at H
       have c25b0 : decide (x6_1 < 0) = false := decide_eq_false c25
       clear c25
       replace H := Option.bind_eq_some_iff.mp H
       obtain ⟨⟨t164, t165, t166, t167, t168, t169⟩, A310, H⟩ := H
       replace H : (some (t164, t165, t166, t167, t168, t169)) = some (r1, r2, r3, r4, r5, r6) := H
       have A31 := Aside0.mk A310
       clear A310
       simp only [Option.some.injEq, Prod.mk.injEq] at H
       obtain ⟨rfl, rfl, rfl, rfl, rfl, rfl⟩ := H
       have hnb32 := NB154_155.out
       have hnc32 := NB155_154.out
       have hcz33_0 : wc.cell? ⟨gb154, 0, none⟩ = some (.slice A0_0 l0_0.length c0_0) := (blk_cell BK154.out 0).trans rfl
       have hcz33_1 : wc.cell? ⟨gb154, 1, none⟩ = some (.int .i64 a0_1) := (blk_cell BK154.out 1).trans rfl
       have hcz33_2 : wc.cell? ⟨gb154, 2, none⟩ = some (.int .i64 a0_2) := (blk_cell BK154.out 2).trans rfl
       have hcz33_3 : wc.cell? ⟨gb154, 3, none⟩ = some (.int .i64 a0_3) := (blk_cell BK154.out 3).trans rfl
       have hcz33_4 : wc.cell? ⟨gb154, 4, none⟩ = some (.bool a0_4) := (blk_cell BK154.out 4).trans rfl
       have hcz33_5 : wc.cell? ⟨gb154, 5, none⟩ = some (.int .i64 a0_5) := (blk_cell BK154.out 5).trans rfl
       have hcz33_6 : wc.cell? ⟨gb154, 6, none⟩ = some (.int .i64 a0_6) := (blk_cell BK154.out 6).trans rfl
       have hcz33_7 : wc.cell? ⟨gb154, 7, none⟩ = some (.int .i64 a0_7) := (blk_cell BK154.out 7).trans rfl
       have hcz33_8 : wc.cell? ⟨gb154, 8, none⟩ = some (.int .i64 a0_8) := (blk_cell BK154.out 8).trans rfl
       have hfz33_0 := blk_frozen BK154.out 0
       have hfz33_1 := blk_frozen BK154.out 1
       have hfz33_2 := blk_frozen BK154.out 2
       have hfz33_3 := blk_frozen BK154.out 3
       have hfz33_4 := blk_frozen BK154.out 4
       have hfz33_5 := blk_frozen BK154.out 5
       have hfz33_6 := blk_frozen BK154.out 6
       have hfz33_7 := blk_frozen BK154.out 7
       have hfz33_8 := blk_frozen BK154.out 8
       go_wp2_with (first | (go_at_call 43; (with_reducible refine (step_walk_to.calls kj5 _ _ l0_0 a0_1 a0_2 a0_3 a0_4 a0_5 a0_6 a0_7 a0_8 x6_1 1 t164 t165 t166 t167 t168 t169 _ ?side1 ?side2 A31.out).mono ?_); (case side1 => repeat (first | exact (Kd.C_below HR0_0.out HB.out) | (with_reducible refine Kd.C_alloc ?_ _) | (with_reducible refine Kd.C_drewN ?_ _) | (with_reducible refine Kd.C_drew ?_))); (case side2 => exact HC0_0.out); rintro e w34 ⟨rfl, hb⟩; have n0_ := Aside0.mk (blk_below (g := gb154) (o := .cells #[.slice A0_0 l0_0.length c0_0, .int .i64 a0_1, .int .i64 a0_2, .int .i64 a0_3, .bool a0_4, .int .i64 a0_5, .int .i64 a0_6, .int .i64 a0_7, .int .i64 a0_8] 51 (0, 0)) (by (with_reducible repeat (first | refine blk_drewN ?_ _ | refine blk_drew ?_ | refine blk_alloc ?_ _)); exact BK154.out) hb); have n1_ := Aside0.mk (blk_below (g := gb155) (o := .cells #[.int .i64 0, .int .i64 0, .int .i64 0] 29 (0, 0)) (by (with_reducible repeat (first | refine blk_drewN ?_ _ | refine blk_drew ?_ | refine blk_alloc ?_ _)); exact BK155.out) hb); have n2_ := Aside0.mk (below_step (by repeat (first | (with_reducible first | exact HB.out | apply below_alloc | apply pw_below_drewN | apply below_drew1 | refine below_set ?_ GE154.out | refine below_set ?_ GE155.out) | exact HB.out)) hb); clear BK154; clear BK155; clear HB; have BK154 := n0_; have BK155 := n1_; have HB := n2_; clear n0_ n1_ n2_; (try clear hb); (try clear hb2); (try clear hk); (try clear hi); have hcz35_0 : w34.cell? ⟨gb155, 0, none⟩ = some (.int .i64 0) := (blk_cell BK155.out 0).trans rfl; have hcz35_1 : w34.cell? ⟨gb155, 1, none⟩ = some (.int .i64 0) := (blk_cell BK155.out 1).trans rfl; have hcz35_2 : w34.cell? ⟨gb155, 2, none⟩ = some (.int .i64 0) := (blk_cell BK155.out 2).trans rfl; have hfz35_0 := blk_frozen BK155.out 0; have hfz35_1 := blk_frozen BK155.out 1; have hfz35_2 := blk_frozen BK155.out 2))
       repeat (go_quiet (first | (go_at_call 43; (with_reducible refine (step_walk_to.calls kj5 _ _ l0_0 a0_1 a0_2 a0_3 a0_4 a0_5 a0_6 a0_7 a0_8 x6_1 1 t164 t165 t166 t167 t168 t169 _ ?side1 ?side2 A31.out).mono ?_); (case side1 => repeat (first | exact (Kd.C_below HR0_0.out HB.out) | (with_reducible refine Kd.C_alloc ?_ _) | (with_reducible refine Kd.C_drewN ?_ _) | (with_reducible refine Kd.C_drew ?_))); (case side2 => exact HC0_0.out); rintro e w34 ⟨rfl, hb⟩; have n0_ := Aside0.mk (blk_below (g := gb154) (o := .cells #[.slice A0_0 l0_0.length c0_0, .int .i64 a0_1, .int .i64 a0_2, .int .i64 a0_3, .bool a0_4, .int .i64 a0_5, .int .i64 a0_6, .int .i64 a0_7, .int .i64 a0_8] 51 (0, 0)) (by (with_reducible repeat (first | refine blk_drewN ?_ _ | refine blk_drew ?_ | refine blk_alloc ?_ _)); exact BK154.out) hb); have n1_ := Aside0.mk (blk_below (g := gb155) (o := .cells #[.int .i64 0, .int .i64 0, .int .i64 0] 29 (0, 0)) (by (with_reducible repeat (first | refine blk_drewN ?_ _ | refine blk_drew ?_ | refine blk_alloc ?_ _)); exact BK155.out) hb); have n2_ := Aside0.mk (below_step (by repeat (first | (with_reducible first | exact HB.out | apply below_alloc | apply pw_below_drewN | apply below_drew1 | refine below_set ?_ GE154.out | refine below_set ?_ GE155.out) | exact HB.out)) hb); clear BK154; clear BK155; clear HB; have BK154 := n0_; have BK155 := n1_; have HB := n2_; clear n0_ n1_ n2_; (try clear hb); (try clear hb2); (try clear hk); (try clear hi); have hcz35_0 : w34.cell? ⟨gb155, 0, none⟩ = some (.int .i64 0) := (blk_cell BK155.out 0).trans rfl; have hcz35_1 : w34.cell? ⟨gb155, 1, none⟩ = some (.int .i64 0) := (blk_cell BK155.out 1).trans rfl; have hcz35_2 : w34.cell? ⟨gb155, 2, none⟩ = some (.int .i64 0) := (blk_cell BK155.out 2).trans rfl; have hfz35_0 := blk_frozen BK155.out 0; have hfz35_1 := blk_frozen BK155.out 1; have hfz35_2 := blk_frozen BK155.out 2)); try go_wp2_with (first | (go_at_call 43; (with_reducible refine (step_walk_to.calls kj5 _ _ l0_0 a0_1 a0_2 a0_3 a0_4 a0_5 a0_6 a0_7 a0_8 x6_1 1 t164 t165 t166 t167 t168 t169 _ ?side1 ?side2 A31.out).mono ?_); (case side1 => repeat (first | exact (Kd.C_below HR0_0.out HB.out) | (with_reducible refine Kd.C_alloc ?_ _) | (with_reducible refine Kd.C_drewN ?_ _) | (with_reducible refine Kd.C_drew ?_))); (case side2 => exact HC0_0.out); rintro e w34 ⟨rfl, hb⟩; have n0_ := Aside0.mk (blk_below (g := gb154) (o := .cells #[.slice A0_0 l0_0.length c0_0, .int .i64 a0_1, .int .i64 a0_2, .int .i64 a0_3, .bool a0_4, .int .i64 a0_5, .int .i64 a0_6, .int .i64 a0_7, .int .i64 a0_8] 51 (0, 0)) (by (with_reducible repeat (first | refine blk_drewN ?_ _ | refine blk_drew ?_ | refine blk_alloc ?_ _)); exact BK154.out) hb); have n1_ := Aside0.mk (blk_below (g := gb155) (o := .cells #[.int .i64 0, .int .i64 0, .int .i64 0] 29 (0, 0)) (by (with_reducible repeat (first | refine blk_drewN ?_ _ | refine blk_drew ?_ | refine blk_alloc ?_ _)); exact BK155.out) hb); have n2_ := Aside0.mk (below_step (by repeat (first | (with_reducible first | exact HB.out | apply below_alloc | apply pw_below_drewN | apply below_drew1 | refine below_set ?_ GE154.out | refine below_set ?_ GE155.out) | exact HB.out)) hb); clear BK154; clear BK155; clear HB; have BK154 := n0_; have BK155 := n1_; have HB := n2_; clear n0_ n1_ n2_; (try clear hb); (try clear hb2); (try clear hk); (try clear hi); have hcz35_0 : w34.cell? ⟨gb155, 0, none⟩ = some (.int .i64 0) := (blk_cell BK155.out 0).trans rfl; have hcz35_1 : w34.cell? ⟨gb155, 1, none⟩ = some (.int .i64 0) := (blk_cell BK155.out 1).trans rfl; have hcz35_2 : w34.cell? ⟨gb155, 2, none⟩ = some (.int .i64 0) := (blk_cell BK155.out 2).trans rfl; have hfz35_0 := blk_frozen BK155.out 0; have hfz35_1 := blk_frozen BK155.out 1; have hfz35_2 := blk_frozen BK155.out 2)))
       refine bodyPost_ret (results_list (rs := [.cell 2 29, .tmp 3, .tmp 4, .tmp 5]) rfl (by simp) (.cell gb155 29 #[.int .i64 t164, .int .i64 t165, .int .i64 t166] (0, 0) _ rfl (by (with_reducible repeat (first | refine blk_drewN ?_ _ | refine blk_drew ?_ | refine blk_alloc ?_ _)); refine blk_put (cs := #[.int .i64 t164, .int .i64 t165, .int .i64 0]) ?_ 2 _ rfl; (with_reducible repeat (first | refine blk_drewN ?_ _ | refine blk_drew ?_ | refine blk_alloc ?_ _)); refine blk_put (cs := #[.int .i64 t164, .int .i64 0, .int .i64 0]) ?_ 1 _ rfl; (with_reducible repeat (first | refine blk_drewN ?_ _ | refine blk_drew ?_ | refine blk_alloc ?_ _)); refine blk_put (cs := #[.int .i64 0, .int .i64 0, .int .i64 0]) ?_ 0 _ rfl; (with_reducible repeat (first | refine blk_drewN ?_ _ | refine blk_drew ?_ | refine blk_alloc ?_ _)); exact BK155.out) Try.underlying29 rfl (by kernel_rfl) (.tmp (.tmp (.tmp .nil))))) rfl ?_
       exact ⟨by first | rfl | (simp [errW_none, errW_some] <;> rfl) | (simp [*, errW_none, errW_some] <;> rfl), by repeat (first | (with_reducible first | exact HB.out | apply below_alloc | apply pw_below_drewN | apply below_drew1 | refine below_set ?_ GE154.out | refine below_set ?_ GE155.out) | exact HB.out)⟩

end Go.Proofs.Ytofkcdnkbjpmmaa.X
