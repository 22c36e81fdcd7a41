/-
  Texts of one proof in one file (wip/bundle.py): X48.
  Conditions: none.
-/
import Derived.Test.YtofkcdnkbjpmmaaBPlaces1
import Derived.Test.YtofkcdnkbjpmmaaBPlaces6
import Derived.Test.YtofkcdnkbjpmmaaBPlaces7
section
-- Written by wip/xprint.py over the kit's print.py: the Lean function of each Go function, and the proof that the Go text comes to it.
namespace Go.Proofs.Ytofkcdnkbjpmmaa.X
open Go.RowKit Go.Proofs.YtofkcdnkbjpmmaaW.PrintWords Go.Proofs.YtofkcdnkbjpmmaaW.PrintLast Go.Proofs.YtofkcdnkbjpmmaaW.PrintMore
attribute [local go_sem] max2_int min2_int max_two min_two max_three min_three max_four min_four   -- for this text's walks alone
set_option linter.unusedVariables false
set_option linter.unusedSimpArgs false

attribute [local go_sem high] eqA29
/-! ### quoinlaw07_StepPlaces: function 6 -/
def quoinlaw07_StepPlaces.T7 : Bool × List (List Nat × List Nat) := (true, [([], []), ([0], [0]), ([1], [1]), ([], []), ([3], [3]), ([4], [4]), ([2, 1, 0, 1, 2], [2]), ([5, 6, 0, 1, 2, 3, 4, 5, 6], [5])])
def quoinlaw07_StepPlaces.B7 : List Nat := [0, 1, 3, 0, 8, 24, 7, 127]
theorem quoinlaw07_StepPlaces.tab7 : rtab .any (opsOf Try.f6 7) = quoinlaw07_StepPlaces.T7 := by kernel_rfl
theorem quoinlaw07_StepPlaces.bits7 : waitsOk quoinlaw07_StepPlaces.T7.2 quoinlaw07_StepPlaces.B7 = true := by kernel_rfl
def quoinlaw07_StepPlaces.T46 : Bool × List (List Nat × List Nat) := (true, [([], []), ([0], [0]), ([1], [1]), ([2], [2]), ([3], [3]), ([3], [3]), ([5, 3], [3, 5]), ([4, 6, 3, 3], [3, 4, 6]), ([3], [3]), ([8, 3], [3, 8]), ([7, 9, 3], [3, 7, 9]), ([3, 10], [3, 10])])
def quoinlaw07_StepPlaces.B46 : List Nat := [0, 1, 3, 7, 15, 15, 47, 127, 15, 271, 1023, 2047]
theorem quoinlaw07_StepPlaces.tab46 : rtab .any (opsOf Try.f6 46) = quoinlaw07_StepPlaces.T46 := by kernel_rfl
theorem quoinlaw07_StepPlaces.bits46 : waitsOk quoinlaw07_StepPlaces.T46.2 quoinlaw07_StepPlaces.B46 = true := by kernel_rfl
set_option maxHeartbeats 8000000 in
set_option maxRecDepth 100000 in
theorem quoinlaw07_StepPlaces.calls (k : Nat) (A0 : Option Addr) (c0 : Nat) (l0 : List Int) (a1_0 : Int) (a1_1 : Int) (a1_2 : Int) (a1_3 : ByteArray) (r : Bool) (w : World) (hr0 : Kd.C (Kd.int .u8) w A0 l0.length l0) (hc0 : l0.length ≤ c0) (h : quoinlaw07_StepPlaces.f k l0 a1_0 a1_1 a1_2 a1_3 = some r) :
  Calls Try.prog 6 #[.slice A0 l0.length c0, .agg #[.int .i64 a1_0, .int .i64 a1_1, .int .i64 a1_2, .string a1_3]] w fun e w' => e = .returned (.bool r) ∧ Below w.heap.size w w' := by
 have hu27 := Try.underlying27
 have hu29 := Try.underlying29
 have HR0 := Aside0.mk hr0
 have HC0 := Aside0.mk hc0
 clear hr0 hc0
 have HB := Aside0.mk (Below.refl w.heap.size w)
 have H : ((quoinlaw07_awake.f k).bind fun t511 => (if t511 = true then ((step_Move.f k l0 a1_0 a1_1 a1_2 a1_3).bind fun bt512 => (if a1_0 < 0 then (quoinlaw07_StepPlaces.j0 k l0 bt512.2.2.2.1 bt512.2.2.2.2 true a1_0 a1_1 a1_2 a1_3 bt512.1 bt512.2.1 bt512.2.2.1) else (if a1_0 > (l0.length : Int) then (quoinlaw07_StepPlaces.j0 k l0 bt512.2.2.2.1 bt512.2.2.2.2 true a1_0 a1_1 a1_2 a1_3 bt512.1 bt512.2.1 bt512.2.2.1) else (if a1_1 < (-1) then (quoinlaw07_StepPlaces.j0 k l0 bt512.2.2.2.1 bt512.2.2.2.2 true a1_0 a1_1 a1_2 a1_3 bt512.1 bt512.2.1 bt512.2.2.1) else (if a1_2 < 0 then (quoinlaw07_StepPlaces.j0 k l0 bt512.2.2.2.1 bt512.2.2.2.2 true a1_0 a1_1 a1_2 a1_3 bt512.1 bt512.2.1 bt512.2.2.1) else (quoinlaw07_StepPlaces.j0 k l0 bt512.2.2.2.1 bt512.2.2.2.2 (decide (a1_2 > 9999)) a1_0 a1_1 a1_2 a1_3 bt512.1 bt512.2.1 bt512.2.2.1)))))) else (some false))) = some r := h
 clear h
 replace H := Option.bind_eq_some_iff.mp H
 obtain ⟨t511, A30, H⟩ := H
 replace H : (if t511 = true then ((step_Move.f k l0 a1_0 a1_1 a1_2 a1_3).bind fun bt512 => (if a1_0 < 0 then (quoinlaw07_StepPlaces.j0 k l0 bt512.2.2.2.1 bt512.2.2.2.2 true a1_0 a1_1 a1_2 a1_3 bt512.1 bt512.2.1 bt512.2.2.1) else (if a1_0 > (l0.length : Int) then (quoinlaw07_StepPlaces.j0 k l0 bt512.2.2.2.1 bt512.2.2.2.2 true a1_0 a1_1 a1_2 a1_3 bt512.1 bt512.2.1 bt512.2.2.1) else (if a1_1 < (-1) then (quoinlaw07_StepPlaces.j0 k l0 bt512.2.2.2.1 bt512.2.2.2.2 true a1_0 a1_1 a1_2 a1_3 bt512.1 bt512.2.1 bt512.2.2.1) else (if a1_2 < 0 then (quoinlaw07_StepPlaces.j0 k l0 bt512.2.2.2.1 bt512.2.2.2.2 true a1_0 a1_1 a1_2 a1_3 bt512.1 bt512.2.1 bt512.2.2.1) else (quoinlaw07_StepPlaces.j0 k l0 bt512.2.2.2.1 bt512.2.2.2.2 (decide (a1_2 > 9999)) a1_0 a1_1 a1_2 a1_3 bt512.1 bt512.2.1 bt512.2.2.1)))))) else (some false)) = some r := H
 have A3 := Aside0.mk A30
 clear A30
 by_cases c4 : t511 = true
 ·subst c4
  have H1 : ((step_Move.f k l0 a1_0 a1_1 a1_2 a1_3).bind fun bt512 => (if a1_0 < 0 then (quoinlaw07_StepPlaces.j0 k l0 bt512.2.2.2.1 bt512.2.2.2.2 true a1_0 a1_1 a1_2 a1_3 bt512.1 bt512.2.1 bt512.2.2.1) else (if a1_0 > (l0.length : Int) then (quoinlaw07_StepPlaces.j0 k l0 bt512.2.2.2.1 bt512.2.2.2.2 true a1_0 a1_1 a1_2 a1_3 bt512.1 bt512.2.1 bt512.2.2.1) else (if a1_1 < (-1) then (quoinlaw07_StepPlaces.j0 k l0 bt512.2.2.2.1 bt512.2.2.2.2 true a1_0 a1_1 a1_2 a1_3 bt512.1 bt512.2.1 bt512.2.2.1) else (if a1_2 < 0 then (quoinlaw07_StepPlaces.j0 k l0 bt512.2.2.2.1 bt512.2.2.2.2 true a1_0 a1_1 a1_2 a1_3 bt512.1 bt512.2.1 bt512.2.2.1) else (quoinlaw07_StepPlaces.j0 k l0 bt512.2.2.2.1 bt512.2.2.2.2 (decide (a1_2 > 9999)) a1_0 a1_1 a1_2 a1_3 bt512.1 bt512.2.1 bt512.2.2.1)))))) = some r := by rw [if_pos rfl] at H; exact H
  clear H
  have H := H1
  clear H1
  replace H := Option.bind_eq_some_iff.mp H
  obtain ⟨⟨t512, t513, t514, t515, t516⟩, A50, H⟩ := H
  replace H : (if a1_0 < 0 then (quoinlaw07_StepPlaces.j0 k l0 t515 t516 true a1_0 a1_1 a1_2 a1_3 t512 t513 t514) else (if a1_0 > (l0.length : Int) then (quoinlaw07_StepPlaces.j0 k l0 t515 t516 true a1_0 a1_1 a1_2 a1_3 t512 t513 t514) else (if a1_1 < (-1) then (quoinlaw07_StepPlaces.j0 k l0 t515 t516 true a1_0 a1_1 a1_2 a1_3 t512 t513 t514) else (if a1_2 < 0 then (quoinlaw07_StepPlaces.j0 k l0 t515 t516 true a1_0 a1_1 a1_2 a1_3 t512 t513 t514) else (quoinlaw07_StepPlaces.j0 k l0 t515 t516 (decide (a1_2 > 9999)) a1_0 a1_1 a1_2 a1_3 t512 t513 t514))))) = some r := H
  have A5 := Aside0.mk A50
  clear A50
  have HC6 := Aside0.mk H
  clear H
  go_enter Try.func6, Try.ntmps6
  go_upto_region 4 with (first | ((with_reducible refine gate_dst (N := 3) rfl ?_); (try (refine gate_guard (by rfl) ?_; dsimp only)); refine box_event ?hg (N := 3) ?hd (cs := #[.int .i64 a1_0, .int .i64 a1_1, .int .i64 a1_2, .string a1_3]) (t := 27) ?hr ?_; (case hd => rfl); (case hg => rfl); (case hr => first | (go_simp; done) | (go_simp; rfl)); intro gb510 hg w7 hbox hb; have n0_ := Aside0.mk (below_step (by repeat (first | (with_reducible first | exact HB.out | apply below_alloc | apply pw_below_drewN | apply below_drew1) | exact HB.out)) hb); have n1_ := Aside0.mk (hbox); have n2_ := Aside0.mk ((by rw [hg]; exact (below_size (by repeat (first | (with_reducible first | exact HB.out | apply below_alloc | apply pw_below_drewN | apply below_drew1) | exact HB.out))) : w.heap.size ≤ gb510)); have n3_ := Aside0.mk ((by rw [hg]; exact (below_size (by repeat (first | (with_reducible first | exact HB.out | apply below_alloc | apply pw_below_drewN | apply below_drew1) | exact HB.out))) : w.heap.size ≤ gb510)); clear HB; have HB := n0_; have BK510 := n1_; have GW510 := n2_; have GE510 := n3_; clear n0_ n1_ n2_ n3_; clear hb hbox hg) | ((with_reducible refine gate_callee (f := 7) rfl ?_); refine goesL_ (some 17) rfl rfl Try.func7 (by kernel_rfl) rfl #[] rfl (by (try simp only [List.map_toArray, List.map_cons, List.map_nil]); first | done | rfl | (simp only [List.length_drop, List.length_take]; rfl)) ?_; (with_reducible refine (quoinlaw07_awake.calls k  true _ A3.out).mono ?_); rintro e w8 ⟨rfl, hb⟩; refine ⟨_, rfl, ?_⟩; have n0_ := Aside0.mk (blk_below (g := gb510) (o := .cells #[.int .i64 a1_0, .int .i64 a1_1, .int .i64 a1_2, .string a1_3] 27 (0, 0)) (by (with_reducible repeat (first | refine blk_drewN ?_ _ | refine blk_drew ?_ | refine blk_alloc ?_ _)); exact BK510.out) hb); have n1_ := Aside0.mk (below_step (by repeat (first | (with_reducible first | exact HB.out | apply below_alloc | apply pw_below_drewN | apply below_drew1 | refine below_set ?_ GE510.out) | exact HB.out)) hb); clear BK510; clear HB; have BK510 := n0_; have HB := n1_; clear n0_ n1_; (try clear hb); (try clear hb2); (try clear hk); (try clear hi); have hcz9_0 : w8.cell? ⟨gb510, 0, none⟩ = some (.int .i64 a1_0) := (blk_cell BK510.out 0).trans rfl; have hcz9_1 : w8.cell? ⟨gb510, 1, none⟩ = some (.int .i64 a1_1) := (blk_cell BK510.out 1).trans rfl; have hcz9_2 : w8.cell? ⟨gb510, 2, none⟩ = some (.int .i64 a1_2) := (blk_cell BK510.out 2).trans rfl; have hcz9_3 : w8.cell? ⟨gb510, 3, none⟩ = some (.string a1_3) := (blk_cell BK510.out 3).trans rfl; have hfz9_0 := blk_frozen BK510.out 0; have hfz9_1 := blk_frozen BK510.out 1; have hfz9_2 := blk_frozen BK510.out 2; have hfz9_3 := blk_frozen BK510.out 3) | ((with_reducible refine gate_callee (f := 10) rfl ?_); refine goesL_ (some 29) rfl rfl Try.func10 (by kernel_rfl) rfl #[.slice A0 l0.length c0, .int .i64 a1_0, .int .i64 a1_1, .int .i64 a1_2, .string a1_3] rfl (by (try simp only [List.map_toArray, List.map_cons, List.map_nil]); first | done | rfl | (simp only [List.length_drop, List.length_take]; rfl)) ?_; (with_reducible refine (step_Move.calls k _ _ l0 a1_0 a1_1 a1_2 a1_3 t512 t513 t514 t515 t516 _ ?side1 ?side2 A5.out).mono ?_); (case side1 => repeat (first | exact (Kd.C_below HR0.out HB.out) | (with_reducible refine Kd.C_alloc ?_ _) | (with_reducible refine Kd.C_drewN ?_ _) | (with_reducible refine Kd.C_drew ?_))); (case side2 => exact HC0.out); rintro e w10 ⟨rfl, hb⟩; refine ⟨_, rfl, ?_⟩; have n0_ := Aside0.mk (blk_below (g := gb510) (o := .cells #[.int .i64 a1_0, .int .i64 a1_1, .int .i64 a1_2, .string a1_3] 27 (0, 0)) (by (with_reducible repeat (first | refine blk_drewN ?_ _ | refine blk_drew ?_ | refine blk_alloc ?_ _)); exact BK510.out) hb); have n1_ := Aside0.mk (below_step (by repeat (first | (with_reducible first | exact HB.out | apply below_alloc | apply pw_below_drewN | apply below_drew1 | refine below_set ?_ GE510.out) | exact HB.out)) hb); clear BK510; clear HB; have BK510 := n0_; have HB := n1_; clear n0_ n1_; (try clear hb); (try clear hb2); (try clear hk); (try clear hi)) | ((with_reducible refine gate_dst (N := 5) rfl ?_); (try (refine gate_guard (by rfl) ?_; dsimp only)); refine box_event ?hg (N := 5) ?hd (cs := #[.int .i64 0, .int .i64 0, .int .i64 0]) (t := 29) ?hr ?_; (case hd => rfl); (case hg => rfl); (case hr => first | (go_simp; done) | (go_simp; rfl)); intro gb517 hg w11 hbox hb; have n0_ := Aside0.mk (blk_below (g := gb510) (o := .cells #[.int .i64 a1_0, .int .i64 a1_1, .int .i64 a1_2, .string a1_3] 27 (0, 0)) (by (with_reducible repeat (first | refine blk_drewN ?_ _ | refine blk_drew ?_ | refine blk_alloc ?_ _)); exact BK510.out) hb); have n1_ := Aside0.mk (below_step (by repeat (first | (with_reducible first | exact HB.out | apply below_alloc | apply pw_below_drewN | apply below_drew1 | refine below_set ?_ GE510.out) | exact HB.out)) hb); have n2_ := Aside0.mk (hbox); have n3_ := Aside0.mk ((by rw [hg]; exact (below_size (by repeat (first | (with_reducible first | exact HB.out | apply below_alloc | apply pw_below_drewN | apply below_drew1 | refine below_set ?_ GE510.out) | exact HB.out))) : w.heap.size ≤ gb517)); have n4_ := Aside0.mk ((by rw [hg]; exact (below_size (by repeat (first | (with_reducible first | exact HB.out | apply below_alloc | apply pw_below_drewN | apply below_drew1 | refine below_set ?_ GE510.out) | exact HB.out))) : w.heap.size ≤ gb517)); have n5_ := Aside0.mk ((by rw [hg]; exact Nat.ne_of_lt (blk_lt (g := gb510) (o := .cells #[.int .i64 a1_0, .int .i64 a1_1, .int .i64 a1_2, .string a1_3] 27 (0, 0)) (by (with_reducible repeat (first | refine blk_drewN ?_ _ | refine blk_drew ?_ | refine blk_alloc ?_ _)); exact BK510.out)) : gb510 ≠ gb517)); have n6_ := Aside0.mk ((by rw [hg]; exact Nat.ne_of_gt (blk_lt (g := gb510) (o := .cells #[.int .i64 a1_0, .int .i64 a1_1, .int .i64 a1_2, .string a1_3] 27 (0, 0)) (by (with_reducible repeat (first | refine blk_drewN ?_ _ | refine blk_drew ?_ | refine blk_alloc ?_ _)); exact BK510.out)) : gb517 ≠ gb510)); clear BK510; clear HB; have BK510 := n0_; have HB := n1_; have BK517 := n2_; have GW517 := n3_; have GE517 := n4_; have NB510_517 := n5_; have NB517_510 := n6_; clear n0_ n1_ n2_ n3_ n4_ n5_ n6_; clear hb hbox hg; have hnb12 := NB517_510.out; have hnc12 := NB510_517.out; have hcz13_0 : w11.cell? ⟨gb517, 0, none⟩ = some (.int .i64 0) := (blk_cell BK517.out 0).trans rfl; have hcz13_1 : w11.cell? ⟨gb517, 1, none⟩ = some (.int .i64 0) := (blk_cell BK517.out 1).trans rfl; have hcz13_2 : w11.cell? ⟨gb517, 2, none⟩ = some (.int .i64 0) := (blk_cell BK517.out 2).trans rfl; have hfz13_0 := blk_frozen BK517.out 0; have hfz13_1 := blk_frozen BK517.out 1; have hfz13_2 := blk_frozen BK517.out 2))
  (try simp only [Act.put, List.setIfInBounds_toArray, List.set_cons_zero, List.set_cons_succ])
  go_cut [57] (fun v57 wc => ∃ (kq : Nat) (x57_5 : Bool), v57 = .bool x57_5 ∧ Aside0 (quoinlaw07_StepPlaces.j0 kq l0 t515 t516 x57_5 a1_0 a1_1 a1_2 a1_3 t512 t513 t514 = some r) ∧ Aside0 (kq ≤ k) ∧ Aside0 (wc.heap[gb510]? = some (.cells #[.int .i64 a1_0, .int .i64 a1_1, .int .i64 a1_2, .string a1_3] 27 (0, 0))) ∧ Aside0 (wc.heap[gb517]? = some (.cells #[.int .i64 t512, .int .i64 t513, .int .i64 t514] 29 (0, 0))) ∧ Aside0 (Below w.heap.size w wc))
  case first => as_aux_lemma =>
   have H := HC6.out
   clear HC6
   by_cases c14 : a1_0 < 0
   ·rw [if_pos c14] at H
    have c14b0 : decide (a1_0 < 0) = true := decide_eq_true c14
    clear c14
    (first | rw [c14b0] | (simp only [i64_w, i32_w]; rw [c14b0]) | skip)
    have H' := Aside0.mk H
    clear H
    have hnb15 := NB510_517.out
    have hnc15 := NB517_510.out
    have hcz16_0 : w11.cell? ⟨gb510, 0, none⟩ = some (.int .i64 a1_0) := (blk_cell BK510.out 0).trans rfl
    have hcz16_1 : w11.cell? ⟨gb510, 1, none⟩ = some (.int .i64 a1_1) := (blk_cell BK510.out 1).trans rfl
    have hcz16_2 : w11.cell? ⟨gb510, 2, none⟩ = some (.int .i64 a1_2) := (blk_cell BK510.out 2).trans rfl
    have hcz16_3 : w11.cell? ⟨gb510, 3, none⟩ = some (.string a1_3) := (blk_cell BK510.out 3).trans rfl
    have hfz16_0 := blk_frozen BK510.out 0
    have hfz16_1 := blk_frozen BK510.out 1
    have hfz16_2 := blk_frozen BK510.out 2
    have hfz16_3 := blk_frozen BK510.out 3
    go_wp2
    go_meet
    case rel => exact ⟨_, (true), (by first | rfl | (simp; done) | (simp [*]; done)), H', ⟨by first | omega | exact Nat.le_refl _⟩, ⟨by (with_reducible repeat (first | refine blk_drewN ?_ _ | refine blk_drew ?_ | refine blk_alloc ?_ _)); refine blk_far ?_ NB510_517.out _; (with_reducible repeat (first | refine blk_drewN ?_ _ | refine blk_drew ?_ | refine blk_alloc ?_ _)); refine blk_far ?_ NB510_517.out _; (with_reducible repeat (first | refine blk_drewN ?_ _ | refine blk_drew ?_ | refine blk_alloc ?_ _)); refine blk_far ?_ NB510_517.out _; (with_reducible repeat (first | refine blk_drewN ?_ _ | refine blk_drew ?_ | refine blk_alloc ?_ _)); exact BK510.out⟩, ⟨by (with_reducible repeat (first | refine blk_drewN ?_ _ | refine blk_drew ?_ | refine blk_alloc ?_ _)); refine blk_put (cs := #[.int .i64 t512, .int .i64 t513, .int .i64 0]) ?_ 2 _ rfl; (with_reducible repeat (first | refine blk_drewN ?_ _ | refine blk_drew ?_ | refine blk_alloc ?_ _)); refine blk_put (cs := #[.int .i64 t512, .int .i64 0, .int .i64 0]) ?_ 1 _ rfl; (with_reducible repeat (first | refine blk_drewN ?_ _ | refine blk_drew ?_ | refine blk_alloc ?_ _)); refine blk_put (cs := #[.int .i64 0, .int .i64 0, .int .i64 0]) ?_ 0 _ rfl; (with_reducible repeat (first | refine blk_drewN ?_ _ | refine blk_drew ?_ | refine blk_alloc ?_ _)); exact BK517.out⟩, ⟨by repeat (first | (with_reducible first | exact HB.out | apply below_alloc | apply pw_below_drewN | apply below_drew1 | refine below_set ?_ GE510.out | refine below_set ?_ GE517.out) | exact HB.out)⟩⟩
   ·rw [if_neg c14] at H
    have c14b0 : decide (a1_0 < 0) = false := decide_eq_false c14
    clear c14
    (first | rw [c14b0] | (simp only [i64_w, i32_w]; rw [c14b0]) | skip)
    by_cases c17 : a1_0 > (l0.length : Int)
    ·rw [if_pos c17] at H
     have c17b0 : decide ((l0.length : Int) < a1_0) = true := decide_eq_true c17
     clear c17
     have H' := Aside0.mk H
     clear H
     have hnb18 := NB510_517.out
     have hnc18 := NB517_510.out
     have hcz19_0 : w11.cell? ⟨gb510, 0, none⟩ = some (.int .i64 a1_0) := (blk_cell BK510.out 0).trans rfl
     have hcz19_1 : w11.cell? ⟨gb510, 1, none⟩ = some (.int .i64 a1_1) := (blk_cell BK510.out 1).trans rfl
     have hcz19_2 : w11.cell? ⟨gb510, 2, none⟩ = some (.int .i64 a1_2) := (blk_cell BK510.out 2).trans rfl
     have hcz19_3 : w11.cell? ⟨gb510, 3, none⟩ = some (.string a1_3) := (blk_cell BK510.out 3).trans rfl
     have hfz19_0 := blk_frozen BK510.out 0
     have hfz19_1 := blk_frozen BK510.out 1
     have hfz19_2 := blk_frozen BK510.out 2
     have hfz19_3 := blk_frozen BK510.out 3
     go_wp2
     go_meet
     case rel => exact ⟨_, (true), (by first | rfl | (simp; done) | (simp [*]; done)), H', ⟨by first | omega | exact Nat.le_refl _⟩, ⟨by (with_reducible repeat (first | refine blk_drewN ?_ _ | refine blk_drew ?_ | refine blk_alloc ?_ _)); refine blk_far ?_ NB510_517.out _; (with_reducible repeat (first | refine blk_drewN ?_ _ | refine blk_drew ?_ | refine blk_alloc ?_ _)); refine blk_far ?_ NB510_517.out _; (with_reducible repeat (first | refine blk_drewN ?_ _ | refine blk_drew ?_ | refine blk_alloc ?_ _)); refine blk_far ?_ NB510_517.out _; (with_reducible repeat (first | refine blk_drewN ?_ _ | refine blk_drew ?_ | refine blk_alloc ?_ _)); exact BK510.out⟩, ⟨by (with_reducible repeat (first | refine blk_drewN ?_ _ | refine blk_drew ?_ | refine blk_alloc ?_ _)); refine blk_put (cs := #[.int .i64 t512, .int .i64 t513, .int .i64 0]) ?_ 2 _ rfl; (with_reducible repeat (first | refine blk_drewN ?_ _ | refine blk_drew ?_ | refine blk_alloc ?_ _)); refine blk_put (cs := #[.int .i64 t512, .int .i64 0, .int .i64 0]) ?_ 1 _ rfl; (with_reducible repeat (first | refine blk_drewN ?_ _ | refine blk_drew ?_ | refine blk_alloc ?_ _)); refine blk_put (cs := #[.int .i64 0, .int .i64 0, .int .i64 0]) ?_ 0 _ rfl; (with_reducible repeat (first | refine blk_drewN ?_ _ | refine blk_drew ?_ | refine blk_alloc ?_ _)); exact BK517.out⟩, ⟨by repeat (first | (with_reducible first | exact HB.out | apply below_alloc | apply pw_below_drewN | apply below_drew1 | refine below_set ?_ GE510.out | refine below_set ?_ GE517.out) | exact HB.out)⟩⟩
    ·rw [if_neg c17] at H
     have c17b0 : decide ((l0.length : Int) < a1_0) = false := decide_eq_false c17
     clear c17
     by_cases c20 : a1_1 < (-1)
     ·rw [if_pos c20] at H
      have c20b0 : decide (a1_1 < (-1)) = true := decide_eq_true c20
      clear c20
      have H' := Aside0.mk H
      clear H
      have hnb21 := NB510_517.out
      have hnc21 := NB517_510.out
      have hcz22_0 : w11.cell? ⟨gb510, 0, none⟩ = some (.int .i64 a1_0) := (blk_cell BK510.out 0).trans rfl
      have hcz22_1 : w11.cell? ⟨gb510, 1, none⟩ = some (.int .i64 a1_1) := (blk_cell BK510.out 1).trans rfl
      have hcz22_2 : w11.cell? ⟨gb510, 2, none⟩ = some (.int .i64 a1_2) := (blk_cell BK510.out 2).trans rfl
      have hcz22_3 : w11.cell? ⟨gb510, 3, none⟩ = some (.string a1_3) := (blk_cell BK510.out 3).trans rfl
      have hfz22_0 := blk_frozen BK510.out 0
      have hfz22_1 := blk_frozen BK510.out 1
      have hfz22_2 := blk_frozen BK510.out 2
      have hfz22_3 := blk_frozen BK510.out 3
      go_wp2
      go_meet
      case rel => exact ⟨_, (true), (by first | rfl | (simp; done) | (simp [*]; done)), H', ⟨by first | omega | exact Nat.le_refl _⟩, ⟨by (with_reducible repeat (first | refine blk_drewN ?_ _ | refine blk_drew ?_ | refine blk_alloc ?_ _)); refine blk_far ?_ NB510_517.out _; (with_reducible repeat (first | refine blk_drewN ?_ _ | refine blk_drew ?_ | refine blk_alloc ?_ _)); refine blk_far ?_ NB510_517.out _; (with_reducible repeat (first | refine blk_drewN ?_ _ | refine blk_drew ?_ | refine blk_alloc ?_ _)); refine blk_far ?_ NB510_517.out _; (with_reducible repeat (first | refine blk_drewN ?_ _ | refine blk_drew ?_ | refine blk_alloc ?_ _)); exact BK510.out⟩, ⟨by (with_reducible repeat (first | refine blk_drewN ?_ _ | refine blk_drew ?_ | refine blk_alloc ?_ _)); refine blk_put (cs := #[.int .i64 t512, .int .i64 t513, .int .i64 0]) ?_ 2 _ rfl; (with_reducible repeat (first | refine blk_drewN ?_ _ | refine blk_drew ?_ | refine blk_alloc ?_ _)); refine blk_put (cs := #[.int .i64 t512, .int .i64 0, .int .i64 0]) ?_ 1 _ rfl; (with_reducible repeat (first | refine blk_drewN ?_ _ | refine blk_drew ?_ | refine blk_alloc ?_ _)); refine blk_put (cs := #[.int .i64 0, .int .i64 0, .int .i64 0]) ?_ 0 _ rfl; (with_reducible repeat (first | refine blk_drewN ?_ _ | refine blk_drew ?_ | refine blk_alloc ?_ _)); exact BK517.out⟩, ⟨by repeat (first | (with_reducible first | exact HB.out | apply below_alloc | apply pw_below_drewN | apply below_drew1 | refine below_set ?_ GE510.out | refine below_set ?_ GE517.out) | exact HB.out)⟩⟩
     ·rw [if_neg c20] at H
      have c20b0 : decide (a1_1 < (-1)) = false := decide_eq_false c20
      clear c20
      by_cases c23 : a1_2 < 0
      ·rw [if_pos c23] at H
       have c23b0 : decide (a1_2 < 0) = true := decide_eq_true c23
       clear c23
       have H' := Aside0.mk H
       clear H
       have hnb24 := NB510_517.out
       have hnc24 := NB517_510.out
       have hcz25_0 : w11.cell? ⟨gb510, 0, none⟩ = some (.int .i64 a1_0) := (blk_cell BK510.out 0).trans rfl
       have hcz25_1 : w11.cell? ⟨gb510, 1, none⟩ = some (.int .i64 a1_1) := (blk_cell BK510.out 1).trans rfl
       have hcz25_2 : w11.cell? ⟨gb510, 2, none⟩ = some (.int .i64 a1_2) := (blk_cell BK510.out 2).trans rfl
       have hcz25_3 : w11.cell? ⟨gb510, 3, none⟩ = some (.string a1_3) := (blk_cell BK510.out 3).trans rfl
       have hfz25_0 := blk_frozen BK510.out 0
       have hfz25_1 := blk_frozen BK510.out 1
       have hfz25_2 := blk_frozen BK510.out 2
       have hfz25_3 := blk_frozen BK510.out 3
       go_wp2
       go_meet
       case rel => exact ⟨_, (true), (by first | rfl | (simp; done) | (simp [*]; done)), H', ⟨by first | omega | exact Nat.le_refl _⟩, ⟨by (with_reducible repeat (first | refine blk_drewN ?_ _ | refine blk_drew ?_ | refine blk_alloc ?_ _)); refine blk_far ?_ NB510_517.out _; (with_reducible repeat (first | refine blk_drewN ?_ _ | refine blk_drew ?_ | refine blk_alloc ?_ _)); refine blk_far ?_ NB510_517.out _; (with_reducible repeat (first | refine blk_drewN ?_ _ | refine blk_drew ?_ | refine blk_alloc ?_ _)); refine blk_far ?_ NB510_517.out _; (with_reducible repeat (first | refine blk_drewN ?_ _ | refine blk_drew ?_ | refine blk_alloc ?_ _)); exact BK510.out⟩, ⟨by (with_reducible repeat (first | refine blk_drewN ?_ _ | refine blk_drew ?_ | refine blk_alloc ?_ _)); refine blk_put (cs := #[.int .i64 t512, .int .i64 t513, .int .i64 0]) ?_ 2 _ rfl; (with_reducible repeat (first | refine blk_drewN ?_ _ | refine blk_drew ?_ | refine blk_alloc ?_ _)); refine blk_put (cs := #[.int .i64 t512, .int .i64 0, .int .i64 0]) ?_ 1 _ rfl; (with_reducible repeat (first | refine blk_drewN ?_ _ | refine blk_drew ?_ | refine blk_alloc ?_ _)); refine blk_put (cs := #[.int .i64 0, .int .i64 0, .int .i64 0]) ?_ 0 _ rfl; (with_reducible repeat (first | refine blk_drewN ?_ _ | refine blk_drew ?_ | refine blk_alloc ?_ _)); exact BK517.out⟩, ⟨by repeat (first | (with_reducible first | exact HB.out | apply below_alloc | apply pw_below_drewN | apply below_drew1 | refine below_set ?_ GE510.out | refine below_set ?_ GE517.out) | exact HB.out)⟩⟩
      ·rw [if_neg c23] at H
       have c23b0 : decide (a1_2 < 0) = false := decide_eq_false c23
       clear c23
       have H' := Aside0.mk H
       clear H
       have hnb26 := NB510_517.out
       have hnc26 := NB517_510.out
       have hcz27_0 : w11.cell? ⟨gb510, 0, none⟩ = some (.int .i64 a1_0) := (blk_cell BK510.out 0).trans rfl
       have hcz27_1 : w11.cell? ⟨gb510, 1, none⟩ = some (.int .i64 a1_1) := (blk_cell BK510.out 1).trans rfl
       have hcz27_2 : w11.cell? ⟨gb510, 2, none⟩ = some (.int .i64 a1_2) := (blk_cell BK510.out 2).trans rfl
       have hcz27_3 : w11.cell? ⟨gb510, 3, none⟩ = some (.string a1_3) := (blk_cell BK510.out 3).trans rfl
       have hfz27_0 := blk_frozen BK510.out 0
       have hfz27_1 := blk_frozen BK510.out 1
       have hfz27_2 := blk_frozen BK510.out 2
       have hfz27_3 := blk_frozen BK510.out 3
       go_wp2
       go_meet
       case rel => exact ⟨_, (decide (a1_2 > 9999)), (by first | rfl | (simp; done) | (simp [*]; done)), H', ⟨by first | omega | exact Nat.le_refl _⟩, ⟨by (with_reducible repeat (first | refine blk_drewN ?_ _ | refine blk_drew ?_ | refine blk_alloc ?_ _)); refine blk_far ?_ NB510_517.out _; (with_reducible repeat (first | refine blk_drewN ?_ _ | refine blk_drew ?_ | refine blk_alloc ?_ _)); refine blk_far ?_ NB510_517.out _; (with_reducible repeat (first | refine blk_drewN ?_ _ | refine blk_drew ?_ | refine blk_alloc ?_ _)); refine blk_far ?_ NB510_517.out _; (with_reducible repeat (first | refine blk_drewN ?_ _ | refine blk_drew ?_ | refine blk_alloc ?_ _)); exact BK510.out⟩, ⟨by (with_reducible repeat (first | refine blk_drewN ?_ _ | refine blk_drew ?_ | refine blk_alloc ?_ _)); refine blk_put (cs := #[.int .i64 t512, .int .i64 t513, .int .i64 0]) ?_ 2 _ rfl; (with_reducible repeat (first | refine blk_drewN ?_ _ | refine blk_drew ?_ | refine blk_alloc ?_ _)); refine blk_put (cs := #[.int .i64 t512, .int .i64 0, .int .i64 0]) ?_ 1 _ rfl; (with_reducible repeat (first | refine blk_drewN ?_ _ | refine blk_drew ?_ | refine blk_alloc ?_ _)); refine blk_put (cs := #[.int .i64 0, .int .i64 0, .int .i64 0]) ?_ 0 _ rfl; (with_reducible repeat (first | refine blk_drewN ?_ _ | refine blk_drew ?_ | refine blk_alloc ?_ _)); exact BK517.out⟩, ⟨by repeat (first | (with_reducible first | exact HB.out | apply below_alloc | apply pw_below_drewN | apply below_drew1 | refine below_set ?_ GE510.out | refine below_set ?_ GE517.out) | exact HB.out)⟩⟩
  case rest => as_aux_lemma =>
   clear HC6
   try clear c1
   try clear c2
   try clear p2
   try clear c4
   try clear c6
   try clear c7
   try clear c10
   try clear c12
   try clear c14
   try clear c14b0
   try clear c15
   try clear c17
   try clear c17b0
   try clear c18
   try clear c20
   try clear c20b0
   try clear c21
   try clear c23
   try clear c23b0
   try clear c24
   try clear c26
   try clear hcz13_0
   try clear hcz13_1
   try clear hcz13_2
   try clear hcz16_0
   try clear hcz16_1
   try clear hcz16_2
   try clear hcz16_3
   try clear hcz19_0
   try clear hcz19_1
   try clear hcz19_2
   try clear hcz19_3
   try clear hcz22_0
   try clear hcz22_1
   try clear hcz22_2
   try clear hcz22_3
   try clear hcz25_0
   try clear hcz25_1
   try clear hcz25_2
   try clear hcz25_3
   try clear hcz27_0
   try clear hcz27_1
   try clear hcz27_2
   try clear hcz27_3
   try clear hcz9_0
   try clear hcz9_1
   try clear hcz9_2
   try clear hcz9_3
   try clear hfz13_0
   try clear hfz13_1
   try clear hfz13_2
   try clear hfz16_0
   try clear hfz16_1
   try clear hfz16_2
   try clear hfz16_3
   try clear hfz19_0
   try clear hfz19_1
   try clear hfz19_2
   try clear hfz19_3
   try clear hfz22_0
   try clear hfz22_1
   try clear hfz22_2
   try clear hfz22_3
   try clear hfz25_0
   try clear hfz25_1
   try clear hfz25_2
   try clear hfz25_3
   try clear hfz27_0
   try clear hfz27_1
   try clear hfz27_2
   try clear hfz27_3
   try clear hfz9_0
   try clear hfz9_1
   try clear hfz9_2
   try clear hfz9_3
   obtain ⟨kq, x57_5, rfl, HA, HJ5, BK510, BK517, HB⟩ := hcut
   cases kq with
   | zero => exact absurd HA.out (by simp [quoinlaw07_StepPlaces.j0])
   | succ kj5 =>
    have H := HA.out
    clear HA
    simp only [quoinlaw07_StepPlaces.j0] at H
    by_cases c28 : x57_5 = true
    ·subst c28
     have H1 : (if t516 = 2 then (if (t512 == 0 && (t513 == 0 && (t514 == 0))) = true then (some (t515 == 0)) else (some false)) else (some false)) = some r := by rw [if_pos rfl] at H; exact H
     clear H
     have H := H1
     clear H1
     by_cases c29 : t516 = 2
     ·rw [if_pos c29] at H
      have c29b0 : (t516 == 2) = true := beq_iff_eq.mpr c29
      have c29b1 : (t516 != 2) = false := bne_eq_false_iff_eq.mpr c29
      clear c29
      by_cases c30 : (t512 == 0 && (t513 == 0 && (t514 == 0))) = true
      ·rw [if_pos c30] at H
       have c30b0 : (t512 == 0 && (t513 == 0 && (t514 == 0))) = true := c30
       (try (have c30b1 : decide (t512 = 0 && (t513 == 0 && (t514 == 0))) = true := by simpa using c30))
       (try (have c30b2 : (t512 == 0 && (t513 == 0 && (t514 == 0))) = true := by simpa using c30))
       clear c30
       obtain rfl := Option.some.inj H
       have hnb31 := NB517_510.out
       have hnc31 := NB510_517.out
       have hcz32_0 : wc.cell? ⟨gb517, 0, none⟩ = some (.int .i64 t512) := (blk_cell BK517.out 0).trans rfl
       have hcz32_1 : wc.cell? ⟨gb517, 1, none⟩ = some (.int .i64 t513) := (blk_cell BK517.out 1).trans rfl
       have hcz32_2 : wc.cell? ⟨gb517, 2, none⟩ = some (.int .i64 t514) := (blk_cell BK517.out 2).trans rfl
       have hfz32_0 := blk_frozen BK517.out 0
       have hfz32_1 := blk_frozen BK517.out 1
       have hfz32_2 := blk_frozen BK517.out 2
       go_wp2
       go_ret
       exact ⟨by first | rfl | (simp [errW_none, errW_some] <;> rfl) | (simp [*, errW_none, errW_some] <;> rfl), by repeat (first | (with_reducible first | exact HB.out | apply below_alloc | apply pw_below_drewN | apply below_drew1 | refine below_set ?_ GE510.out | refine below_set ?_ GE517.out) | exact HB.out)⟩
      ·rw [if_neg c30] at H
       have c30b0 : (t512 == 0 && (t513 == 0 && (t514 == 0))) = false := by simpa using c30
       (try (have c30b1 : decide (t512 = 0 && (t513 == 0 && (t514 == 0))) = false := by simpa using c30))
       (try (have c30b2 : (t512 == 0 && (t513 == 0 && (t514 == 0))) = false := by simpa using c30))
       (try (have c30b3 : ¬ (t512 = 0 && (t513 == 0 && (t514 == 0))) := by simpa using c30))
       clear c30
       obtain rfl := Option.some.inj H
       have hnb33 := NB517_510.out
       have hnc33 := NB510_517.out
       have hcz34_0 : wc.cell? ⟨gb517, 0, none⟩ = some (.int .i64 t512) := (blk_cell BK517.out 0).trans rfl
       have hcz34_1 : wc.cell? ⟨gb517, 1, none⟩ = some (.int .i64 t513) := (blk_cell BK517.out 1).trans rfl
       have hcz34_2 : wc.cell? ⟨gb517, 2, none⟩ = some (.int .i64 t514) := (blk_cell BK517.out 2).trans rfl
       have hfz34_0 := blk_frozen BK517.out 0
       have hfz34_1 := blk_frozen BK517.out 1
       have hfz34_2 := blk_frozen BK517.out 2
       go_wp2
       go_ret
       exact ⟨by first | rfl | (simp [errW_none, errW_some] <;> rfl) | (simp [*, errW_none, errW_some] <;> rfl), by repeat (first | (with_reducible first | exact HB.out | apply below_alloc | apply pw_below_drewN | apply below_drew1 | refine below_set ?_ GE510.out | refine below_set ?_ GE517.out) | exact HB.out)⟩
     ·rw [if_neg c29] at H
      have c29b0 : (t516 == 2) = false := beq_eq_false_iff_ne.mpr c29
      have c29b1 : (t516 != 2) = true := bne_iff_ne.mpr c29
      obtain rfl := Option.some.inj H
      go_wp2
      go_ret
      exact ⟨by first | rfl | (simp [errW_none, errW_some] <;> rfl) | (simp [*, errW_none, errW_some] <;> rfl), by repeat (first | (with_reducible first | exact HB.out | apply below_alloc | apply pw_below_drewN | apply below_drew1 | refine below_set ?_ GE510.out | refine below_set ?_ GE517.out) | exact HB.out)⟩
    ·replace c28 := Bool.eq_false_iff.mpr c28
     subst c28
     have H1 : ((lines_Of.f l0 a1_0).bind fun bt518 => ((lines_Count.f l0).bind fun t520 => (if a1_3.toList = ([106] : List UInt8) then (quoinlaw07_StepPlaces.j1 kj5 l0 t515 t516 bt518.1 bt518.2 (wrap64 (t520 - 1)) (mx a1_2 1) a1_3 (a1_3.toList == ([106] : List UInt8)) a1_0 a1_1 a1_2 a1_3 t512 t513 t514) else (if a1_3.toList = ([43] : List UInt8) then (quoinlaw07_StepPlaces.j1 kj5 l0 t515 t516 bt518.1 bt518.2 (wrap64 (t520 - 1)) (mx a1_2 1) a1_3 (a1_3.toList == ([43] : List UInt8)) a1_0 a1_1 a1_2 a1_3 t512 t513 t514) else (quoinlaw07_StepPlaces.j1 kj5 l0 t515 t516 bt518.1 bt518.2 (wrap64 (t520 - 1)) (mx a1_2 1) a1_3 (a1_3.toList == ([13] : List UInt8)) a1_0 a1_1 a1_2 a1_3 t512 t513 t514))))) = some r := by rw [if_neg (show ¬ (false = true) by decide)] at H; exact H
     clear H
     have H := H1
     clear H1
     replace H := Option.bind_eq_some_iff.mp H
     obtain ⟨⟨t518, t519⟩, A350, H⟩ := H
     replace H : ((lines_Count.f l0).bind fun t520 => (if a1_3.toList = ([106] : List UInt8) then (quoinlaw07_StepPlaces.j1 kj5 l0 t515 t516 t518 t519 (wrap64 (t520 - 1)) (mx a1_2 1) a1_3 (a1_3.toList == ([106] : List UInt8)) a1_0 a1_1 a1_2 a1_3 t512 t513 t514) else (if a1_3.toList = ([43] : List UInt8) then (quoinlaw07_StepPlaces.j1 kj5 l0 t515 t516 t518 t519 (wrap64 (t520 - 1)) (mx a1_2 1) a1_3 (a1_3.toList == ([43] : List UInt8)) a1_0 a1_1 a1_2 a1_3 t512 t513 t514) else (quoinlaw07_StepPlaces.j1 kj5 l0 t515 t516 t518 t519 (wrap64 (t520 - 1)) (mx a1_2 1) a1_3 (a1_3.toList == ([13] : List UInt8)) a1_0 a1_1 a1_2 a1_3 t512 t513 t514)))) = some r := H
     have A35 := Aside0.mk A350
     clear A350
     replace H := Option.bind_eq_some_iff.mp H
     obtain ⟨t520, A360, H⟩ := H
     replace H : (if a1_3.toList = ([106] : List UInt8) then (quoinlaw07_StepPlaces.j1 kj5 l0 t515 t516 t518 t519 (wrap64 (t520 - 1)) (mx a1_2 1) a1_3 (a1_3.toList == ([106] : List UInt8)) a1_0 a1_1 a1_2 a1_3 t512 t513 t514) else (if a1_3.toList = ([43] : List UInt8) then (quoinlaw07_StepPlaces.j1 kj5 l0 t515 t516 t518 t519 (wrap64 (t520 - 1)) (mx a1_2 1) a1_3 (a1_3.toList == ([43] : List UInt8)) a1_0 a1_1 a1_2 a1_3 t512 t513 t514) else (quoinlaw07_StepPlaces.j1 kj5 l0 t515 t516 t518 t519 (wrap64 (t520 - 1)) (mx a1_2 1) a1_3 (a1_3.toList == ([13] : List UInt8)) a1_0 a1_1 a1_2 a1_3 t512 t513 t514))) = some r := H
     have A36 := Aside0.mk A360
     clear A360
     obtain ⟨ji37, hji37⟩ : ∃ j_ : Int, (mx a1_2 1) = j_ := ⟨_, rfl⟩
     replace H : (if a1_3.toList = ([106] : List UInt8) then (quoinlaw07_StepPlaces.j1 kj5 l0 t515 t516 t518 t519 (wrap64 (t520 - 1)) ji37 a1_3 (a1_3.toList == ([106] : List UInt8)) a1_0 a1_1 a1_2 a1_3 t512 t513 t514) else (if a1_3.toList = ([43] : List UInt8) then (quoinlaw07_StepPlaces.j1 kj5 l0 t515 t516 t518 t519 (wrap64 (t520 - 1)) ji37 a1_3 (a1_3.toList == ([43] : List UInt8)) a1_0 a1_1 a1_2 a1_3 t512 t513 t514) else (quoinlaw07_StepPlaces.j1 kj5 l0 t515 t516 t518 t519 (wrap64 (t520 - 1)) ji37 a1_3 (a1_3.toList == ([13] : List UInt8)) a1_0 a1_1 a1_2 a1_3 t512 t513 t514))) = some r := by first | (rw [hji37] at H; exact H) | (simp only [hji37] at H ⊢; exact H)
     (try rw [hji37] at A35)
     (try rw [hji37] at A36)
     have hji37_ : (if a1_2 < 1 then 1 else a1_2) = ji37 := hji37
     have HC38 := Aside0.mk H
     clear H
     have hnb39 := NB510_517.out
     have hnc39 := NB517_510.out
     have hcz40_0 : wc.cell? ⟨gb510, 0, none⟩ = some (.int .i64 a1_0) := (blk_cell BK510.out 0).trans rfl
     have hcz40_1 : wc.cell? ⟨gb510, 1, none⟩ = some (.int .i64 a1_1) := (blk_cell BK510.out 1).trans rfl
     have hcz40_2 : wc.cell? ⟨gb510, 2, none⟩ = some (.int .i64 a1_2) := (blk_cell BK510.out 2).trans rfl
     have hcz40_3 : wc.cell? ⟨gb510, 3, none⟩ = some (.string a1_3) := (blk_cell BK510.out 3).trans rfl
     have hfz40_0 := blk_frozen BK510.out 0
     have hfz40_1 := blk_frozen BK510.out 1
     have hfz40_2 := blk_frozen BK510.out 2
     have hfz40_3 := blk_frozen BK510.out 3
     try go_wp2_with (first | ((with_reducible refine gate_callee (f := 13) rfl ?_); refine goesL_ (some 73) rfl rfl Try.func13 (by kernel_rfl) rfl #[.slice A0 l0.length c0, .int .i64 a1_0] rfl (by (try simp only [List.map_toArray, List.map_cons, List.map_nil]); first | done | rfl | (simp only [List.length_drop, List.length_take]; rfl)) ?_; (with_reducible refine (lines_Of.calls _ _ l0 a1_0 t518 t519 _ ?side1 ?side2 A35.out).mono ?_); (case side1 => repeat (first | exact (Kd.C_below HR0.out HB.out) | (with_reducible refine Kd.C_alloc ?_ _) | (with_reducible refine Kd.C_drewN ?_ _) | (with_reducible refine Kd.C_drew ?_))); (case side2 => exact HC0.out); rintro e w41 ⟨rfl, hb⟩; refine ⟨_, rfl, ?_⟩; have n0_ := Aside0.mk (blk_below (g := gb510) (o := .cells #[.int .i64 a1_0, .int .i64 a1_1, .int .i64 a1_2, .string a1_3] 27 (0, 0)) (by (with_reducible repeat (first | refine blk_drewN ?_ _ | refine blk_drew ?_ | refine blk_alloc ?_ _)); exact BK510.out) hb); have n1_ := Aside0.mk (blk_below (g := gb517) (o := .cells #[.int .i64 t512, .int .i64 t513, .int .i64 t514] 29 (0, 0)) (by (with_reducible repeat (first | refine blk_drewN ?_ _ | refine blk_drew ?_ | refine blk_alloc ?_ _)); exact BK517.out) hb); have n2_ := Aside0.mk (below_step (by repeat (first | (with_reducible first | exact HB.out | apply below_alloc | apply pw_below_drewN | apply below_drew1 | refine below_set ?_ GE510.out | refine below_set ?_ GE517.out) | exact HB.out)) hb); clear BK510; clear BK517; clear HB; have BK510 := n0_; have BK517 := n1_; have HB := n2_; clear n0_ n1_ n2_; (try clear hb); (try clear hb2); (try clear hk); (try clear hi)))
     have n0_ := Aside0.mk (blk_drew BK510.out)
     have n1_ := Aside0.mk (blk_drew BK517.out)
     have n2_ := Aside0.mk (below_drew1 HB.out)
     clear BK510
     clear BK517
     clear HB
     have BK510 := n0_
     have BK517 := n1_
     have HB := n2_
     clear n0_ n1_ n2_
     refine start_ (n := 8) (S := fun w' => w'.cell? ⟨gb510, 0, none⟩ = some (.int .i64 a1_0) ∧ w'.cell? ⟨gb510, 1, none⟩ = some (.int .i64 a1_1) ∧ w'.cell? ⟨gb510, 2, none⟩ = some (.int .i64 a1_2) ∧ w'.cell? ⟨gb510, 3, none⟩ = some (.string a1_3)) (ds := []) #[false, false, false, false, false, false, false, false] (by kernel_rfl) rfl rfl ⟨(blk_cell BK510.out 0).trans rfl, (blk_cell BK510.out 1).trans rfl, (blk_cell BK510.out 2).trans rfl, (blk_cell BK510.out 3).trans rfl⟩ (fun hHeld => ?_); refine with_tabW quoinlaw07_StepPlaces.tab7 quoinlaw07_StepPlaces.bits7 (fun HT_ HW_ => ?_)
     generalize w41.drew = w42 at BK510 BK517 HB hHeld ⊢
     refine pure_ (i := 0) (N := some 76) (v := ?_) (a' := ?_) #[true, false, false, false, false, false, false, false] rfl rfl (any_of HT_.out (by kernel_rfl)) (fun _ _ _ h => h) (Or.inl ⟨by rfl, ?_⟩) ?_ ?_
     rotate_left
     ·intro w'
      go_simp
      with_reducible rfl
     rotate_left
     ·simp only [Act.put, List.setIfInBounds_toArray, List.set_cons_zero, List.set_cons_succ, i64_w, i32_w]
      rfl
     refine pure_ (i := 3) (N := some 79) (v := ?_) (a' := ?_) #[true, false, false, true, false, false, false, false] rfl rfl (any_of HT_.out (by kernel_rfl)) (fun _ _ _ h => h) (Or.inl ⟨by rfl, ?_⟩) ?_ ?_
     rotate_left
     ·intro w'
      go_simp
      with_reducible rfl
     rotate_left
     ·simp only [Act.put, List.setIfInBounds_toArray, List.set_cons_zero, List.set_cons_succ, i64_w, i32_w]
      rfl
     refine take_ (i := 4) (N := some 80) (v := ?_) (a' := ?_) #[true, false, false, true, true, false, false, false] rfl rfl (take_ofW HT_.out HW_.out (by kernel_rfl)) (fun _ _ _ h => h) (Or.inl ⟨by rfl, ?_⟩) hHeld ?_ ?_
     rotate_left
     ·rintro w' ⟨s0, s1, s2, s3⟩
      go_simp
      with_reducible rfl
     rotate_left
     ·simp only [Act.put, List.setIfInBounds_toArray, List.set_cons_zero, List.set_cons_succ, i64_w, i32_w]
      rfl
     refine pure_ (i := 5) (N := some 81) (v := ?_) (a' := ?_) #[true, false, false, true, true, true, false, false] rfl rfl (any_of HT_.out (by kernel_rfl)) (fun _ _ _ h => h) (Or.inl ⟨by rfl, ?_⟩) ?_ ?_
     rotate_left
     ·intro w'
      go_simp
      with_reducible rfl
     rotate_left
     ·simp only [Act.put, List.setIfInBounds_toArray, List.set_cons_zero, List.set_cons_succ, i64_w, i32_w]
      rfl
     refine one_ (i := 1) (N := some 77) #[true, true, false, true, true, true, false, false] rfl rfl (one_of HT_.out (by kernel_rfl)) (by decide) (fun K hK => ?_)
     refine goes_ Try.func14 (by kernel_rfl) rfl #[.slice A0 l0.length c0] (by rfl) rfl rfl (by (try simp only [List.map_toArray, List.map_cons, List.map_nil]); first | done | rfl | (simp only [List.length_drop, List.length_take]; rfl)) ?_
     with_reducible refine (lines_Count.calls _ _ l0 t520 _ ?side1 ?side2 A36.out).mono ?_
     (case side1 => repeat (first | exact (Kd.C_below HR0.out HB.out) | (with_reducible refine Kd.C_alloc ?_ _) | (with_reducible refine Kd.C_drewN ?_ _) | (with_reducible refine Kd.C_drew ?_)))
     (case side2 => exact HC0.out)
     rintro e w43 ⟨rfl, hb⟩
     refine ⟨_, rfl, ?_⟩
     have n0_ := Aside0.mk (blk_below (g := gb510) (o := .cells #[.int .i64 a1_0, .int .i64 a1_1, .int .i64 a1_2, .string a1_3] 27 (0, 0)) (by (with_reducible repeat (first | refine blk_drewN ?_ _ | refine blk_drew ?_ | refine blk_alloc ?_ _)); exact BK510.out) hb)
     have n1_ := Aside0.mk (blk_below (g := gb517) (o := .cells #[.int .i64 t512, .int .i64 t513, .int .i64 t514] 29 (0, 0)) (by (with_reducible repeat (first | refine blk_drewN ?_ _ | refine blk_drew ?_ | refine blk_alloc ?_ _)); exact BK517.out) hb)
     have n2_ := Aside0.mk (below_step (by repeat (first | (with_reducible first | exact HB.out | apply below_alloc | apply pw_below_drewN | apply below_drew1 | refine below_set ?_ GE510.out | refine below_set ?_ GE517.out) | exact HB.out)) hb)
     clear BK510
     clear BK517
     clear HB
     have BK510 := n0_
     have BK517 := n1_
     have HB := n2_
     clear n0_ n1_ n2_
     (try clear hb)
     (try clear hb2)
     (try clear hk)
     (try clear hi)
     refine hK.out _ _ ⟨(blk_cell BK510.out 0).trans rfl, (blk_cell BK510.out 1).trans rfl, (blk_cell BK510.out 2).trans rfl, (blk_cell BK510.out 3).trans rfl⟩ (fun hHeld => ?_)
     clear hK K
     refine norm_ (a' := ?_) ?_ ?_
     rotate_left
     ·show Act.put _ (some 77) _ = _
      simp only [Act.put, List.setIfInBounds_toArray, List.set_cons_zero, List.set_cons_succ, i64_w, i32_w]
      rfl
     refine pure_ (i := 2) (N := some 78) (v := ?_) (a' := ?_) #[true, true, true, true, true, true, false, false] rfl rfl (any_of HT_.out (by kernel_rfl)) (fun _ _ _ h => h) (Or.inl ⟨by rfl, ?_⟩) ?_ ?_
     rotate_left
     ·intro w'
      go_simp
      with_reducible rfl
     rotate_left
     ·simp only [Act.put, List.setIfInBounds_toArray, List.set_cons_zero, List.set_cons_succ, i64_w, i32_w]
      rfl
     refine pure_ (i := 6) (N := some 10) (v := ?_) (a' := ?_) #[true, true, true, true, true, true, true, false] rfl rfl (any_of HT_.out (by kernel_rfl)) (fun _ _ _ h => h) (Or.inl ⟨by rfl, ?_⟩) ?_ ?_
     rotate_left
     ·intro w'
      go_simp
      with_reducible rfl
     rotate_left
     ·simp only [Act.put, List.setIfInBounds_toArray, List.set_cons_zero, List.set_cons_succ, i64_w, i32_w]
      rfl
     refine pure_ (i := 7) (N := some 11) (v := ?_) (a' := ?_) #[true, true, true, true, true, true, true, true] rfl rfl (any_of HT_.out (by kernel_rfl)) (fun _ _ _ h => h) (Or.inl ⟨by rfl, ?_⟩) ?_ ?_
     rotate_left
     ·intro w'
      go_simp
      with_reducible rfl
     rotate_left
     ·simp only [Act.put, List.setIfInBounds_toArray, List.set_cons_zero, List.set_cons_succ, i64_w, i32_w]
      rfl
     refine done_ (done_of HT_.out (by kernel_rfl)) ?_
     have hcz44_0 : w43.cell? ⟨gb510, 0, none⟩ = some (.int .i64 a1_0) := (blk_cell BK510.out 0).trans rfl
     have hcz44_1 : w43.cell? ⟨gb510, 1, none⟩ = some (.int .i64 a1_1) := (blk_cell BK510.out 1).trans rfl
     have hcz44_2 : w43.cell? ⟨gb510, 2, none⟩ = some (.int .i64 a1_2) := (blk_cell BK510.out 2).trans rfl
     have hcz44_3 : w43.cell? ⟨gb510, 3, none⟩ = some (.string a1_3) := (blk_cell BK510.out 3).trans rfl
     have hfz44_0 := blk_frozen BK510.out 0
     have hfz44_1 := blk_frozen BK510.out 1
     have hfz44_2 := blk_frozen BK510.out 2
     have hfz44_3 := blk_frozen BK510.out 3
     go_upto_block 0 with (fail)
     go_cut [12] (fun v12 wc => ∃ (kq : Nat) (x12_37 : Int), v12 = .int .i64 x12_37 ∧ Aside0 (quoinlaw07_StepPlaces.j6 kq l0 t515 t516 (wrap64 (t520 - 1)) x12_37 a1_0 a1_1 a1_2 a1_3 t512 t513 t514 = some r) ∧ Aside0 (kq ≤ kj5) ∧ Aside0 (wc.heap[gb510]? = some (.cells #[.int .i64 a1_0, .int .i64 a1_1, .int .i64 a1_2, .string a1_3] 27 (0, 0))) ∧ Aside0 (wc.heap[gb517]? = some (.cells #[.int .i64 t512, .int .i64 t513, .int .i64 t514] 29 (0, 0))) ∧ Aside0 (Below w.heap.size w wc))
     case first => as_aux_lemma =>
      have H := HC38.out
      clear HC38
      have HC45 := Aside0.mk H
      clear H
      go_upto_if 95 with (fail)
      go_cut [95] (fun v95 wc => ∃ (kq : Nat) (x95_44 : Bool), v95 = .bool x95_44 ∧ Aside0 (quoinlaw07_StepPlaces.j1 kq l0 t515 t516 t518 t519 (wrap64 (t520 - 1)) ji37 a1_3 x95_44 a1_0 a1_1 a1_2 a1_3 t512 t513 t514 = some r) ∧ Aside0 (kq ≤ kj5) ∧ Aside0 (wc.heap[gb510]? = some (.cells #[.int .i64 a1_0, .int .i64 a1_1, .int .i64 a1_2, .string a1_3] 27 (0, 0))) ∧ Aside0 (wc.heap[gb517]? = some (.cells #[.int .i64 t512, .int .i64 t513, .int .i64 t514] 29 (0, 0))) ∧ Aside0 (Below w.heap.size w wc))
      case first => as_aux_lemma =>
       have H := HC45.out
       clear HC45
       by_cases c46 : a1_3.toList = ([106] : List UInt8)
       ·rw [if_pos c46] at H
        have c46b0 : (a1_3.toList == ([106] : List UInt8)) = true := beq_iff_eq.mpr c46
        have c46b1 : (a1_3.toList != ([106] : List UInt8)) = false := bne_eq_false_iff_eq.mpr c46
        clear c46
        (first | rw [c46b0] | (simp only [i64_w, i32_w]; rw [c46b0]) | skip)
        have H' := Aside0.mk H
        clear H
        go_wp2
        go_meet
        case rel => exact ⟨_, ((a1_3.toList == ([106] : List UInt8))), (by first | rfl | (simp; done) | (simp [*]; done)), H', ⟨by have := HJ5.out; first | omega | exact Nat.le_refl _⟩, ⟨by (with_reducible repeat (first | refine blk_drewN ?_ _ | refine blk_drew ?_ | refine blk_alloc ?_ _)); exact BK510.out⟩, ⟨by (with_reducible repeat (first | refine blk_drewN ?_ _ | refine blk_drew ?_ | refine blk_alloc ?_ _)); exact BK517.out⟩, ⟨by repeat (first | (with_reducible first | exact HB.out | apply below_alloc | apply pw_below_drewN | apply below_drew1 | refine below_set ?_ GE510.out | refine below_set ?_ GE517.out) | exact HB.out)⟩⟩
       ·rw [if_neg c46] at H
        have c46b0 : (a1_3.toList == ([106] : List UInt8)) = false := beq_eq_false_iff_ne.mpr c46
        have c46b1 : (a1_3.toList != ([106] : List UInt8)) = true := bne_iff_ne.mpr c46
        (first | rw [c46b0] | (simp only [i64_w, i32_w]; rw [c46b0]) | skip)
        by_cases c47 : a1_3.toList = ([43] : List UInt8)
        ·rw [if_pos c47] at H
         have c47b0 : (a1_3.toList == ([43] : List UInt8)) = true := beq_iff_eq.mpr c47
         have c47b1 : (a1_3.toList != ([43] : List UInt8)) = false := bne_eq_false_iff_eq.mpr c47
         clear c47
         have H' := Aside0.mk H
         clear H
         go_wp2
         go_meet
         case rel => exact ⟨_, ((a1_3.toList == ([43] : List UInt8))), (by first | rfl | (simp; done) | (simp [*]; done)), H', ⟨by have := HJ5.out; first | omega | exact Nat.le_refl _⟩, ⟨by (with_reducible repeat (first | refine blk_drewN ?_ _ | refine blk_drew ?_ | refine blk_alloc ?_ _)); exact BK510.out⟩, ⟨by (with_reducible repeat (first | refine blk_drewN ?_ _ | refine blk_drew ?_ | refine blk_alloc ?_ _)); exact BK517.out⟩, ⟨by repeat (first | (with_reducible first | exact HB.out | apply below_alloc | apply pw_below_drewN | apply below_drew1 | refine below_set ?_ GE510.out | refine below_set ?_ GE517.out) | exact HB.out)⟩⟩
        ·rw [if_neg c47] at H
         have c47b0 : (a1_3.toList == ([43] : List UInt8)) = false := beq_eq_false_iff_ne.mpr c47
         have c47b1 : (a1_3.toList != ([43] : List UInt8)) = true := bne_iff_ne.mpr c47
         have H' := Aside0.mk H
         clear H
         go_wp2
         go_meet
         case rel => exact ⟨_, ((a1_3.toList == ([13] : List UInt8))), (by first | rfl | (simp; done) | (simp [*]; done)), H', ⟨by have := HJ5.out; first | omega | exact Nat.le_refl _⟩, ⟨by (with_reducible repeat (first | refine blk_drewN ?_ _ | refine blk_drew ?_ | refine blk_alloc ?_ _)); exact BK510.out⟩, ⟨by (with_reducible repeat (first | refine blk_drewN ?_ _ | refine blk_drew ?_ | refine blk_alloc ?_ _)); exact BK517.out⟩, ⟨by repeat (first | (with_reducible first | exact HB.out | apply below_alloc | apply pw_below_drewN | apply below_drew1 | refine below_set ?_ GE510.out | refine below_set ?_ GE517.out) | exact HB.out)⟩⟩
      case rest => as_aux_lemma =>
       clear HC45
       try clear c1
       try clear c2
       try clear p2
       try clear c3
       try clear c4
       try clear c6
       try clear p6
       try clear c7
       try clear c10
       try clear c12
       try clear c13
       try clear c14
       try clear c14b0
       try clear c15
       try clear c17
       try clear c17b0
       try clear c18
       try clear c20
       try clear c20b0
       try clear c21
       try clear c23
       try clear c23b0
       try clear c24
       try clear c26
       try clear c28
       try clear c29
       try clear c29b0
       try clear c29b1
       try clear c30
       try clear c30b0
       try clear c30b1
       try clear c30b2
       try clear c31
       try clear c33
       try clear c39
       try clear c46
       try clear c46b0
       try clear c46b1
       try clear c47
       try clear c47b0
       try clear c47b1
       try clear hcz13_0
       try clear hcz13_1
       try clear hcz13_2
       try clear hcz16_0
       try clear hcz16_1
       try clear hcz16_2
       try clear hcz16_3
       try clear hcz19_0
       try clear hcz19_1
       try clear hcz19_2
       try clear hcz19_3
       try clear hcz22_0
       try clear hcz22_1
       try clear hcz22_2
       try clear hcz22_3
       try clear hcz25_0
       try clear hcz25_1
       try clear hcz25_2
       try clear hcz25_3
       try clear hcz27_0
       try clear hcz27_1
       try clear hcz27_2
       try clear hcz27_3
       try clear hcz32_0
       try clear hcz32_1
       try clear hcz32_2
       try clear hcz34_0
       try clear hcz34_1
       try clear hcz34_2
       try clear hcz40_0
       try clear hcz40_1
       try clear hcz40_2
       try clear hcz40_3
       try clear hcz44_0
       try clear hcz44_1
       try clear hcz44_2
       try clear hcz44_3
       try clear hcz9_0
       try clear hcz9_1
       try clear hcz9_2
       try clear hcz9_3
       try clear hfz13_0
       try clear hfz13_1
       try clear hfz13_2
       try clear hfz16_0
       try clear hfz16_1
       try clear hfz16_2
       try clear hfz16_3
       try clear hfz19_0
       try clear hfz19_1
       try clear hfz19_2
       try clear hfz19_3
       try clear hfz22_0
       try clear hfz22_1
       try clear hfz22_2
       try clear hfz22_3
       try clear hfz25_0
       try clear hfz25_1
       try clear hfz25_2
       try clear hfz25_3
       try clear hfz27_0
       try clear hfz27_1
       try clear hfz27_2
       try clear hfz27_3
       try clear hfz32_0
       try clear hfz32_1
       try clear hfz32_2
       try clear hfz34_0
       try clear hfz34_1
       try clear hfz34_2
       try clear hfz40_0
       try clear hfz40_1
       try clear hfz40_2
       try clear hfz40_3
       try clear hfz44_0
       try clear hfz44_1
       try clear hfz44_2
       try clear hfz44_3
       try clear hfz9_0
       try clear hfz9_1
       try clear hfz9_2
       try clear hfz9_3
       try clear p2
       obtain ⟨kq, x95_44, rfl, HA, HJ44, BK510, BK517, HB⟩ := hcut
       cases kq with
       | zero => exact absurd HA.out (by simp [quoinlaw07_StepPlaces.j1])
       | succ kj44 =>
        have H := HA.out
        clear HA
        simp only [quoinlaw07_StepPlaces.j1] at H
        by_cases c48 : x95_44 = true
        ·subst c48
         have H1 : (quoinlaw07_StepPlaces.j6 kj44 l0 t515 t516 (wrap64 (t520 - 1)) (wrap64 (t518 + ji37)) a1_0 a1_1 a1_2 a1_3 t512 t513 t514) = some r := by rw [if_pos rfl] at H; exact H
         clear H
         have H := H1
         clear H1
         have H' := Aside0.mk H
         clear H
         go_wp2
         go_meet
         case rel => exact ⟨_, (wrap64 (t518 + ji37)), (by first | rfl | (simp; done) | (simp only [← hji37] <;> (first | rfl | simp)) | (simp [*]; done)), H', ⟨by have := HJ5.out; have := HJ44.out; first | omega | exact Nat.le_refl _⟩, ⟨by (with_reducible repeat (first | refine blk_drewN ?_ _ | refine blk_drew ?_ | refine blk_alloc ?_ _)); exact BK510.out⟩, ⟨by (with_reducible repeat (first | refine blk_drewN ?_ _ | refine blk_drew ?_ | refine blk_alloc ?_ _)); exact BK517.out⟩, ⟨by repeat (first | (with_reducible first | exact HB.out | apply below_alloc | apply pw_below_drewN | apply below_drew1 | refine below_set ?_ GE510.out | refine below_set ?_ GE517.out) | exact HB.out)⟩⟩
        ·replace c48 := Bool.eq_false_iff.mpr c48
         subst c48
         have H1 : (if a1_3.toList = ([107] : List UInt8) then (quoinlaw07_StepPlaces.j2 kj44 l0 t515 t516 t518 t519 (wrap64 (t520 - 1)) ji37 a1_3 (a1_3.toList == ([107] : List UInt8)) a1_0 a1_1 a1_2 a1_3 t512 t513 t514) else (quoinlaw07_StepPlaces.j2 kj44 l0 t515 t516 t518 t519 (wrap64 (t520 - 1)) ji37 a1_3 (a1_3.toList == ([45] : List UInt8)) a1_0 a1_1 a1_2 a1_3 t512 t513 t514)) = some r := by rw [if_neg (show ¬ (false = true) by decide)] at H; exact H
         clear H
         have H := H1
         clear H1
         have HC49 := Aside0.mk H
         clear H
         go_upto_if 102 with (fail)
         go_cut [102] (fun v102 wc => ∃ (kq : Nat) (x102_48 : Bool), v102 = .bool x102_48 ∧ Aside0 (quoinlaw07_StepPlaces.j2 kq l0 t515 t516 t518 t519 (wrap64 (t520 - 1)) ji37 a1_3 x102_48 a1_0 a1_1 a1_2 a1_3 t512 t513 t514 = some r) ∧ Aside0 (kq ≤ kj44) ∧ Aside0 (wc.heap[gb510]? = some (.cells #[.int .i64 a1_0, .int .i64 a1_1, .int .i64 a1_2, .string a1_3] 27 (0, 0))) ∧ Aside0 (wc.heap[gb517]? = some (.cells #[.int .i64 t512, .int .i64 t513, .int .i64 t514] 29 (0, 0))) ∧ Aside0 (Below w.heap.size w wc))
         case first => as_aux_lemma =>
          have H := HC49.out
          clear HC49
          by_cases c50 : a1_3.toList = ([107] : List UInt8)
          ·rw [if_pos c50] at H
           have c50b0 : (a1_3.toList == ([107] : List UInt8)) = true := beq_iff_eq.mpr c50
           have c50b1 : (a1_3.toList != ([107] : List UInt8)) = false := bne_eq_false_iff_eq.mpr c50
           clear c50
           (first | rw [c50b0] | (simp only [i64_w, i32_w]; rw [c50b0]) | skip)
           have H' := Aside0.mk H
           clear H
           go_wp2
           go_meet
           case rel => exact ⟨_, ((a1_3.toList == ([107] : List UInt8))), (by first | rfl | (simp; done) | (simp [*]; done)), H', ⟨by have := HJ5.out; have := HJ44.out; first | omega | exact Nat.le_refl _⟩, ⟨by (with_reducible repeat (first | refine blk_drewN ?_ _ | refine blk_drew ?_ | refine blk_alloc ?_ _)); exact BK510.out⟩, ⟨by (with_reducible repeat (first | refine blk_drewN ?_ _ | refine blk_drew ?_ | refine blk_alloc ?_ _)); exact BK517.out⟩, ⟨by repeat (first | (with_reducible first | exact HB.out | apply below_alloc | apply pw_below_drewN | apply below_drew1 | refine below_set ?_ GE510.out | refine below_set ?_ GE517.out) | exact HB.out)⟩⟩
          ·rw [if_neg c50] at H
           have c50b0 : (a1_3.toList == ([107] : List UInt8)) = false := beq_eq_false_iff_ne.mpr c50
           have c50b1 : (a1_3.toList != ([107] : List UInt8)) = true := bne_iff_ne.mpr c50
           (first | rw [c50b0] | (simp only [i64_w, i32_w]; rw [c50b0]) | skip)
           have H' := Aside0.mk H
           clear H
           go_wp2
           go_meet
           case rel => exact ⟨_, ((a1_3.toList == ([45] : List UInt8))), (by first | rfl | (simp; done) | (simp [*]; done)), H', ⟨by have := HJ5.out; have := HJ44.out; first | omega | exact Nat.le_refl _⟩, ⟨by (with_reducible repeat (first | refine blk_drewN ?_ _ | refine blk_drew ?_ | refine blk_alloc ?_ _)); exact BK510.out⟩, ⟨by (with_reducible repeat (first | refine blk_drewN ?_ _ | refine blk_drew ?_ | refine blk_alloc ?_ _)); exact BK517.out⟩, ⟨by repeat (first | (with_reducible first | exact HB.out | apply below_alloc | apply pw_below_drewN | apply below_drew1 | refine below_set ?_ GE510.out | refine below_set ?_ GE517.out) | exact HB.out)⟩⟩
         case rest => as_aux_lemma =>
          clear HC49
          try clear c1
          try clear c2
          try clear p2
          try clear c3
          try clear c4
          try clear c5
          try clear c6
          try clear p6
          try clear c7
          try clear c10
          try clear c12
          try clear c13
          try clear c14
          try clear c14b0
          try clear c15
          try clear c17
          try clear c17b0
          try clear c18
          try clear c20
          try clear c20b0
          try clear c21
          try clear c23
          try clear c23b0
          try clear c24
          try clear c26
          try clear c28
          try clear c29
          try clear c29b0
          try clear c29b1
          try clear c30
          try clear c30b0
          try clear c30b1
          try clear c30b2
          try clear c31
          try clear c33
          try clear c39
          try clear c46
          try clear c46b0
          try clear c46b1
          try clear c47
          try clear c47b0
          try clear c47b1
          try clear c48
          try clear c50
          try clear c50b0
          try clear c50b1
          try clear hcz13_0
          try clear hcz13_1
          try clear hcz13_2
          try clear hcz16_0
          try clear hcz16_1
          try clear hcz16_2
          try clear hcz16_3
          try clear hcz19_0
          try clear hcz19_1
          try clear hcz19_2
          try clear hcz19_3
          try clear hcz22_0
          try clear hcz22_1
          try clear hcz22_2
          try clear hcz22_3
          try clear hcz25_0
          try clear hcz25_1
          try clear hcz25_2
          try clear hcz25_3
          try clear hcz27_0
          try clear hcz27_1
          try clear hcz27_2
          try clear hcz27_3
          try clear hcz32_0
          try clear hcz32_1
          try clear hcz32_2
          try clear hcz34_0
          try clear hcz34_1
          try clear hcz34_2
          try clear hcz40_0
          try clear hcz40_1
          try clear hcz40_2
          try clear hcz40_3
          try clear hcz44_0
          try clear hcz44_1
          try clear hcz44_2
          try clear hcz44_3
          try clear hcz9_0
          try clear hcz9_1
          try clear hcz9_2
          try clear hcz9_3
          try clear hfz13_0
          try clear hfz13_1
          try clear hfz13_2
          try clear hfz16_0
          try clear hfz16_1
          try clear hfz16_2
          try clear hfz16_3
          try clear hfz19_0
          try clear hfz19_1
          try clear hfz19_2
          try clear hfz19_3
          try clear hfz22_0
          try clear hfz22_1
          try clear hfz22_2
          try clear hfz22_3
          try clear hfz25_0
          try clear hfz25_1
          try clear hfz25_2
          try clear hfz25_3
          try clear hfz27_0
          try clear hfz27_1
          try clear hfz27_2
          try clear hfz27_3
          try clear hfz32_0
          try clear hfz32_1
          try clear hfz32_2
          try clear hfz34_0
          try clear hfz34_1
          try clear hfz34_2
          try clear hfz40_0
          try clear hfz40_1
          try clear hfz40_2
          try clear hfz40_3
          try clear hfz44_0
          try clear hfz44_1
          try clear hfz44_2
          try clear hfz44_3
          try clear hfz9_0
          try clear hfz9_1
          try clear hfz9_2
          try clear hfz9_3
          try clear p2
          try clear p6
          obtain ⟨kq, x102_48, rfl, HA, HJ48, BK510, BK517, HB⟩ := hcut
          cases kq with
          | zero => exact absurd HA.out (by simp [quoinlaw07_StepPlaces.j2])
          | succ kj48 =>
           have H := HA.out
           clear HA
           simp only [quoinlaw07_StepPlaces.j2] at H
           by_cases c51 : x102_48 = true
           ·subst c51
            have H1 : (quoinlaw07_StepPlaces.j6 kj48 l0 t515 t516 (wrap64 (t520 - 1)) (wrap64 (t518 - ji37)) a1_0 a1_1 a1_2 a1_3 t512 t513 t514) = some r := by rw [if_pos rfl] at H; exact H
            clear H
            have H := H1
            clear H1
            have H' := Aside0.mk H
            clear H
            go_wp2
            go_meet
            case rel => exact ⟨_, (wrap64 (t518 - ji37)), (by first | rfl | (simp; done) | (simp only [← hji37] <;> (first | rfl | simp)) | (simp [*]; done)), H', ⟨by have := HJ5.out; have := HJ44.out; have := HJ48.out; first | omega | exact Nat.le_refl _⟩, ⟨by (with_reducible repeat (first | refine blk_drewN ?_ _ | refine blk_drew ?_ | refine blk_alloc ?_ _)); exact BK510.out⟩, ⟨by (with_reducible repeat (first | refine blk_drewN ?_ _ | refine blk_drew ?_ | refine blk_alloc ?_ _)); exact BK517.out⟩, ⟨by repeat (first | (with_reducible first | exact HB.out | apply below_alloc | apply pw_below_drewN | apply below_drew1 | refine below_set ?_ GE510.out | refine below_set ?_ GE517.out) | exact HB.out)⟩⟩
           ·replace c51 := Bool.eq_false_iff.mpr c51
            subst c51
            have H1 : (if a1_3.toList = ([95] : List UInt8) then (quoinlaw07_StepPlaces.j3 kj48 l0 t515 t516 t518 t519 (wrap64 (t520 - 1)) ji37 a1_3 (a1_3.toList == ([95] : List UInt8)) a1_0 a1_1 a1_2 a1_3 t512 t513 t514) else (quoinlaw07_StepPlaces.j3 kj48 l0 t515 t516 t518 t519 (wrap64 (t520 - 1)) ji37 a1_3 (a1_3.toList == ([36] : List UInt8)) a1_0 a1_1 a1_2 a1_3 t512 t513 t514)) = some r := by rw [if_neg (show ¬ (false = true) by decide)] at H; exact H
            clear H
            have H := H1
            clear H1
            have HC52 := Aside0.mk H
            clear H
            go_upto_if 108 with (fail)
            go_cut [108] (fun v108 wc => ∃ (kq : Nat) (x108_51 : Bool), v108 = .bool x108_51 ∧ Aside0 (quoinlaw07_StepPlaces.j3 kq l0 t515 t516 t518 t519 (wrap64 (t520 - 1)) ji37 a1_3 x108_51 a1_0 a1_1 a1_2 a1_3 t512 t513 t514 = some r) ∧ Aside0 (kq ≤ kj48) ∧ Aside0 (wc.heap[gb510]? = some (.cells #[.int .i64 a1_0, .int .i64 a1_1, .int .i64 a1_2, .string a1_3] 27 (0, 0))) ∧ Aside0 (wc.heap[gb517]? = some (.cells #[.int .i64 t512, .int .i64 t513, .int .i64 t514] 29 (0, 0))) ∧ Aside0 (Below w.heap.size w wc))
            case first => as_aux_lemma =>
             have H := HC52.out
             clear HC52
             by_cases c53 : a1_3.toList = ([95] : List UInt8)
             ·rw [if_pos c53] at H
              have c53b0 : (a1_3.toList == ([95] : List UInt8)) = true := beq_iff_eq.mpr c53
              have c53b1 : (a1_3.toList != ([95] : List UInt8)) = false := bne_eq_false_iff_eq.mpr c53
              clear c53
              (first | rw [c53b0] | (simp only [i64_w, i32_w]; rw [c53b0]) | skip)
              have H' := Aside0.mk H
              clear H
              go_wp2
              go_meet
              case rel => exact ⟨_, ((a1_3.toList == ([95] : List UInt8))), (by first | rfl | (simp; done) | (simp [*]; done)), H', ⟨by have := HJ5.out; have := HJ44.out; have := HJ48.out; first | omega | exact Nat.le_refl _⟩, ⟨by (with_reducible repeat (first | refine blk_drewN ?_ _ | refine blk_drew ?_ | refine blk_alloc ?_ _)); exact BK510.out⟩, ⟨by (with_reducible repeat (first | refine blk_drewN ?_ _ | refine blk_drew ?_ | refine blk_alloc ?_ _)); exact BK517.out⟩, ⟨by repeat (first | (with_reducible first | exact HB.out | apply below_alloc | apply pw_below_drewN | apply below_drew1 | refine below_set ?_ GE510.out | refine below_set ?_ GE517.out) | exact HB.out)⟩⟩
             ·rw [if_neg c53] at H
              have c53b0 : (a1_3.toList == ([95] : List UInt8)) = false := beq_eq_false_iff_ne.mpr c53
              have c53b1 : (a1_3.toList != ([95] : List UInt8)) = true := bne_iff_ne.mpr c53
              (first | rw [c53b0] | (simp only [i64_w, i32_w]; rw [c53b0]) | skip)
              have H' := Aside0.mk H
              clear H
              go_wp2
              go_meet
              case rel => exact ⟨_, ((a1_3.toList == ([36] : List UInt8))), (by first | rfl | (simp; done) | (simp [*]; done)), H', ⟨by have := HJ5.out; have := HJ44.out; have := HJ48.out; first | omega | exact Nat.le_refl _⟩, ⟨by (with_reducible repeat (first | refine blk_drewN ?_ _ | refine blk_drew ?_ | refine blk_alloc ?_ _)); exact BK510.out⟩, ⟨by (with_reducible repeat (first | refine blk_drewN ?_ _ | refine blk_drew ?_ | refine blk_alloc ?_ _)); exact BK517.out⟩, ⟨by repeat (first | (with_reducible first | exact HB.out | apply below_alloc | apply pw_below_drewN | apply below_drew1 | refine below_set ?_ GE510.out | refine below_set ?_ GE517.out) | exact HB.out)⟩⟩
            case rest => as_aux_lemma =>
             clear HC52
             try clear c1
             try clear c2
             try clear p2
             try clear c3
             try clear c4
             try clear c5
             try clear c6
             try clear p6
             try clear c7
             try clear c10
             try clear c12
             try clear c13
             try clear c14
             try clear c14b0
             try clear c15
             try clear c17
             try clear c17b0
             try clear c18
             try clear c20
             try clear c20b0
             try clear c21
             try clear c23
             try clear c23b0
             try clear c24
             try clear c26
             try clear c28
             try clear c29
             try clear c29b0
             try clear c29b1
             try clear c30
             try clear c30b0
             try clear c30b1
             try clear c30b2
             try clear c31
             try clear c33
             try clear c39
             try clear c46
             try clear c46b0
             try clear c46b1
             try clear c47
             try clear c47b0
             try clear c47b1
             try clear c48
             try clear c50
             try clear c50b0
             try clear c50b1
             try clear c51
             try clear c53
             try clear c53b0
             try clear c53b1
             try clear hcz13_0
             try clear hcz13_1
             try clear hcz13_2
             try clear hcz16_0
             try clear hcz16_1
             try clear hcz16_2
             try clear hcz16_3
             try clear hcz19_0
             try clear hcz19_1
             try clear hcz19_2
             try clear hcz19_3
             try clear hcz22_0
             try clear hcz22_1
             try clear hcz22_2
             try clear hcz22_3
             try clear hcz25_0
             try clear hcz25_1
             try clear hcz25_2
             try clear hcz25_3
             try clear hcz27_0
             try clear hcz27_1
             try clear hcz27_2
             try clear hcz27_3
             try clear hcz32_0
             try clear hcz32_1
             try clear hcz32_2
             try clear hcz34_0
             try clear hcz34_1
             try clear hcz34_2
             try clear hcz40_0
             try clear hcz40_1
             try clear hcz40_2
             try clear hcz40_3
             try clear hcz44_0
             try clear hcz44_1
             try clear hcz44_2
             try clear hcz44_3
             try clear hcz9_0
             try clear hcz9_1
             try clear hcz9_2
             try clear hcz9_3
             try clear hfz13_0
             try clear hfz13_1
             try clear hfz13_2
             try clear hfz16_0
             try clear hfz16_1
             try clear hfz16_2
             try clear hfz16_3
             try clear hfz19_0
             try clear hfz19_1
             try clear hfz19_2
             try clear hfz19_3
             try clear hfz22_0
             try clear hfz22_1
             try clear hfz22_2
             try clear hfz22_3
             try clear hfz25_0
             try clear hfz25_1
             try clear hfz25_2
             try clear hfz25_3
             try clear hfz27_0
             try clear hfz27_1
             try clear hfz27_2
             try clear hfz27_3
             try clear hfz32_0
             try clear hfz32_1
             try clear hfz32_2
             try clear hfz34_0
             try clear hfz34_1
             try clear hfz34_2
             try clear hfz40_0
             try clear hfz40_1
             try clear hfz40_2
             try clear hfz40_3
             try clear hfz44_0
             try clear hfz44_1
             try clear hfz44_2
             try clear hfz44_3
             try clear hfz9_0
             try clear hfz9_1
             try clear hfz9_2
             try clear hfz9_3
             try clear p2
             try clear p6
             obtain ⟨kq, x108_51, rfl, HA, HJ51, BK510, BK517, HB⟩ := hcut
             cases kq with
             | zero => exact absurd HA.out (by simp [quoinlaw07_StepPlaces.j3])
             | succ kj51 =>
              have H := HA.out
              clear HA
              simp only [quoinlaw07_StepPlaces.j3] at H
              by_cases c54 : x108_51 = true
              ·subst c54
               have H1 : (quoinlaw07_StepPlaces.j6 kj51 l0 t515 t516 (wrap64 (t520 - 1)) (wrap64 ((wrap64 (t518 + ji37)) - 1)) a1_0 a1_1 a1_2 a1_3 t512 t513 t514) = some r := by rw [if_pos rfl] at H; exact H
               clear H
               have H := H1
               clear H1
               have H' := Aside0.mk H
               clear H
               go_wp2
               go_meet
               case rel => exact ⟨_, (wrap64 ((wrap64 (t518 + ji37)) - 1)), (by first | rfl | (simp; done) | (simp only [← hji37] <;> (first | rfl | simp)) | (simp [*]; done)), H', ⟨by have := HJ5.out; have := HJ44.out; have := HJ48.out; have := HJ51.out; first | omega | exact Nat.le_refl _⟩, ⟨by (with_reducible repeat (first | refine blk_drewN ?_ _ | refine blk_drew ?_ | refine blk_alloc ?_ _)); exact BK510.out⟩, ⟨by (with_reducible repeat (first | refine blk_drewN ?_ _ | refine blk_drew ?_ | refine blk_alloc ?_ _)); exact BK517.out⟩, ⟨by repeat (first | (with_reducible first | exact HB.out | apply below_alloc | apply pw_below_drewN | apply below_drew1 | refine below_set ?_ GE510.out | refine below_set ?_ GE517.out) | exact HB.out)⟩⟩
              ·replace c54 := Bool.eq_false_iff.mpr c54
               subst c54
               have H1 : (if a1_3.toList = ([71] : List UInt8) then (quoinlaw07_StepPlaces.j4 kj51 l0 t515 t516 t519 (wrap64 (t520 - 1)) ji37 a1_3 (a1_3.toList == ([71] : List UInt8)) a1_0 a1_1 a1_2 a1_3 t512 t513 t514) else (quoinlaw07_StepPlaces.j4 kj51 l0 t515 t516 t519 (wrap64 (t520 - 1)) ji37 a1_3 (a1_3.toList == ([103, 103] : List UInt8)) a1_0 a1_1 a1_2 a1_3 t512 t513 t514)) = some r := by rw [if_neg (show ¬ (false = true) by decide)] at H; exact H
               clear H
               have H := H1
               clear H1
               have HC55 := Aside0.mk H
               clear H
               go_upto_if 115 with (fail)
               go_cut [115] (fun v115 wc => ∃ (kq : Nat) (x115_54 : Bool), v115 = .bool x115_54 ∧ Aside0 (quoinlaw07_StepPlaces.j4 kq l0 t515 t516 t519 (wrap64 (t520 - 1)) ji37 a1_3 x115_54 a1_0 a1_1 a1_2 a1_3 t512 t513 t514 = some r) ∧ Aside0 (kq ≤ kj51) ∧ Aside0 (wc.heap[gb510]? = some (.cells #[.int .i64 a1_0, .int .i64 a1_1, .int .i64 a1_2, .string a1_3] 27 (0, 0))) ∧ Aside0 (wc.heap[gb517]? = some (.cells #[.int .i64 t512, .int .i64 t513, .int .i64 t514] 29 (0, 0))) ∧ Aside0 (Below w.heap.size w wc))
               case first => as_aux_lemma =>
                have H := HC55.out
                clear HC55
                by_cases c56 : a1_3.toList = ([71] : List UInt8)
                ·rw [if_pos c56] at H
                 have c56b0 : (a1_3.toList == ([71] : List UInt8)) = true := beq_iff_eq.mpr c56
                 have c56b1 : (a1_3.toList != ([71] : List UInt8)) = false := bne_eq_false_iff_eq.mpr c56
                 clear c56
                 (first | rw [c56b0] | (simp only [i64_w, i32_w]; rw [c56b0]) | skip)
                 have H' := Aside0.mk H
                 clear H
                 go_wp2
                 go_meet
                 case rel => exact ⟨_, ((a1_3.toList == ([71] : List UInt8))), (by first | rfl | (simp; done) | (simp [*]; done)), H', ⟨by have := HJ5.out; have := HJ44.out; have := HJ48.out; have := HJ51.out; first | omega | exact Nat.le_refl _⟩, ⟨by (with_reducible repeat (first | refine blk_drewN ?_ _ | refine blk_drew ?_ | refine blk_alloc ?_ _)); exact BK510.out⟩, ⟨by (with_reducible repeat (first | refine blk_drewN ?_ _ | refine blk_drew ?_ | refine blk_alloc ?_ _)); exact BK517.out⟩, ⟨by repeat (first | (with_reducible first | exact HB.out | apply below_alloc | apply pw_below_drewN | apply below_drew1 | refine below_set ?_ GE510.out | refine below_set ?_ GE517.out) | exact HB.out)⟩⟩
                ·rw [if_neg c56] at H
                 have c56b0 : (a1_3.toList == ([71] : List UInt8)) = false := beq_eq_false_iff_ne.mpr c56
                 have c56b1 : (a1_3.toList != ([71] : List UInt8)) = true := bne_iff_ne.mpr c56
                 (first | rw [c56b0] | (simp only [i64_w, i32_w]; rw [c56b0]) | skip)
                 have H' := Aside0.mk H
                 clear H
                 go_wp2
                 go_meet
                 case rel => exact ⟨_, ((a1_3.toList == ([103, 103] : List UInt8))), (by first | rfl | (simp; done) | (simp [*]; done)), H', ⟨by have := HJ5.out; have := HJ44.out; have := HJ48.out; have := HJ51.out; first | omega | exact Nat.le_refl _⟩, ⟨by (with_reducible repeat (first | refine blk_drewN ?_ _ | refine blk_drew ?_ | refine blk_alloc ?_ _)); exact BK510.out⟩, ⟨by (with_reducible repeat (first | refine blk_drewN ?_ _ | refine blk_drew ?_ | refine blk_alloc ?_ _)); exact BK517.out⟩, ⟨by repeat (first | (with_reducible first | exact HB.out | apply below_alloc | apply pw_below_drewN | apply below_drew1 | refine below_set ?_ GE510.out | refine below_set ?_ GE517.out) | exact HB.out)⟩⟩
               case rest => as_aux_lemma =>
                clear HC55
                try clear c1
                try clear c2
                try clear p2
                try clear c3
                try clear c4
                try clear c5
                try clear c6
                try clear p6
                try clear c7
                try clear c10
                try clear c12
                try clear c13
                try clear c14
                try clear c14b0
                try clear c15
                try clear c17
                try clear c17b0
                try clear c18
                try clear c20
                try clear c20b0
                try clear c21
                try clear c23
                try clear c23b0
                try clear c24
                try clear c26
                try clear c28
                try clear c29
                try clear c29b0
                try clear c29b1
                try clear c30
                try clear c30b0
                try clear c30b1
                try clear c30b2
                try clear c31
                try clear c33
                try clear c39
                try clear c46
                try clear c46b0
                try clear c46b1
                try clear c47
                try clear c47b0
                try clear c47b1
                try clear c48
                try clear c50
                try clear c50b0
                try clear c50b1
                try clear c51
                try clear c53
                try clear c53b0
                try clear c53b1
                try clear c54
                try clear c56
                try clear c56b0
                try clear c56b1
                try clear hcz13_0
                try clear hcz13_1
                try clear hcz13_2
                try clear hcz16_0
                try clear hcz16_1
                try clear hcz16_2
                try clear hcz16_3
                try clear hcz19_0
                try clear hcz19_1
                try clear hcz19_2
                try clear hcz19_3
                try clear hcz22_0
                try clear hcz22_1
                try clear hcz22_2
                try clear hcz22_3
                try clear hcz25_0
                try clear hcz25_1
                try clear hcz25_2
                try clear hcz25_3
                try clear hcz27_0
                try clear hcz27_1
                try clear hcz27_2
                try clear hcz27_3
                try clear hcz32_0
                try clear hcz32_1
                try clear hcz32_2
                try clear hcz34_0
                try clear hcz34_1
                try clear hcz34_2
                try clear hcz40_0
                try clear hcz40_1
                try clear hcz40_2
                try clear hcz40_3
                try clear hcz44_0
                try clear hcz44_1
                try clear hcz44_2
                try clear hcz44_3
                try clear hcz9_0
                try clear hcz9_1
                try clear hcz9_2
                try clear hcz9_3
                try clear hfz13_0
                try clear hfz13_1
                try clear hfz13_2
                try clear hfz16_0
                try clear hfz16_1
                try clear hfz16_2
                try clear hfz16_3
                try clear hfz19_0
                try clear hfz19_1
                try clear hfz19_2
                try clear hfz19_3
                try clear hfz22_0
                try clear hfz22_1
                try clear hfz22_2
                try clear hfz22_3
                try clear hfz25_0
                try clear hfz25_1
                try clear hfz25_2
                try clear hfz25_3
                try clear hfz27_0
                try clear hfz27_1
                try clear hfz27_2
                try clear hfz27_3
                try clear hfz32_0
                try clear hfz32_1
                try clear hfz32_2
                try clear hfz34_0
                try clear hfz34_1
                try clear hfz34_2
                try clear hfz40_0
                try clear hfz40_1
                try clear hfz40_2
                try clear hfz40_3
                try clear hfz44_0
                try clear hfz44_1
                try clear hfz44_2
                try clear hfz44_3
                try clear hfz9_0
                try clear hfz9_1
                try clear hfz9_2
                try clear hfz9_3
                try clear p2
                try clear p6
                obtain ⟨kq, x115_54, rfl, HA, HJ54, BK510, BK517, HB⟩ := hcut
                cases kq with
                | zero => exact absurd HA.out (by simp [quoinlaw07_StepPlaces.j4])
                | succ kj54 =>
                 have H := HA.out
                 clear HA
                 simp only [quoinlaw07_StepPlaces.j4] at H
                 by_cases c57 : x115_54 = true
                 ·subst c57
                  have H1 : (if a1_3.toList = ([71] : List UInt8) then (if a1_2 = 0 then (quoinlaw07_StepPlaces.j6 kj54 l0 t515 t516 (wrap64 (t520 - 1)) (wrap64 (t520 - 1)) a1_0 a1_1 a1_2 a1_3 t512 t513 t514) else (quoinlaw07_StepPlaces.j6 kj54 l0 t515 t516 (wrap64 (t520 - 1)) (wrap64 (ji37 - 1)) a1_0 a1_1 a1_2 a1_3 t512 t513 t514)) else (quoinlaw07_StepPlaces.j6 kj54 l0 t515 t516 (wrap64 (t520 - 1)) (wrap64 (ji37 - 1)) a1_0 a1_1 a1_2 a1_3 t512 t513 t514)) = some r := by rw [if_pos rfl] at H; exact H
                  clear H
                  have H := H1
                  clear H1
                  by_cases c58 : a1_3.toList = ([71] : List UInt8)
                  ·rw [if_pos c58] at H
                   have c58b0 : (a1_3.toList == ([71] : List UInt8)) = true := beq_iff_eq.mpr c58
                   have c58b1 : (a1_3.toList != ([71] : List UInt8)) = false := bne_eq_false_iff_eq.mpr c58
                   clear c58
                   by_cases c59 : a1_2 = 0
                   ·rw [if_pos c59] at H
                    have c59b0 : (a1_2 == 0) = true := beq_iff_eq.mpr c59
                    have c59b1 : (a1_2 != 0) = false := bne_eq_false_iff_eq.mpr c59
                    clear c59
                    have H' := Aside0.mk H
                    clear H
                    have hnb60 := NB510_517.out
                    have hnc60 := NB517_510.out
                    have hcz61_0 : wc.cell? ⟨gb510, 0, none⟩ = some (.int .i64 a1_0) := (blk_cell BK510.out 0).trans rfl
                    have hcz61_1 : wc.cell? ⟨gb510, 1, none⟩ = some (.int .i64 a1_1) := (blk_cell BK510.out 1).trans rfl
                    have hcz61_2 : wc.cell? ⟨gb510, 2, none⟩ = some (.int .i64 a1_2) := (blk_cell BK510.out 2).trans rfl
                    have hcz61_3 : wc.cell? ⟨gb510, 3, none⟩ = some (.string a1_3) := (blk_cell BK510.out 3).trans rfl
                    have hfz61_0 := blk_frozen BK510.out 0
                    have hfz61_1 := blk_frozen BK510.out 1
                    have hfz61_2 := blk_frozen BK510.out 2
                    have hfz61_3 := blk_frozen BK510.out 3
                    go_wp2
                    go_meet
                    case rel => exact ⟨_, ((wrap64 (t520 - 1))), (by first | rfl | (simp; done) | (simp [*]; done)), H', ⟨by have := HJ5.out; have := HJ44.out; have := HJ48.out; have := HJ51.out; have := HJ54.out; first | omega | exact Nat.le_refl _⟩, ⟨by (with_reducible repeat (first | refine blk_drewN ?_ _ | refine blk_drew ?_ | refine blk_alloc ?_ _)); exact BK510.out⟩, ⟨by (with_reducible repeat (first | refine blk_drewN ?_ _ | refine blk_drew ?_ | refine blk_alloc ?_ _)); exact BK517.out⟩, ⟨by repeat (first | (with_reducible first | exact HB.out | apply below_alloc | apply pw_below_drewN | apply below_drew1 | refine below_set ?_ GE510.out | refine below_set ?_ GE517.out) | exact HB.out)⟩⟩
                   ·rw [if_neg c59] at H
                    have c59b0 : (a1_2 == 0) = false := beq_eq_false_iff_ne.mpr c59
                    have c59b1 : (a1_2 != 0) = true := bne_iff_ne.mpr c59
                    have H' := Aside0.mk H
                    clear H
                    have hnb62 := NB510_517.out
                    have hnc62 := NB517_510.out
                    have hcz63_0 : wc.cell? ⟨gb510, 0, none⟩ = some (.int .i64 a1_0) := (blk_cell BK510.out 0).trans rfl
                    have hcz63_1 : wc.cell? ⟨gb510, 1, none⟩ = some (.int .i64 a1_1) := (blk_cell BK510.out 1).trans rfl
                    have hcz63_2 : wc.cell? ⟨gb510, 2, none⟩ = some (.int .i64 a1_2) := (blk_cell BK510.out 2).trans rfl
                    have hcz63_3 : wc.cell? ⟨gb510, 3, none⟩ = some (.string a1_3) := (blk_cell BK510.out 3).trans rfl
                    have hfz63_0 := blk_frozen BK510.out 0
                    have hfz63_1 := blk_frozen BK510.out 1
                    have hfz63_2 := blk_frozen BK510.out 2
                    have hfz63_3 := blk_frozen BK510.out 3
                    go_wp2
                    go_meet
                    case rel => exact ⟨_, (wrap64 (ji37 - 1)), (by first | rfl | (simp; done) | (simp only [← hji37] <;> (first | rfl | simp)) | (simp [*]; done)), H', ⟨by have := HJ5.out; have := HJ44.out; have := HJ48.out; have := HJ51.out; have := HJ54.out; first | omega | exact Nat.le_refl _⟩, ⟨by (with_reducible repeat (first | refine blk_drewN ?_ _ | refine blk_drew ?_ | refine blk_alloc ?_ _)); exact BK510.out⟩, ⟨by (with_reducible repeat (first | refine blk_drewN ?_ _ | refine blk_drew ?_ | refine blk_alloc ?_ _)); exact BK517.out⟩, ⟨by repeat (first | (with_reducible first | exact HB.out | apply below_alloc | apply pw_below_drewN | apply below_drew1 | refine below_set ?_ GE510.out | refine below_set ?_ GE517.out) | exact HB.out)⟩⟩
                  ·rw [if_neg c58] at H
                   have c58b0 : (a1_3.toList == ([71] : List UInt8)) = false := beq_eq_false_iff_ne.mpr c58
                   have c58b1 : (a1_3.toList != ([71] : List UInt8)) = true := bne_iff_ne.mpr c58
                   have H' := Aside0.mk H
                   clear H
                   have hnb64 := NB510_517.out
                   have hnc64 := NB517_510.out
                   have hcz65_0 : wc.cell? ⟨gb510, 0, none⟩ = some (.int .i64 a1_0) := (blk_cell BK510.out 0).trans rfl
                   have hcz65_1 : wc.cell? ⟨gb510, 1, none⟩ = some (.int .i64 a1_1) := (blk_cell BK510.out 1).trans rfl
                   have hcz65_2 : wc.cell? ⟨gb510, 2, none⟩ = some (.int .i64 a1_2) := (blk_cell BK510.out 2).trans rfl
                   have hcz65_3 : wc.cell? ⟨gb510, 3, none⟩ = some (.string a1_3) := (blk_cell BK510.out 3).trans rfl
                   have hfz65_0 := blk_frozen BK510.out 0
                   have hfz65_1 := blk_frozen BK510.out 1
                   have hfz65_2 := blk_frozen BK510.out 2
                   have hfz65_3 := blk_frozen BK510.out 3
                   go_wp2
                   go_meet
                   case rel => exact ⟨_, (wrap64 (ji37 - 1)), (by first | rfl | (simp; done) | (simp only [← hji37] <;> (first | rfl | simp)) | (simp [*]; done)), H', ⟨by have := HJ5.out; have := HJ44.out; have := HJ48.out; have := HJ51.out; have := HJ54.out; first | omega | exact Nat.le_refl _⟩, ⟨by (with_reducible repeat (first | refine blk_drewN ?_ _ | refine blk_drew ?_ | refine blk_alloc ?_ _)); exact BK510.out⟩, ⟨by (with_reducible repeat (first | refine blk_drewN ?_ _ | refine blk_drew ?_ | refine blk_alloc ?_ _)); exact BK517.out⟩, ⟨by repeat (first | (with_reducible first | exact HB.out | apply below_alloc | apply pw_below_drewN | apply below_drew1 | refine below_set ?_ GE510.out | refine below_set ?_ GE517.out) | exact HB.out)⟩⟩
                 ·replace c57 := Bool.eq_false_iff.mpr c57
                  subst c57
                  have H1 : (if a1_3.toList = ([104] : List UInt8) then (quoinlaw07_StepPlaces.j5 kj54 l0 t515 t516 t519 ji37 (a1_3.toList == ([104] : List UInt8)) a1_0 a1_1 a1_2 a1_3 t512 t513 t514) else (if a1_3.toList = ([108] : List UInt8) then (quoinlaw07_StepPlaces.j5 kj54 l0 t515 t516 t519 ji37 (a1_3.toList == ([108] : List UInt8)) a1_0 a1_1 a1_2 a1_3 t512 t513 t514) else (if a1_3.toList = ([32] : List UInt8) then (quoinlaw07_StepPlaces.j5 kj54 l0 t515 t516 t519 ji37 (a1_3.toList == ([32] : List UInt8)) a1_0 a1_1 a1_2 a1_3 t512 t513 t514) else (if a1_3.toList = ([8] : List UInt8) then (quoinlaw07_StepPlaces.j5 kj54 l0 t515 t516 t519 ji37 (a1_3.toList == ([8] : List UInt8)) a1_0 a1_1 a1_2 a1_3 t512 t513 t514) else (if a1_3.toList = ([48] : List UInt8) then (quoinlaw07_StepPlaces.j5 kj54 l0 t515 t516 t519 ji37 (a1_3.toList == ([48] : List UInt8)) a1_0 a1_1 a1_2 a1_3 t512 t513 t514) else (if a1_3.toList = ([94] : List UInt8) then (quoinlaw07_StepPlaces.j5 kj54 l0 t515 t516 t519 ji37 (a1_3.toList == ([94] : List UInt8)) a1_0 a1_1 a1_2 a1_3 t512 t513 t514) else (quoinlaw07_StepPlaces.j5 kj54 l0 t515 t516 t519 ji37 (a1_3.toList == ([124] : List UInt8)) a1_0 a1_1 a1_2 a1_3 t512 t513 t514))))))) = some r := by rw [if_neg (show ¬ (false = true) by decide)] at H; exact H
                  clear H
                  have H := H1
                  clear H1
                  have HC66 := Aside0.mk H
                  clear H
                  go_upto_if 129 with (fail)
                  go_cut [129] (fun v129 wc => ∃ (kq : Nat) (x129_65 : Bool), v129 = .bool x129_65 ∧ Aside0 (quoinlaw07_StepPlaces.j5 kq l0 t515 t516 t519 ji37 x129_65 a1_0 a1_1 a1_2 a1_3 t512 t513 t514 = some r) ∧ Aside0 (kq ≤ kj54) ∧ Aside0 (wc.heap[gb510]? = some (.cells #[.int .i64 a1_0, .int .i64 a1_1, .int .i64 a1_2, .string a1_3] 27 (0, 0))) ∧ Aside0 (wc.heap[gb517]? = some (.cells #[.int .i64 t512, .int .i64 t513, .int .i64 t514] 29 (0, 0))) ∧ Aside0 (Below w.heap.size w wc))
                  case first => as_aux_lemma =>
                   have H := HC66.out
                   clear HC66
                   by_cases c67 : a1_3.toList = ([104] : List UInt8)
                   ·rw [if_pos c67] at H
                    have c67b0 : (a1_3.toList == ([104] : List UInt8)) = true := beq_iff_eq.mpr c67
                    have c67b1 : (a1_3.toList != ([104] : List UInt8)) = false := bne_eq_false_iff_eq.mpr c67
                    clear c67
                    (first | rw [c67b0] | (simp only [i64_w, i32_w]; rw [c67b0]) | skip)
                    have H' := Aside0.mk H
                    clear H
                    go_wp2
                    go_meet
                    case rel => exact ⟨_, ((a1_3.toList == ([104] : List UInt8))), (by first | rfl | (simp; done) | (simp [*]; done)), H', ⟨by have := HJ5.out; have := HJ44.out; have := HJ48.out; have := HJ51.out; have := HJ54.out; first | omega | exact Nat.le_refl _⟩, ⟨by (with_reducible repeat (first | refine blk_drewN ?_ _ | refine blk_drew ?_ | refine blk_alloc ?_ _)); exact BK510.out⟩, ⟨by (with_reducible repeat (first | refine blk_drewN ?_ _ | refine blk_drew ?_ | refine blk_alloc ?_ _)); exact BK517.out⟩, ⟨by repeat (first | (with_reducible first | exact HB.out | apply below_alloc | apply pw_below_drewN | apply below_drew1 | refine below_set ?_ GE510.out | refine below_set ?_ GE517.out) | exact HB.out)⟩⟩
                   ·rw [if_neg c67] at H
                    have c67b0 : (a1_3.toList == ([104] : List UInt8)) = false := beq_eq_false_iff_ne.mpr c67
                    have c67b1 : (a1_3.toList != ([104] : List UInt8)) = true := bne_iff_ne.mpr c67
                    (first | rw [c67b0] | (simp only [i64_w, i32_w]; rw [c67b0]) | skip)
                    by_cases c68 : a1_3.toList = ([108] : List UInt8)
                    ·rw [if_pos c68] at H
                     have c68b0 : (a1_3.toList == ([108] : List UInt8)) = true := beq_iff_eq.mpr c68
                     have c68b1 : (a1_3.toList != ([108] : List UInt8)) = false := bne_eq_false_iff_eq.mpr c68
                     clear c68
                     have H' := Aside0.mk H
                     clear H
                     go_wp2
                     go_meet
                     case rel => exact ⟨_, ((a1_3.toList == ([108] : List UInt8))), (by first | rfl | (simp; done) | (simp [*]; done)), H', ⟨by have := HJ5.out; have := HJ44.out; have := HJ48.out; have := HJ51.out; have := HJ54.out; first | omega | exact Nat.le_refl _⟩, ⟨by (with_reducible repeat (first | refine blk_drewN ?_ _ | refine blk_drew ?_ | refine blk_alloc ?_ _)); exact BK510.out⟩, ⟨by (with_reducible repeat (first | refine blk_drewN ?_ _ | refine blk_drew ?_ | refine blk_alloc ?_ _)); exact BK517.out⟩, ⟨by repeat (first | (with_reducible first | exact HB.out | apply below_alloc | apply pw_below_drewN | apply below_drew1 | refine below_set ?_ GE510.out | refine below_set ?_ GE517.out) | exact HB.out)⟩⟩
                    ·rw [if_neg c68] at H
                     have c68b0 : (a1_3.toList == ([108] : List UInt8)) = false := beq_eq_false_iff_ne.mpr c68
                     have c68b1 : (a1_3.toList != ([108] : List UInt8)) = true := bne_iff_ne.mpr c68
                     by_cases c69 : a1_3.toList = ([32] : List UInt8)
                     ·rw [if_pos c69] at H
                      have c69b0 : (a1_3.toList == ([32] : List UInt8)) = true := beq_iff_eq.mpr c69
                      have c69b1 : (a1_3.toList != ([32] : List UInt8)) = false := bne_eq_false_iff_eq.mpr c69
                      clear c69
                      have H' := Aside0.mk H
                      clear H
                      go_wp2
                      go_meet
                      case rel => exact ⟨_, ((a1_3.toList == ([32] : List UInt8))), (by first | rfl | (simp; done) | (simp [*]; done)), H', ⟨by have := HJ5.out; have := HJ44.out; have := HJ48.out; have := HJ51.out; have := HJ54.out; first | omega | exact Nat.le_refl _⟩, ⟨by (with_reducible repeat (first | refine blk_drewN ?_ _ | refine blk_drew ?_ | refine blk_alloc ?_ _)); exact BK510.out⟩, ⟨by (with_reducible repeat (first | refine blk_drewN ?_ _ | refine blk_drew ?_ | refine blk_alloc ?_ _)); exact BK517.out⟩, ⟨by repeat (first | (with_reducible first | exact HB.out | apply below_alloc | apply pw_below_drewN | apply below_drew1 | refine below_set ?_ GE510.out | refine below_set ?_ GE517.out) | exact HB.out)⟩⟩
                     ·rw [if_neg c69] at H
                      have c69b0 : (a1_3.toList == ([32] : List UInt8)) = false := beq_eq_false_iff_ne.mpr c69
                      have c69b1 : (a1_3.toList != ([32] : List UInt8)) = true := bne_iff_ne.mpr c69
                      by_cases c70 : a1_3.toList = ([8] : List UInt8)
                      ·rw [if_pos c70] at H
                       have c70b0 : (a1_3.toList == ([8] : List UInt8)) = true := beq_iff_eq.mpr c70
                       have c70b1 : (a1_3.toList != ([8] : List UInt8)) = false := bne_eq_false_iff_eq.mpr c70
                       clear c70
                       have H' := Aside0.mk H
                       clear H
                       go_wp2
                       go_meet
                       case rel => exact ⟨_, ((a1_3.toList == ([8] : List UInt8))), (by first | rfl | (simp; done) | (simp [*]; done)), H', ⟨by have := HJ5.out; have := HJ44.out; have := HJ48.out; have := HJ51.out; have := HJ54.out; first | omega | exact Nat.le_refl _⟩, ⟨by (with_reducible repeat (first | refine blk_drewN ?_ _ | refine blk_drew ?_ | refine blk_alloc ?_ _)); exact BK510.out⟩, ⟨by (with_reducible repeat (first | refine blk_drewN ?_ _ | refine blk_drew ?_ | refine blk_alloc ?_ _)); exact BK517.out⟩, ⟨by repeat (first | (with_reducible first | exact HB.out | apply below_alloc | apply pw_below_drewN | apply below_drew1 | refine below_set ?_ GE510.out | refine below_set ?_ GE517.out) | exact HB.out)⟩⟩
                      ·rw [if_neg c70] at H
                       have c70b0 : (a1_3.toList == ([8] : List UInt8)) = false := beq_eq_false_iff_ne.mpr c70
                       have c70b1 : (a1_3.toList != ([8] : List UInt8)) = true := bne_iff_ne.mpr c70
                       by_cases c71 : a1_3.toList = ([48] : List UInt8)
                       ·rw [if_pos c71] at H
                        have c71b0 : (a1_3.toList == ([48] : List UInt8)) = true := beq_iff_eq.mpr c71
                        have c71b1 : (a1_3.toList != ([48] : List UInt8)) = false := bne_eq_false_iff_eq.mpr c71
                        clear c71
                        have H' := Aside0.mk H
                        clear H
                        go_wp2
                        go_meet
                        case rel => exact ⟨_, ((a1_3.toList == ([48] : List UInt8))), (by first | rfl | (simp; done) | (simp [*]; done)), H', ⟨by have := HJ5.out; have := HJ44.out; have := HJ48.out; have := HJ51.out; have := HJ54.out; first | omega | exact Nat.le_refl _⟩, ⟨by (with_reducible repeat (first | refine blk_drewN ?_ _ | refine blk_drew ?_ | refine blk_alloc ?_ _)); exact BK510.out⟩, ⟨by (with_reducible repeat (first | refine blk_drewN ?_ _ | refine blk_drew ?_ | refine blk_alloc ?_ _)); exact BK517.out⟩, ⟨by repeat (first | (with_reducible first | exact HB.out | apply below_alloc | apply pw_below_drewN | apply below_drew1 | refine below_set ?_ GE510.out | refine below_set ?_ GE517.out) | exact HB.out)⟩⟩
                       ·rw [if_neg c71] at H
                        have c71b0 : (a1_3.toList == ([48] : List UInt8)) = false := beq_eq_false_iff_ne.mpr c71
                        have c71b1 : (a1_3.toList != ([48] : List UInt8)) = true := bne_iff_ne.mpr c71
                        by_cases c72 : a1_3.toList = ([94] : List UInt8)
                        ·rw [if_pos c72] at H
                         have c72b0 : (a1_3.toList == ([94] : List UInt8)) = true := beq_iff_eq.mpr c72
                         have c72b1 : (a1_3.toList != ([94] : List UInt8)) = false := bne_eq_false_iff_eq.mpr c72
                         clear c72
                         have H' := Aside0.mk H
                         clear H
                         go_wp2
                         go_meet
                         case rel => exact ⟨_, ((a1_3.toList == ([94] : List UInt8))), (by first | rfl | (simp; done) | (simp [*]; done)), H', ⟨by have := HJ5.out; have := HJ44.out; have := HJ48.out; have := HJ51.out; have := HJ54.out; first | omega | exact Nat.le_refl _⟩, ⟨by (with_reducible repeat (first | refine blk_drewN ?_ _ | refine blk_drew ?_ | refine blk_alloc ?_ _)); exact BK510.out⟩, ⟨by (with_reducible repeat (first | refine blk_drewN ?_ _ | refine blk_drew ?_ | refine blk_alloc ?_ _)); exact BK517.out⟩, ⟨by repeat (first | (with_reducible first | exact HB.out | apply below_alloc | apply pw_below_drewN | apply below_drew1 | refine below_set ?_ GE510.out | refine below_set ?_ GE517.out) | exact HB.out)⟩⟩
                        ·rw [if_neg c72] at H
                         have c72b0 : (a1_3.toList == ([94] : List UInt8)) = false := beq_eq_false_iff_ne.mpr c72
                         have c72b1 : (a1_3.toList != ([94] : List UInt8)) = true := bne_iff_ne.mpr c72
                         have H' := Aside0.mk H
                         clear H
                         go_wp2
                         go_meet
                         case rel => exact ⟨_, ((a1_3.toList == ([124] : List UInt8))), (by first | rfl | (simp; done) | (simp [*]; done)), H', ⟨by have := HJ5.out; have := HJ44.out; have := HJ48.out; have := HJ51.out; have := HJ54.out; first | omega | exact Nat.le_refl _⟩, ⟨by (with_reducible repeat (first | refine blk_drewN ?_ _ | refine blk_drew ?_ | refine blk_alloc ?_ _)); exact BK510.out⟩, ⟨by (with_reducible repeat (first | refine blk_drewN ?_ _ | refine blk_drew ?_ | refine blk_alloc ?_ _)); exact BK517.out⟩, ⟨by repeat (first | (with_reducible first | exact HB.out | apply below_alloc | apply pw_below_drewN | apply below_drew1 | refine below_set ?_ GE510.out | refine below_set ?_ GE517.out) | exact HB.out)⟩⟩
                  case rest => as_aux_lemma =>
                   clear HC66
                   try clear c1
                   try clear c2
                   try clear p2
                   try clear c3
                   try clear c4
                   try clear c5
                   try clear c6
                   try clear p6
                   try clear c7
                   try clear c10
                   try clear c12
                   try clear c13
                   try clear c14
                   try clear c14b0
                   try clear c15
                   try clear c17
                   try clear c17b0
                   try clear c18
                   try clear c20
                   try clear c20b0
                   try clear c21
                   try clear c23
                   try clear c23b0
                   try clear c24
                   try clear c26
                   try clear c28
                   try clear c29
                   try clear c29b0
                   try clear c29b1
                   try clear c30
                   try clear c30b0
                   try clear c30b1
                   try clear c30b2
                   try clear c31
                   try clear c33
                   try clear c39
                   try clear c46
                   try clear c46b0
                   try clear c46b1
                   try clear c47
                   try clear c47b0
                   try clear c47b1
                   try clear c48
                   try clear c50
                   try clear c50b0
                   try clear c50b1
                   try clear c51
                   try clear c53
                   try clear c53b0
                   try clear c53b1
                   try clear c54
                   try clear c56
                   try clear c56b0
                   try clear c56b1
                   try clear c57
                   try clear c58
                   try clear c58b0
                   try clear c58b1
                   try clear c59
                   try clear c59b0
                   try clear c59b1
                   try clear c60
                   try clear c62
                   try clear c64
                   try clear p64
                   try clear c67
                   try clear c67b0
                   try clear c67b1
                   try clear c68
                   try clear c68b0
                   try clear c68b1
                   try clear c69
                   try clear c69b0
                   try clear c69b1
                   try clear c70
                   try clear c70b0
                   try clear c70b1
                   try clear c71
                   try clear c71b0
                   try clear c71b1
                   try clear c72
                   try clear c72b0
                   try clear c72b1
                   try clear hcz13_0
                   try clear hcz13_1
                   try clear hcz13_2
                   try clear hcz16_0
                   try clear hcz16_1
                   try clear hcz16_2
                   try clear hcz16_3
                   try clear hcz19_0
                   try clear hcz19_1
                   try clear hcz19_2
                   try clear hcz19_3
                   try clear hcz22_0
                   try clear hcz22_1
                   try clear hcz22_2
                   try clear hcz22_3
                   try clear hcz25_0
                   try clear hcz25_1
                   try clear hcz25_2
                   try clear hcz25_3
                   try clear hcz27_0
                   try clear hcz27_1
                   try clear hcz27_2
                   try clear hcz27_3
                   try clear hcz32_0
                   try clear hcz32_1
                   try clear hcz32_2
                   try clear hcz34_0
                   try clear hcz34_1
                   try clear hcz34_2
                   try clear hcz40_0
                   try clear hcz40_1
                   try clear hcz40_2
                   try clear hcz40_3
                   try clear hcz44_0
                   try clear hcz44_1
                   try clear hcz44_2
                   try clear hcz44_3
                   try clear hcz61_0
                   try clear hcz61_1
                   try clear hcz61_2
                   try clear hcz61_3
                   try clear hcz63_0
                   try clear hcz63_1
                   try clear hcz63_2
                   try clear hcz63_3
                   try clear hcz65_0
                   try clear hcz65_1
                   try clear hcz65_2
                   try clear hcz65_3
                   try clear hcz9_0
                   try clear hcz9_1
                   try clear hcz9_2
                   try clear hcz9_3
                   try clear hfz13_0
                   try clear hfz13_1
                   try clear hfz13_2
                   try clear hfz16_0
                   try clear hfz16_1
                   try clear hfz16_2
                   try clear hfz16_3
                   try clear hfz19_0
                   try clear hfz19_1
                   try clear hfz19_2
                   try clear hfz19_3
                   try clear hfz22_0
                   try clear hfz22_1
                   try clear hfz22_2
                   try clear hfz22_3
                   try clear hfz25_0
                   try clear hfz25_1
                   try clear hfz25_2
                   try clear hfz25_3
                   try clear hfz27_0
                   try clear hfz27_1
                   try clear hfz27_2
                   try clear hfz27_3
                   try clear hfz32_0
                   try clear hfz32_1
                   try clear hfz32_2
                   try clear hfz34_0
                   try clear hfz34_1
                   try clear hfz34_2
                   try clear hfz40_0
                   try clear hfz40_1
                   try clear hfz40_2
                   try clear hfz40_3
                   try clear hfz44_0
                   try clear hfz44_1
                   try clear hfz44_2
                   try clear hfz44_3
                   try clear hfz61_0
                   try clear hfz61_1
                   try clear hfz61_2
                   try clear hfz61_3
                   try clear hfz63_0
                   try clear hfz63_1
                   try clear hfz63_2
                   try clear hfz63_3
                   try clear hfz65_0
                   try clear hfz65_1
                   try clear hfz65_2
                   try clear hfz65_3
                   try clear hfz9_0
                   try clear hfz9_1
                   try clear hfz9_2
                   try clear hfz9_3
                   try clear p2
                   try clear p6
                   obtain ⟨kq, x129_65, rfl, HA, HJ65, BK510, BK517, HB⟩ := hcut
                   cases kq with
                   | zero => exact absurd HA.out (by simp [quoinlaw07_StepPlaces.j5])
                   | succ kj65 =>
                    have H := HA.out
                    clear HA
                    simp only [quoinlaw07_StepPlaces.j5] at H
                    by_cases c73 : x129_65 = true
                    ·subst c73
                     have H1 : (if t516 = 0 then (if t519 = 0 then (if t512 = a1_0 then (if t513 ≥ 0 then (if t513 ≤ (l0.length : Int) then (if t514 = 1 then (if a1_3.toList = ([124] : List UInt8) then (if t515 = (wrap64 (ji37 - 1)) then (some true) else (some false)) else ((quoinlaw07_column.f kj65 l0 t513).bind fun t521 => (some (t521 == t515)))) else (some false)) else (some false)) else (some false)) else (some false)) else (some false)) else (if t516 = 70 then (if (t512 == 0 && (t513 == 0 && (t514 == 0))) = true then (if t515 = 0 then (if a1_3.toList = ([48] : List UInt8) then (some false) else (if a1_3.toList = ([94] : List UInt8) then (some false) else (some (a1_3.toList != ([124] : List UInt8))))) else (some false)) else (some false)) else (some false))) = some r := by rw [if_pos rfl] at H; exact H
                     clear H
                     have H := H1
                     clear H1
                     by_cases c74 : t516 = 0
                     ·rw [if_pos c74] at H
                      have c74b0 : (t516 == 0) = true := beq_iff_eq.mpr c74
                      have c74b1 : (t516 != 0) = false := bne_eq_false_iff_eq.mpr c74
                      clear c74
                      by_cases c75 : t519 = 0
                      ·rw [if_pos c75] at H
                       have c75b0 : (t519 == 0) = true := beq_iff_eq.mpr c75
                       have c75b1 : (t519 != 0) = false := bne_eq_false_iff_eq.mpr c75
                       clear c75
                       by_cases c76 : t512 = a1_0
                       ·rw [if_pos c76] at H
                        have c76b0 : (t512 == a1_0) = true := beq_iff_eq.mpr c76
                        have c76b1 : (t512 != a1_0) = false := bne_eq_false_iff_eq.mpr c76
                        clear c76
                        by_cases c77 : t513 ≥ 0
                        ·rw [if_pos c77] at H
                         have c77b0 : decide (0 ≤ t513) = true := decide_eq_true c77
                         clear c77
                         by_cases c78 : t513 ≤ (l0.length : Int)
                         ·rw [if_pos c78] at H
                          have c78b0 : decide (t513 ≤ (l0.length : Int)) = true := decide_eq_true c78
                          clear c78
                          by_cases c79 : t514 = 1
                          ·rw [if_pos c79] at H
                           have c79b0 : (t514 == 1) = true := beq_iff_eq.mpr c79
                           have c79b1 : (t514 != 1) = false := bne_eq_false_iff_eq.mpr c79
                           clear c79
                           by_cases c80 : a1_3.toList = ([124] : List UInt8)
                           ·rw [if_pos c80] at H
                            have c80b0 : (a1_3.toList == ([124] : List UInt8)) = true := beq_iff_eq.mpr c80
                            have c80b1 : (a1_3.toList != ([124] : List UInt8)) = false := bne_eq_false_iff_eq.mpr c80
                            clear c80
                            by_cases c81 : t515 = (wrap64 (ji37 - 1))
                            ·rw [if_pos c81] at H
                             have c81b0 : (t515 == (wrap64 (ji37 - 1))) = true := beq_iff_eq.mpr c81
                             have c81b1 : (t515 != (wrap64 (ji37 - 1))) = false := bne_eq_false_iff_eq.mpr c81
                             clear c81
                             obtain rfl := Option.some.inj H
                             have hnb82 := NB517_510.out
                             have hnc82 := NB510_517.out
                             have hcz83_0 : wc.cell? ⟨gb517, 0, none⟩ = some (.int .i64 t512) := (blk_cell BK517.out 0).trans rfl
                             have hcz83_1 : wc.cell? ⟨gb517, 1, none⟩ = some (.int .i64 t513) := (blk_cell BK517.out 1).trans rfl
                             have hcz83_2 : wc.cell? ⟨gb517, 2, none⟩ = some (.int .i64 t514) := (blk_cell BK517.out 2).trans rfl
                             have hfz83_0 := blk_frozen BK517.out 0
                             have hfz83_1 := blk_frozen BK517.out 1
                             have hfz83_2 := blk_frozen BK517.out 2
                             have hcz84_0 : wc.cell? ⟨gb510, 0, none⟩ = some (.int .i64 a1_0) := (blk_cell BK510.out 0).trans rfl
                             have hcz84_1 : wc.cell? ⟨gb510, 1, none⟩ = some (.int .i64 a1_1) := (blk_cell BK510.out 1).trans rfl
                             have hcz84_2 : wc.cell? ⟨gb510, 2, none⟩ = some (.int .i64 a1_2) := (blk_cell BK510.out 2).trans rfl
                             have hcz84_3 : wc.cell? ⟨gb510, 3, none⟩ = some (.string a1_3) := (blk_cell BK510.out 3).trans rfl
                             have hfz84_0 := blk_frozen BK510.out 0
                             have hfz84_1 := blk_frozen BK510.out 1
                             have hfz84_2 := blk_frozen BK510.out 2
                             have hfz84_3 := blk_frozen BK510.out 3
                             go_wp2
                             go_ret
                             exact ⟨by first | rfl | (simp [errW_none, errW_some] <;> rfl) | (simp only [← hji37]; first | rfl | (simp [errW_none, errW_some] <;> rfl)) | (simp [*, errW_none, errW_some] <;> rfl), by repeat (first | (with_reducible first | exact HB.out | apply below_alloc | apply pw_below_drewN | apply below_drew1 | refine below_set ?_ GE510.out | refine below_set ?_ GE517.out) | exact HB.out)⟩
                            ·rw [if_neg c81] at H
                             have c81b0 : (t515 == (wrap64 (ji37 - 1))) = false := beq_eq_false_iff_ne.mpr c81
                             have c81b1 : (t515 != (wrap64 (ji37 - 1))) = true := bne_iff_ne.mpr c81
                             obtain rfl := Option.some.inj H
                             have hnb85 := NB517_510.out
                             have hnc85 := NB510_517.out
                             have hcz86_0 : wc.cell? ⟨gb517, 0, none⟩ = some (.int .i64 t512) := (blk_cell BK517.out 0).trans rfl
                             have hcz86_1 : wc.cell? ⟨gb517, 1, none⟩ = some (.int .i64 t513) := (blk_cell BK517.out 1).trans rfl
                             have hcz86_2 : wc.cell? ⟨gb517, 2, none⟩ = some (.int .i64 t514) := (blk_cell BK517.out 2).trans rfl
                             have hfz86_0 := blk_frozen BK517.out 0
                             have hfz86_1 := blk_frozen BK517.out 1
                             have hfz86_2 := blk_frozen BK517.out 2
                             have hcz87_0 : wc.cell? ⟨gb510, 0, none⟩ = some (.int .i64 a1_0) := (blk_cell BK510.out 0).trans rfl
                             have hcz87_1 : wc.cell? ⟨gb510, 1, none⟩ = some (.int .i64 a1_1) := (blk_cell BK510.out 1).trans rfl
                             have hcz87_2 : wc.cell? ⟨gb510, 2, none⟩ = some (.int .i64 a1_2) := (blk_cell BK510.out 2).trans rfl
                             have hcz87_3 : wc.cell? ⟨gb510, 3, none⟩ = some (.string a1_3) := (blk_cell BK510.out 3).trans rfl
                             have hfz87_0 := blk_frozen BK510.out 0
                             have hfz87_1 := blk_frozen BK510.out 1
                             have hfz87_2 := blk_frozen BK510.out 2
                             have hfz87_3 := blk_frozen BK510.out 3
                             go_wp2
                             go_ret
                             exact ⟨by first | rfl | (simp [errW_none, errW_some] <;> rfl) | (simp only [← hji37]; first | rfl | (simp [errW_none, errW_some] <;> rfl)) | (simp [*, errW_none, errW_some] <;> rfl), by repeat (first | (with_reducible first | exact HB.out | apply below_alloc | apply pw_below_drewN | apply below_drew1 | refine below_set ?_ GE510.out | refine below_set ?_ GE517.out) | exact HB.out)⟩
                           ·rw [if_neg c80] at H
                            have c80b0 : (a1_3.toList == ([124] : List UInt8)) = false := beq_eq_false_iff_ne.mpr c80
                            have c80b1 : (a1_3.toList != ([124] : List UInt8)) = true := bne_iff_ne.mpr c80
                            replace H := Option.bind_eq_some_iff.mp H
                            obtain ⟨t521, A880, H⟩ := H
                            replace H : (some (t521 == t515)) = some r := H
                            have A88 := Aside0.mk A880
                            clear A880
                            obtain rfl := Option.some.inj H
                            have hnb89 := NB517_510.out
                            have hnc89 := NB510_517.out
                            have hcz90_0 : wc.cell? ⟨gb517, 0, none⟩ = some (.int .i64 t512) := (blk_cell BK517.out 0).trans rfl
                            have hcz90_1 : wc.cell? ⟨gb517, 1, none⟩ = some (.int .i64 t513) := (blk_cell BK517.out 1).trans rfl
                            have hcz90_2 : wc.cell? ⟨gb517, 2, none⟩ = some (.int .i64 t514) := (blk_cell BK517.out 2).trans rfl
                            have hfz90_0 := blk_frozen BK517.out 0
                            have hfz90_1 := blk_frozen BK517.out 1
                            have hfz90_2 := blk_frozen BK517.out 2
                            have hcz91_0 : wc.cell? ⟨gb510, 0, none⟩ = some (.int .i64 a1_0) := (blk_cell BK510.out 0).trans rfl
                            have hcz91_1 : wc.cell? ⟨gb510, 1, none⟩ = some (.int .i64 a1_1) := (blk_cell BK510.out 1).trans rfl
                            have hcz91_2 : wc.cell? ⟨gb510, 2, none⟩ = some (.int .i64 a1_2) := (blk_cell BK510.out 2).trans rfl
                            have hcz91_3 : wc.cell? ⟨gb510, 3, none⟩ = some (.string a1_3) := (blk_cell BK510.out 3).trans rfl
                            have hfz91_0 := blk_frozen BK510.out 0
                            have hfz91_1 := blk_frozen BK510.out 1
                            have hfz91_2 := blk_frozen BK510.out 2
                            have hfz91_3 := blk_frozen BK510.out 3
                            go_wp2_with (first | (go_at_call 18; (with_reducible refine (quoinlaw07_column.calls kj65 _ _ l0 t513 t521 _ ?side1 ?side2 A88.out).mono ?_); (case side1 => repeat (first | exact (Kd.C_below HR0.out HB.out) | (with_reducible refine Kd.C_alloc ?_ _) | (with_reducible refine Kd.C_drewN ?_ _) | (with_reducible refine Kd.C_drew ?_))); (case side2 => exact HC0.out); rintro e w' ⟨rfl, ⟨nd, rfl⟩⟩))
                            go_ret
                            exact ⟨by first | rfl | (simp [errW_none, errW_some] <;> rfl) | (simp only [← hji37]; first | rfl | (simp [errW_none, errW_some] <;> rfl)) | (simp [*, errW_none, errW_some] <;> rfl), by repeat (first | (with_reducible first | exact HB.out | apply below_alloc | apply pw_below_drewN | apply below_drew1 | refine below_set ?_ GE510.out | refine below_set ?_ GE517.out) | exact HB.out)⟩
                          ·rw [if_neg c79] at H
                           have c79b0 : (t514 == 1) = false := beq_eq_false_iff_ne.mpr c79
                           have c79b1 : (t514 != 1) = true := bne_iff_ne.mpr c79
                           obtain rfl := Option.some.inj H
                           have hnb92 := NB517_510.out
                           have hnc92 := NB510_517.out
                           have hcz93_0 : wc.cell? ⟨gb517, 0, none⟩ = some (.int .i64 t512) := (blk_cell BK517.out 0).trans rfl
                           have hcz93_1 : wc.cell? ⟨gb517, 1, none⟩ = some (.int .i64 t513) := (blk_cell BK517.out 1).trans rfl
                           have hcz93_2 : wc.cell? ⟨gb517, 2, none⟩ = some (.int .i64 t514) := (blk_cell BK517.out 2).trans rfl
                           have hfz93_0 := blk_frozen BK517.out 0
                           have hfz93_1 := blk_frozen BK517.out 1
                           have hfz93_2 := blk_frozen BK517.out 2
                           have hcz94_0 : wc.cell? ⟨gb510, 0, none⟩ = some (.int .i64 a1_0) := (blk_cell BK510.out 0).trans rfl
                           have hcz94_1 : wc.cell? ⟨gb510, 1, none⟩ = some (.int .i64 a1_1) := (blk_cell BK510.out 1).trans rfl
                           have hcz94_2 : wc.cell? ⟨gb510, 2, none⟩ = some (.int .i64 a1_2) := (blk_cell BK510.out 2).trans rfl
                           have hcz94_3 : wc.cell? ⟨gb510, 3, none⟩ = some (.string a1_3) := (blk_cell BK510.out 3).trans rfl
                           have hfz94_0 := blk_frozen BK510.out 0
                           have hfz94_1 := blk_frozen BK510.out 1
                           have hfz94_2 := blk_frozen BK510.out 2
                           have hfz94_3 := blk_frozen BK510.out 3
                           go_wp2
                           go_ret
                           exact ⟨by first | rfl | (simp [errW_none, errW_some] <;> rfl) | (simp only [← hji37]; first | rfl | (simp [errW_none, errW_some] <;> rfl)) | (simp [*, errW_none, errW_some] <;> rfl), by repeat (first | (with_reducible first | exact HB.out | apply below_alloc | apply pw_below_drewN | apply below_drew1 | refine below_set ?_ GE510.out | refine below_set ?_ GE517.out) | exact HB.out)⟩
                         ·rw [if_neg c78] at H
                          have c78b0 : decide (t513 ≤ (l0.length : Int)) = false := decide_eq_false c78
                          clear c78
                          obtain rfl := Option.some.inj H
                          have hnb95 := NB517_510.out
                          have hnc95 := NB510_517.out
                          have hcz96_0 : wc.cell? ⟨gb517, 0, none⟩ = some (.int .i64 t512) := (blk_cell BK517.out 0).trans rfl
                          have hcz96_1 : wc.cell? ⟨gb517, 1, none⟩ = some (.int .i64 t513) := (blk_cell BK517.out 1).trans rfl
                          have hcz96_2 : wc.cell? ⟨gb517, 2, none⟩ = some (.int .i64 t514) := (blk_cell BK517.out 2).trans rfl
                          have hfz96_0 := blk_frozen BK517.out 0
                          have hfz96_1 := blk_frozen BK517.out 1
                          have hfz96_2 := blk_frozen BK517.out 2
                          have hcz97_0 : wc.cell? ⟨gb510, 0, none⟩ = some (.int .i64 a1_0) := (blk_cell BK510.out 0).trans rfl
                          have hcz97_1 : wc.cell? ⟨gb510, 1, none⟩ = some (.int .i64 a1_1) := (blk_cell BK510.out 1).trans rfl
                          have hcz97_2 : wc.cell? ⟨gb510, 2, none⟩ = some (.int .i64 a1_2) := (blk_cell BK510.out 2).trans rfl
                          have hcz97_3 : wc.cell? ⟨gb510, 3, none⟩ = some (.string a1_3) := (blk_cell BK510.out 3).trans rfl
                          have hfz97_0 := blk_frozen BK510.out 0
                          have hfz97_1 := blk_frozen BK510.out 1
                          have hfz97_2 := blk_frozen BK510.out 2
                          have hfz97_3 := blk_frozen BK510.out 3
                          go_wp2
                          go_ret
                          exact ⟨by first | rfl | (simp [errW_none, errW_some] <;> rfl) | (simp only [← hji37]; first | rfl | (simp [errW_none, errW_some] <;> rfl)) | (simp [*, errW_none, errW_some] <;> rfl), by repeat (first | (with_reducible first | exact HB.out | apply below_alloc | apply pw_below_drewN | apply below_drew1 | refine below_set ?_ GE510.out | refine below_set ?_ GE517.out) | exact HB.out)⟩
                        ·rw [if_neg c77] at H
                         have c77b0 : decide (0 ≤ t513) = false := decide_eq_false c77
                         clear c77
                         obtain rfl := Option.some.inj H
                         have hnb98 := NB517_510.out
                         have hnc98 := NB510_517.out
                         have hcz99_0 : wc.cell? ⟨gb517, 0, none⟩ = some (.int .i64 t512) := (blk_cell BK517.out 0).trans rfl
                         have hcz99_1 : wc.cell? ⟨gb517, 1, none⟩ = some (.int .i64 t513) := (blk_cell BK517.out 1).trans rfl
                         have hcz99_2 : wc.cell? ⟨gb517, 2, none⟩ = some (.int .i64 t514) := (blk_cell BK517.out 2).trans rfl
                         have hfz99_0 := blk_frozen BK517.out 0
                         have hfz99_1 := blk_frozen BK517.out 1
                         have hfz99_2 := blk_frozen BK517.out 2
                         have hcz100_0 : wc.cell? ⟨gb510, 0, none⟩ = some (.int .i64 a1_0) := (blk_cell BK510.out 0).trans rfl
                         have hcz100_1 : wc.cell? ⟨gb510, 1, none⟩ = some (.int .i64 a1_1) := (blk_cell BK510.out 1).trans rfl
                         have hcz100_2 : wc.cell? ⟨gb510, 2, none⟩ = some (.int .i64 a1_2) := (blk_cell BK510.out 2).trans rfl
                         have hcz100_3 : wc.cell? ⟨gb510, 3, none⟩ = some (.string a1_3) := (blk_cell BK510.out 3).trans rfl
                         have hfz100_0 := blk_frozen BK510.out 0
                         have hfz100_1 := blk_frozen BK510.out 1
                         have hfz100_2 := blk_frozen BK510.out 2
                         have hfz100_3 := blk_frozen BK510.out 3
                         go_wp2
                         go_ret
                         exact ⟨by first | rfl | (simp [errW_none, errW_some] <;> rfl) | (simp only [← hji37]; first | rfl | (simp [errW_none, errW_some] <;> rfl)) | (simp [*, errW_none, errW_some] <;> rfl), by repeat (first | (with_reducible first | exact HB.out | apply below_alloc | apply pw_below_drewN | apply below_drew1 | refine below_set ?_ GE510.out | refine below_set ?_ GE517.out) | exact HB.out)⟩
                       ·rw [if_neg c76] at H
                        have c76b0 : (t512 == a1_0) = false := beq_eq_false_iff_ne.mpr c76
                        have c76b1 : (t512 != a1_0) = true := bne_iff_ne.mpr c76
                        obtain rfl := Option.some.inj H
                        have hnb101 := NB517_510.out
                        have hnc101 := NB510_517.out
                        have hcz102_0 : wc.cell? ⟨gb517, 0, none⟩ = some (.int .i64 t512) := (blk_cell BK517.out 0).trans rfl
                        have hcz102_1 : wc.cell? ⟨gb517, 1, none⟩ = some (.int .i64 t513) := (blk_cell BK517.out 1).trans rfl
                        have hcz102_2 : wc.cell? ⟨gb517, 2, none⟩ = some (.int .i64 t514) := (blk_cell BK517.out 2).trans rfl
                        have hfz102_0 := blk_frozen BK517.out 0
                        have hfz102_1 := blk_frozen BK517.out 1
                        have hfz102_2 := blk_frozen BK517.out 2
                        have hcz103_0 : wc.cell? ⟨gb510, 0, none⟩ = some (.int .i64 a1_0) := (blk_cell BK510.out 0).trans rfl
                        have hcz103_1 : wc.cell? ⟨gb510, 1, none⟩ = some (.int .i64 a1_1) := (blk_cell BK510.out 1).trans rfl
                        have hcz103_2 : wc.cell? ⟨gb510, 2, none⟩ = some (.int .i64 a1_2) := (blk_cell BK510.out 2).trans rfl
                        have hcz103_3 : wc.cell? ⟨gb510, 3, none⟩ = some (.string a1_3) := (blk_cell BK510.out 3).trans rfl
                        have hfz103_0 := blk_frozen BK510.out 0
                        have hfz103_1 := blk_frozen BK510.out 1
                        have hfz103_2 := blk_frozen BK510.out 2
                        have hfz103_3 := blk_frozen BK510.out 3
                        go_wp2
                        go_ret
                        exact ⟨by first | rfl | (simp [errW_none, errW_some] <;> rfl) | (simp only [← hji37]; first | rfl | (simp [errW_none, errW_some] <;> rfl)) | (simp [*, errW_none, errW_some] <;> rfl), by repeat (first | (with_reducible first | exact HB.out | apply below_alloc | apply pw_below_drewN | apply below_drew1 | refine below_set ?_ GE510.out | refine below_set ?_ GE517.out) | exact HB.out)⟩
                      ·rw [if_neg c75] at H
                       have c75b0 : (t519 == 0) = false := beq_eq_false_iff_ne.mpr c75
                       have c75b1 : (t519 != 0) = true := bne_iff_ne.mpr c75
                       obtain rfl := Option.some.inj H
                       go_wp2
                       go_ret
                       exact ⟨by first | rfl | (simp [errW_none, errW_some] <;> rfl) | (simp only [← hji37]; first | rfl | (simp [errW_none, errW_some] <;> rfl)) | (simp [*, errW_none, errW_some] <;> rfl), by repeat (first | (with_reducible first | exact HB.out | apply below_alloc | apply pw_below_drewN | apply below_drew1 | refine below_set ?_ GE510.out | refine below_set ?_ GE517.out) | exact HB.out)⟩
                     ·rw [if_neg c74] at H
                      have c74b0 : (t516 == 0) = false := beq_eq_false_iff_ne.mpr c74
                      have c74b1 : (t516 != 0) = true := bne_iff_ne.mpr c74
                      by_cases c104 : t516 = 70
                      ·rw [if_pos c104] at H
                       have c104b0 : (t516 == 70) = true := beq_iff_eq.mpr c104
                       have c104b1 : (t516 != 70) = false := bne_eq_false_iff_eq.mpr c104
                       clear c104
                       by_cases c105 : (t512 == 0 && (t513 == 0 && (t514 == 0))) = true
                       ·rw [if_pos c105] at H
                        have c105b0 : (t512 == 0 && (t513 == 0 && (t514 == 0))) = true := c105
                        (try (have c105b1 : decide (t512 = 0 && (t513 == 0 && (t514 == 0))) = true := by simpa using c105))
                        (try (have c105b2 : (t512 == 0 && (t513 == 0 && (t514 == 0))) = true := by simpa using c105))
                        clear c105
                        by_cases c106 : t515 = 0
                        ·rw [if_pos c106] at H
                         have c106b0 : (t515 == 0) = true := beq_iff_eq.mpr c106
                         have c106b1 : (t515 != 0) = false := bne_eq_false_iff_eq.mpr c106
                         clear c106
                         by_cases c107 : a1_3.toList = ([48] : List UInt8)
                         ·rw [if_pos c107] at H
                          have c107b0 : (a1_3.toList == ([48] : List UInt8)) = true := beq_iff_eq.mpr c107
                          have c107b1 : (a1_3.toList != ([48] : List UInt8)) = false := bne_eq_false_iff_eq.mpr c107
                          clear c107
                          obtain rfl := Option.some.inj H
                          have hnb108 := NB517_510.out
                          have hnc108 := NB510_517.out
                          have hcz109_0 : wc.cell? ⟨gb517, 0, none⟩ = some (.int .i64 t512) := (blk_cell BK517.out 0).trans rfl
                          have hcz109_1 : wc.cell? ⟨gb517, 1, none⟩ = some (.int .i64 t513) := (blk_cell BK517.out 1).trans rfl
                          have hcz109_2 : wc.cell? ⟨gb517, 2, none⟩ = some (.int .i64 t514) := (blk_cell BK517.out 2).trans rfl
                          have hfz109_0 := blk_frozen BK517.out 0
                          have hfz109_1 := blk_frozen BK517.out 1
                          have hfz109_2 := blk_frozen BK517.out 2
                          have hcz110_0 : wc.cell? ⟨gb510, 0, none⟩ = some (.int .i64 a1_0) := (blk_cell BK510.out 0).trans rfl
                          have hcz110_1 : wc.cell? ⟨gb510, 1, none⟩ = some (.int .i64 a1_1) := (blk_cell BK510.out 1).trans rfl
                          have hcz110_2 : wc.cell? ⟨gb510, 2, none⟩ = some (.int .i64 a1_2) := (blk_cell BK510.out 2).trans rfl
                          have hcz110_3 : wc.cell? ⟨gb510, 3, none⟩ = some (.string a1_3) := (blk_cell BK510.out 3).trans rfl
                          have hfz110_0 := blk_frozen BK510.out 0
                          have hfz110_1 := blk_frozen BK510.out 1
                          have hfz110_2 := blk_frozen BK510.out 2
                          have hfz110_3 := blk_frozen BK510.out 3
                          go_wp2
                          go_ret
                          exact ⟨by first | rfl | (simp [errW_none, errW_some] <;> rfl) | (simp only [← hji37]; first | rfl | (simp [errW_none, errW_some] <;> rfl)) | (simp [*, errW_none, errW_some] <;> rfl), by repeat (first | (with_reducible first | exact HB.out | apply below_alloc | apply pw_below_drewN | apply below_drew1 | refine below_set ?_ GE510.out | refine below_set ?_ GE517.out) | exact HB.out)⟩
                         ·rw [if_neg c107] at H
                          have c107b0 : (a1_3.toList == ([48] : List UInt8)) = false := beq_eq_false_iff_ne.mpr c107
                          have c107b1 : (a1_3.toList != ([48] : List UInt8)) = true := bne_iff_ne.mpr c107
                          by_cases c111 : a1_3.toList = ([94] : List UInt8)
                          ·rw [if_pos c111] at H
                           have c111b0 : (a1_3.toList == ([94] : List UInt8)) = true := beq_iff_eq.mpr c111
                           have c111b1 : (a1_3.toList != ([94] : List UInt8)) = false := bne_eq_false_iff_eq.mpr c111
                           clear c111
                           obtain rfl := Option.some.inj H
                           have hnb112 := NB517_510.out
                           have hnc112 := NB510_517.out
                           have hcz113_0 : wc.cell? ⟨gb517, 0, none⟩ = some (.int .i64 t512) := (blk_cell BK517.out 0).trans rfl
                           have hcz113_1 : wc.cell? ⟨gb517, 1, none⟩ = some (.int .i64 t513) := (blk_cell BK517.out 1).trans rfl
                           have hcz113_2 : wc.cell? ⟨gb517, 2, none⟩ = some (.int .i64 t514) := (blk_cell BK517.out 2).trans rfl
                           have hfz113_0 := blk_frozen BK517.out 0
                           have hfz113_1 := blk_frozen BK517.out 1
                           have hfz113_2 := blk_frozen BK517.out 2
                           have hcz114_0 : wc.cell? ⟨gb510, 0, none⟩ = some (.int .i64 a1_0) := (blk_cell BK510.out 0).trans rfl
                           have hcz114_1 : wc.cell? ⟨gb510, 1, none⟩ = some (.int .i64 a1_1) := (blk_cell BK510.out 1).trans rfl
                           have hcz114_2 : wc.cell? ⟨gb510, 2, none⟩ = some (.int .i64 a1_2) := (blk_cell BK510.out 2).trans rfl
                           have hcz114_3 : wc.cell? ⟨gb510, 3, none⟩ = some (.string a1_3) := (blk_cell BK510.out 3).trans rfl
                           have hfz114_0 := blk_frozen BK510.out 0
                           have hfz114_1 := blk_frozen BK510.out 1
                           have hfz114_2 := blk_frozen BK510.out 2
                           have hfz114_3 := blk_frozen BK510.out 3
                           go_wp2
                           go_ret
                           exact ⟨by first | rfl | (simp [errW_none, errW_some] <;> rfl) | (simp only [← hji37]; first | rfl | (simp [errW_none, errW_some] <;> rfl)) | (simp [*, errW_none, errW_some] <;> rfl), by repeat (first | (with_reducible first | exact HB.out | apply below_alloc | apply pw_below_drewN | apply below_drew1 | refine below_set ?_ GE510.out | refine below_set ?_ GE517.out) | exact HB.out)⟩
                          ·rw [if_neg c111] at H
                           have c111b0 : (a1_3.toList == ([94] : List UInt8)) = false := beq_eq_false_iff_ne.mpr c111
                           have c111b1 : (a1_3.toList != ([94] : List UInt8)) = true := bne_iff_ne.mpr c111
                           obtain rfl := Option.some.inj H
                           have hnb115 := NB517_510.out
                           have hnc115 := NB510_517.out
                           have hcz116_0 : wc.cell? ⟨gb517, 0, none⟩ = some (.int .i64 t512) := (blk_cell BK517.out 0).trans rfl
                           have hcz116_1 : wc.cell? ⟨gb517, 1, none⟩ = some (.int .i64 t513) := (blk_cell BK517.out 1).trans rfl
                           have hcz116_2 : wc.cell? ⟨gb517, 2, none⟩ = some (.int .i64 t514) := (blk_cell BK517.out 2).trans rfl
                           have hfz116_0 := blk_frozen BK517.out 0
                           have hfz116_1 := blk_frozen BK517.out 1
                           have hfz116_2 := blk_frozen BK517.out 2
                           have hcz117_0 : wc.cell? ⟨gb510, 0, none⟩ = some (.int .i64 a1_0) := (blk_cell BK510.out 0).trans rfl
                           have hcz117_1 : wc.cell? ⟨gb510, 1, none⟩ = some (.int .i64 a1_1) := (blk_cell BK510.out 1).trans rfl
                           have hcz117_2 : wc.cell? ⟨gb510, 2, none⟩ = some (.int .i64 a1_2) := (blk_cell BK510.out 2).trans rfl
                           have hcz117_3 : wc.cell? ⟨gb510, 3, none⟩ = some (.string a1_3) := (blk_cell BK510.out 3).trans rfl
                           have hfz117_0 := blk_frozen BK510.out 0
                           have hfz117_1 := blk_frozen BK510.out 1
                           have hfz117_2 := blk_frozen BK510.out 2
                           have hfz117_3 := blk_frozen BK510.out 3
                           go_wp2
                           go_ret
                           exact ⟨by first | rfl | (simp [errW_none, errW_some] <;> rfl) | (simp only [← hji37]; first | rfl | (simp [errW_none, errW_some] <;> rfl)) | (simp [*, errW_none, errW_some] <;> rfl), by repeat (first | (with_reducible first | exact HB.out | apply below_alloc | apply pw_below_drewN | apply below_drew1 | refine below_set ?_ GE510.out | refine below_set ?_ GE517.out) | exact HB.out)⟩
                        ·rw [if_neg c106] at H
                         have c106b0 : (t515 == 0) = false := beq_eq_false_iff_ne.mpr c106
                         have c106b1 : (t515 != 0) = true := bne_iff_ne.mpr c106
                         obtain rfl := Option.some.inj H
                         have hnb118 := NB517_510.out
                         have hnc118 := NB510_517.out
                         have hcz119_0 : wc.cell? ⟨gb517, 0, none⟩ = some (.int .i64 t512) := (blk_cell BK517.out 0).trans rfl
                         have hcz119_1 : wc.cell? ⟨gb517, 1, none⟩ = some (.int .i64 t513) := (blk_cell BK517.out 1).trans rfl
                         have hcz119_2 : wc.cell? ⟨gb517, 2, none⟩ = some (.int .i64 t514) := (blk_cell BK517.out 2).trans rfl
                         have hfz119_0 := blk_frozen BK517.out 0
                         have hfz119_1 := blk_frozen BK517.out 1
                         have hfz119_2 := blk_frozen BK517.out 2
                         go_wp2
                         go_ret
                         exact ⟨by first | rfl | (simp [errW_none, errW_some] <;> rfl) | (simp only [← hji37]; first | rfl | (simp [errW_none, errW_some] <;> rfl)) | (simp [*, errW_none, errW_some] <;> rfl), by repeat (first | (with_reducible first | exact HB.out | apply below_alloc | apply pw_below_drewN | apply below_drew1 | refine below_set ?_ GE510.out | refine below_set ?_ GE517.out) | exact HB.out)⟩
                       ·rw [if_neg c105] at H
                        have c105b0 : (t512 == 0 && (t513 == 0 && (t514 == 0))) = false := by simpa using c105
                        (try (have c105b1 : decide (t512 = 0 && (t513 == 0 && (t514 == 0))) = false := by simpa using c105))
                        (try (have c105b2 : (t512 == 0 && (t513 == 0 && (t514 == 0))) = false := by simpa using c105))
                        (try (have c105b3 : ¬ (t512 = 0 && (t513 == 0 && (t514 == 0))) := by simpa using c105))
                        clear c105
                        obtain rfl := Option.some.inj H
                        have hnb120 := NB517_510.out
                        have hnc120 := NB510_517.out
                        have hcz121_0 : wc.cell? ⟨gb517, 0, none⟩ = some (.int .i64 t512) := (blk_cell BK517.out 0).trans rfl
                        have hcz121_1 : wc.cell? ⟨gb517, 1, none⟩ = some (.int .i64 t513) := (blk_cell BK517.out 1).trans rfl
                        have hcz121_2 : wc.cell? ⟨gb517, 2, none⟩ = some (.int .i64 t514) := (blk_cell BK517.out 2).trans rfl
                        have hfz121_0 := blk_frozen BK517.out 0
                        have hfz121_1 := blk_frozen BK517.out 1
                        have hfz121_2 := blk_frozen BK517.out 2
                        go_wp2
                        go_ret
                        exact ⟨by first | rfl | (simp [errW_none, errW_some] <;> rfl) | (simp only [← hji37]; first | rfl | (simp [errW_none, errW_some] <;> rfl)) | (simp [*, errW_none, errW_some] <;> rfl), by repeat (first | (with_reducible first | exact HB.out | apply below_alloc | apply pw_below_drewN | apply below_drew1 | refine below_set ?_ GE510.out | refine below_set ?_ GE517.out) | exact HB.out)⟩
                      ·rw [if_neg c104] at H
                       have c104b0 : (t516 == 70) = false := beq_eq_false_iff_ne.mpr c104
                       have c104b1 : (t516 != 70) = true := bne_iff_ne.mpr c104
                       obtain rfl := Option.some.inj H
                       go_wp2
                       go_ret
                       exact ⟨by first | rfl | (simp [errW_none, errW_some] <;> rfl) | (simp only [← hji37]; first | rfl | (simp [errW_none, errW_some] <;> rfl)) | (simp [*, errW_none, errW_some] <;> rfl), by repeat (first | (with_reducible first | exact HB.out | apply below_alloc | apply pw_below_drewN | apply below_drew1 | refine below_set ?_ GE510.out | refine below_set ?_ GE517.out) | exact HB.out)⟩
                    ·replace c73 := Bool.eq_false_iff.mpr c73
                     subst c73
                     have H1 : (if t516 = 2 then (if (t512 == 0 && (t513 == 0 && (t514 == 0))) = true then (some (t515 == 0)) else (some false)) else (some false)) = some r := by rw [if_neg (show ¬ (false = true) by decide)] at H; exact H
                     clear H
                     have H := H1
                     clear H1
                     by_cases c122 : t516 = 2
                     ·rw [if_pos c122] at H
                      have c122b0 : (t516 == 2) = true := beq_iff_eq.mpr c122
                      have c122b1 : (t516 != 2) = false := bne_eq_false_iff_eq.mpr c122
                      clear c122
                      by_cases c123 : (t512 == 0 && (t513 == 0 && (t514 == 0))) = true
                      ·rw [if_pos c123] at H
                       have c123b0 : (t512 == 0 && (t513 == 0 && (t514 == 0))) = true := c123
                       (try (have c123b1 : decide (t512 = 0 && (t513 == 0 && (t514 == 0))) = true := by simpa using c123))
                       (try (have c123b2 : (t512 == 0 && (t513 == 0 && (t514 == 0))) = true := by simpa using c123))
                       clear c123
                       obtain rfl := Option.some.inj H
                       have hnb124 := NB517_510.out
                       have hnc124 := NB510_517.out
                       have hcz125_0 : wc.cell? ⟨gb517, 0, none⟩ = some (.int .i64 t512) := (blk_cell BK517.out 0).trans rfl
                       have hcz125_1 : wc.cell? ⟨gb517, 1, none⟩ = some (.int .i64 t513) := (blk_cell BK517.out 1).trans rfl
                       have hcz125_2 : wc.cell? ⟨gb517, 2, none⟩ = some (.int .i64 t514) := (blk_cell BK517.out 2).trans rfl
                       have hfz125_0 := blk_frozen BK517.out 0
                       have hfz125_1 := blk_frozen BK517.out 1
                       have hfz125_2 := blk_frozen BK517.out 2
                       go_wp2
                       go_ret
                       exact ⟨by first | rfl | (simp [errW_none, errW_some] <;> rfl) | (simp only [← hji37]; first | rfl | (simp [errW_none, errW_some] <;> rfl)) | (simp [*, errW_none, errW_some] <;> rfl), by repeat (first | (with_reducible first | exact HB.out | apply below_alloc | apply pw_below_drewN | apply below_drew1 | refine below_set ?_ GE510.out | refine below_set ?_ GE517.out) | exact HB.out)⟩
                      ·rw [if_neg c123] at H
                       have c123b0 : (t512 == 0 && (t513 == 0 && (t514 == 0))) = false := by simpa using c123
                       (try (have c123b1 : decide (t512 = 0 && (t513 == 0 && (t514 == 0))) = false := by simpa using c123))
                       (try (have c123b2 : (t512 == 0 && (t513 == 0 && (t514 == 0))) = false := by simpa using c123))
                       (try (have c123b3 : ¬ (t512 = 0 && (t513 == 0 && (t514 == 0))) := by simpa using c123))
                       clear c123
                       obtain rfl := Option.some.inj H
                       have hnb126 := NB517_510.out
                       have hnc126 := NB510_517.out
                       have hcz127_0 : wc.cell? ⟨gb517, 0, none⟩ = some (.int .i64 t512) := (blk_cell BK517.out 0).trans rfl
                       have hcz127_1 : wc.cell? ⟨gb517, 1, none⟩ = some (.int .i64 t513) := (blk_cell BK517.out 1).trans rfl
                       have hcz127_2 : wc.cell? ⟨gb517, 2, none⟩ = some (.int .i64 t514) := (blk_cell BK517.out 2).trans rfl
                       have hfz127_0 := blk_frozen BK517.out 0
                       have hfz127_1 := blk_frozen BK517.out 1
                       have hfz127_2 := blk_frozen BK517.out 2
                       go_wp2
                       go_ret
                       exact ⟨by first | rfl | (simp [errW_none, errW_some] <;> rfl) | (simp only [← hji37]; first | rfl | (simp [errW_none, errW_some] <;> rfl)) | (simp [*, errW_none, errW_some] <;> rfl), by repeat (first | (with_reducible first | exact HB.out | apply below_alloc | apply pw_below_drewN | apply below_drew1 | refine below_set ?_ GE510.out | refine below_set ?_ GE517.out) | exact HB.out)⟩
                     ·rw [if_neg c122] at H
                      have c122b0 : (t516 == 2) = false := beq_eq_false_iff_ne.mpr c122
                      have c122b1 : (t516 != 2) = true := bne_iff_ne.mpr c122
                      obtain rfl := Option.some.inj H
                      go_wp2
                      go_ret
                      exact ⟨by first | rfl | (simp [errW_none, errW_some] <;> rfl) | (simp only [← hji37]; first | rfl | (simp [errW_none, errW_some] <;> rfl)) | (simp [*, errW_none, errW_some] <;> rfl), by repeat (first | (with_reducible first | exact HB.out | apply below_alloc | apply pw_below_drewN | apply below_drew1 | refine below_set ?_ GE510.out | refine below_set ?_ GE517.out) | exact HB.out)⟩
     case rest => as_aux_lemma =>
      clear HC38
      try clear c1
      try clear c2
      try clear p2
      try clear c3
      try clear c4
      try clear c5
      try clear c6
      try clear p6
      try clear c7
      try clear c8
      try clear c9
      try clear c10
      try clear c11
      try clear c12
      try clear c13
      try clear c14
      try clear c14b0
      try clear c15
      try clear c17
      try clear c17b0
      try clear c18
      try clear c20
      try clear c20b0
      try clear c21
      try clear c23
      try clear c23b0
      try clear c24
      try clear c26
      try clear c28
      try clear c29
      try clear c29b0
      try clear c29b1
      try clear c30
      try clear c30b0
      try clear c30b1
      try clear c30b2
      try clear c31
      try clear c33
      try clear c39
      try clear c46
      try clear c46b0
      try clear c46b1
      try clear c47
      try clear c47b0
      try clear c47b1
      try clear c48
      try clear c50
      try clear c50b0
      try clear c50b1
      try clear c51
      try clear c53
      try clear c53b0
      try clear c53b1
      try clear c54
      try clear c56
      try clear c56b0
      try clear c56b1
      try clear c57
      try clear c58
      try clear c58b0
      try clear c58b1
      try clear c59
      try clear c59b0
      try clear c59b1
      try clear c60
      try clear c62
      try clear c64
      try clear p64
      try clear c67
      try clear c67b0
      try clear c67b1
      try clear c68
      try clear c68b0
      try clear c68b1
      try clear c69
      try clear c69b0
      try clear c69b1
      try clear c70
      try clear c70b0
      try clear c70b1
      try clear c71
      try clear c71b0
      try clear c71b1
      try clear c72
      try clear c72b0
      try clear c72b1
      try clear c73
      try clear c74
      try clear c74b0
      try clear c74b1
      try clear c75
      try clear c75b0
      try clear c75b1
      try clear c76
      try clear c76b0
      try clear c76b1
      try clear c77
      try clear c77b0
      try clear c78
      try clear c78b0
      try clear c79
      try clear c79b0
      try clear c79b1
      try clear c80
      try clear c80b0
      try clear c80b1
      try clear c81
      try clear c81b0
      try clear c81b1
      try clear c82
      try clear c85
      try clear c89
      try clear c92
      try clear c95
      try clear c98
      try clear c101
      try clear c104
      try clear c104b0
      try clear c104b1
      try clear c105
      try clear c105b0
      try clear c105b1
      try clear c105b2
      try clear c106
      try clear c106b0
      try clear c106b1
      try clear c107
      try clear c107b0
      try clear c107b1
      try clear c108
      try clear c111
      try clear c111b0
      try clear c111b1
      try clear c112
      try clear c115
      try clear c118
      try clear c120
      try clear c122
      try clear c122b0
      try clear c122b1
      try clear c123
      try clear c123b0
      try clear c123b1
      try clear c123b2
      try clear c124
      try clear c126
      try clear hcz100_0
      try clear hcz100_1
      try clear hcz100_2
      try clear hcz100_3
      try clear hcz102_0
      try clear hcz102_1
      try clear hcz102_2
      try clear hcz103_0
      try clear hcz103_1
      try clear hcz103_2
      try clear hcz103_3
      try clear hcz109_0
      try clear hcz109_1
      try clear hcz109_2
      try clear hcz110_0
      try clear hcz110_1
      try clear hcz110_2
      try clear hcz110_3
      try clear hcz113_0
      try clear hcz113_1
      try clear hcz113_2
      try clear hcz114_0
      try clear hcz114_1
      try clear hcz114_2
      try clear hcz114_3
      try clear hcz116_0
      try clear hcz116_1
      try clear hcz116_2
      try clear hcz117_0
      try clear hcz117_1
      try clear hcz117_2
      try clear hcz117_3
      try clear hcz119_0
      try clear hcz119_1
      try clear hcz119_2
      try clear hcz121_0
      try clear hcz121_1
      try clear hcz121_2
      try clear hcz125_0
      try clear hcz125_1
      try clear hcz125_2
      try clear hcz127_0
      try clear hcz127_1
      try clear hcz127_2
      try clear hcz13_0
      try clear hcz13_1
      try clear hcz13_2
      try clear hcz16_0
      try clear hcz16_1
      try clear hcz16_2
      try clear hcz16_3
      try clear hcz19_0
      try clear hcz19_1
      try clear hcz19_2
      try clear hcz19_3
      try clear hcz22_0
      try clear hcz22_1
      try clear hcz22_2
      try clear hcz22_3
      try clear hcz25_0
      try clear hcz25_1
      try clear hcz25_2
      try clear hcz25_3
      try clear hcz27_0
      try clear hcz27_1
      try clear hcz27_2
      try clear hcz27_3
      try clear hcz32_0
      try clear hcz32_1
      try clear hcz32_2
      try clear hcz34_0
      try clear hcz34_1
      try clear hcz34_2
      try clear hcz40_0
      try clear hcz40_1
      try clear hcz40_2
      try clear hcz40_3
      try clear hcz44_0
      try clear hcz44_1
      try clear hcz44_2
      try clear hcz44_3
      try clear hcz61_0
      try clear hcz61_1
      try clear hcz61_2
      try clear hcz61_3
      try clear hcz63_0
      try clear hcz63_1
      try clear hcz63_2
      try clear hcz63_3
      try clear hcz65_0
      try clear hcz65_1
      try clear hcz65_2
      try clear hcz65_3
      try clear hcz83_0
      try clear hcz83_1
      try clear hcz83_2
      try clear hcz84_0
      try clear hcz84_1
      try clear hcz84_2
      try clear hcz84_3
      try clear hcz86_0
      try clear hcz86_1
      try clear hcz86_2
      try clear hcz87_0
      try clear hcz87_1
      try clear hcz87_2
      try clear hcz87_3
      try clear hcz90_0
      try clear hcz90_1
      try clear hcz90_2
      try clear hcz91_0
      try clear hcz91_1
      try clear hcz91_2
      try clear hcz91_3
      try clear hcz93_0
      try clear hcz93_1
      try clear hcz93_2
      try clear hcz94_0
      try clear hcz94_1
      try clear hcz94_2
      try clear hcz94_3
      try clear hcz96_0
      try clear hcz96_1
      try clear hcz96_2
      try clear hcz97_0
      try clear hcz97_1
      try clear hcz97_2
      try clear hcz97_3
      try clear hcz99_0
      try clear hcz99_1
      try clear hcz99_2
      try clear hcz9_0
      try clear hcz9_1
      try clear hcz9_2
      try clear hcz9_3
      try clear hfz100_0
      try clear hfz100_1
      try clear hfz100_2
      try clear hfz100_3
      try clear hfz102_0
      try clear hfz102_1
      try clear hfz102_2
      try clear hfz103_0
      try clear hfz103_1
      try clear hfz103_2
      try clear hfz103_3
      try clear hfz109_0
      try clear hfz109_1
      try clear hfz109_2
      try clear hfz110_0
      try clear hfz110_1
      try clear hfz110_2
      try clear hfz110_3
      try clear hfz113_0
      try clear hfz113_1
      try clear hfz113_2
      try clear hfz114_0
      try clear hfz114_1
      try clear hfz114_2
      try clear hfz114_3
      try clear hfz116_0
      try clear hfz116_1
      try clear hfz116_2
      try clear hfz117_0
      try clear hfz117_1
      try clear hfz117_2
      try clear hfz117_3
      try clear hfz119_0
      try clear hfz119_1
      try clear hfz119_2
      try clear hfz121_0
      try clear hfz121_1
      try clear hfz121_2
      try clear hfz125_0
      try clear hfz125_1
      try clear hfz125_2
      try clear hfz127_0
      try clear hfz127_1
      try clear hfz127_2
      try clear hfz13_0
      try clear hfz13_1
      try clear hfz13_2
      try clear hfz16_0
      try clear hfz16_1
      try clear hfz16_2
      try clear hfz16_3
      try clear hfz19_0
      try clear hfz19_1
      try clear hfz19_2
      try clear hfz19_3
      try clear hfz22_0
      try clear hfz22_1
      try clear hfz22_2
      try clear hfz22_3
      try clear hfz25_0
      try clear hfz25_1
      try clear hfz25_2
      try clear hfz25_3
      try clear hfz27_0
      try clear hfz27_1
      try clear hfz27_2
      try clear hfz27_3
      try clear hfz32_0
      try clear hfz32_1
      try clear hfz32_2
      try clear hfz34_0
      try clear hfz34_1
      try clear hfz34_2
      try clear hfz40_0
      try clear hfz40_1
      try clear hfz40_2
      try clear hfz40_3
      try clear hfz44_0
      try clear hfz44_1
      try clear hfz44_2
      try clear hfz44_3
      try clear hfz61_0
      try clear hfz61_1
      try clear hfz61_2
      try clear hfz61_3
      try clear hfz63_0
      try clear hfz63_1
      try clear hfz63_2
      try clear hfz63_3
      try clear hfz65_0
      try clear hfz65_1
      try clear hfz65_2
      try clear hfz65_3
      try clear hfz83_0
      try clear hfz83_1
      try clear hfz83_2
      try clear hfz84_0
      try clear hfz84_1
      try clear hfz84_2
      try clear hfz84_3
      try clear hfz86_0
      try clear hfz86_1
      try clear hfz86_2
      try clear hfz87_0
      try clear hfz87_1
      try clear hfz87_2
      try clear hfz87_3
      try clear hfz90_0
      try clear hfz90_1
      try clear hfz90_2
      try clear hfz91_0
      try clear hfz91_1
      try clear hfz91_2
      try clear hfz91_3
      try clear hfz93_0
      try clear hfz93_1
      try clear hfz93_2
      try clear hfz94_0
      try clear hfz94_1
      try clear hfz94_2
      try clear hfz94_3
      try clear hfz96_0
      try clear hfz96_1
      try clear hfz96_2
      try clear hfz97_0
      try clear hfz97_1
      try clear hfz97_2
      try clear hfz97_3
      try clear hfz99_0
      try clear hfz99_1
      try clear hfz99_2
      try clear hfz9_0
      try clear hfz9_1
      try clear hfz9_2
      try clear hfz9_3
      try clear p2
      try clear p6
      try clear p64
      obtain ⟨kq, x12_37, rfl, HA, HJ37, BK510, BK517, HB⟩ := hcut
      cases kq with
      | zero => exact absurd HA.out (by simp [quoinlaw07_StepPlaces.j6])
      | succ kj37 =>
       have H := HA.out
       clear HA
       simp only [quoinlaw07_StepPlaces.j6] at H
       have HC128 := Aside0.mk H
       clear H
       go_upto_region 36 with (fail)
       go_cut [221] (fun v221 wc => ∃ (kq : Nat) (x221_127 : Bool), v221 = .bool x221_127 ∧ Aside0 (quoinlaw07_StepPlaces.j7 kq l0 t515 t516 x12_37 x221_127 a1_0 a1_1 a1_2 a1_3 t512 t513 t514 = some r) ∧ Aside0 (kq ≤ kj37) ∧ Aside0 (wc.heap[gb510]? = some (.cells #[.int .i64 a1_0, .int .i64 a1_1, .int .i64 a1_2, .string a1_3] 27 (0, 0))) ∧ Aside0 (wc.heap[gb517]? = some (.cells #[.int .i64 t512, .int .i64 t513, .int .i64 t514] 29 (0, 0))) ∧ Aside0 (Below w.heap.size w wc))
       case first => as_aux_lemma =>
        have H := HC128.out
        clear HC128
        by_cases c129 : x12_37 < 0
        ·rw [if_pos c129] at H
         have c129b0 : decide (x12_37 < 0) = true := decide_eq_true c129
         clear c129
         (first | rw [c129b0] | (simp only [i64_w, i32_w]; rw [c129b0]) | skip)
         have H' := Aside0.mk H
         clear H
         go_wp2
         go_meet
         case rel => exact ⟨_, (true), (by first | rfl | (simp; done) | (simp [*]; done)), H', ⟨by have := HJ5.out; have := HJ37.out; first | omega | exact Nat.le_refl _⟩, ⟨by (with_reducible repeat (first | refine blk_drewN ?_ _ | refine blk_drew ?_ | refine blk_alloc ?_ _)); exact BK510.out⟩, ⟨by (with_reducible repeat (first | refine blk_drewN ?_ _ | refine blk_drew ?_ | refine blk_alloc ?_ _)); exact BK517.out⟩, ⟨by repeat (first | (with_reducible first | exact HB.out | apply below_alloc | apply pw_below_drewN | apply below_drew1 | refine below_set ?_ GE510.out | refine below_set ?_ GE517.out) | exact HB.out)⟩⟩
        ·rw [if_neg c129] at H
         have c129b0 : decide (x12_37 < 0) = false := decide_eq_false c129
         clear c129
         (first | rw [c129b0] | (simp only [i64_w, i32_w]; rw [c129b0]) | skip)
         have H' := Aside0.mk H
         clear H
         go_wp2
         go_meet
         case rel => exact ⟨_, (decide (x12_37 > (wrap64 (t520 - 1)))), (by first | rfl | (simp; done) | (simp [*]; done)), H', ⟨by have := HJ5.out; have := HJ37.out; first | omega | exact Nat.le_refl _⟩, ⟨by (with_reducible repeat (first | refine blk_drewN ?_ _ | refine blk_drew ?_ | refine blk_alloc ?_ _)); exact BK510.out⟩, ⟨by (with_reducible repeat (first | refine blk_drewN ?_ _ | refine blk_drew ?_ | refine blk_alloc ?_ _)); exact BK517.out⟩, ⟨by repeat (first | (with_reducible first | exact HB.out | apply below_alloc | apply pw_below_drewN | apply below_drew1 | refine below_set ?_ GE510.out | refine below_set ?_ GE517.out) | exact HB.out)⟩⟩
       case rest => as_aux_lemma =>
        clear HC128
        try clear c1
        try clear c2
        try clear p2
        try clear c3
        try clear c4
        try clear c5
        try clear c6
        try clear p6
        try clear c7
        try clear c8
        try clear c9
        try clear c10
        try clear c11
        try clear c12
        try clear c13
        try clear c14
        try clear c14b0
        try clear c15
        try clear c17
        try clear c17b0
        try clear c18
        try clear c20
        try clear c20b0
        try clear c21
        try clear c23
        try clear c23b0
        try clear c24
        try clear c26
        try clear c28
        try clear c29
        try clear c29b0
        try clear c29b1
        try clear c30
        try clear c30b0
        try clear c30b1
        try clear c30b2
        try clear c31
        try clear c33
        try clear c39
        try clear c46
        try clear c46b0
        try clear c46b1
        try clear c47
        try clear c47b0
        try clear c47b1
        try clear c48
        try clear c50
        try clear c50b0
        try clear c50b1
        try clear c51
        try clear c53
        try clear c53b0
        try clear c53b1
        try clear c54
        try clear c56
        try clear c56b0
        try clear c56b1
        try clear c57
        try clear c58
        try clear c58b0
        try clear c58b1
        try clear c59
        try clear c59b0
        try clear c59b1
        try clear c60
        try clear c62
        try clear c64
        try clear p64
        try clear c67
        try clear c67b0
        try clear c67b1
        try clear c68
        try clear c68b0
        try clear c68b1
        try clear c69
        try clear c69b0
        try clear c69b1
        try clear c70
        try clear c70b0
        try clear c70b1
        try clear c71
        try clear c71b0
        try clear c71b1
        try clear c72
        try clear c72b0
        try clear c72b1
        try clear c73
        try clear c74
        try clear c74b0
        try clear c74b1
        try clear c75
        try clear c75b0
        try clear c75b1
        try clear c76
        try clear c76b0
        try clear c76b1
        try clear c77
        try clear c77b0
        try clear c78
        try clear c78b0
        try clear c79
        try clear c79b0
        try clear c79b1
        try clear c80
        try clear c80b0
        try clear c80b1
        try clear c81
        try clear c81b0
        try clear c81b1
        try clear c82
        try clear c85
        try clear c89
        try clear c92
        try clear c95
        try clear c98
        try clear c101
        try clear c104
        try clear c104b0
        try clear c104b1
        try clear c105
        try clear c105b0
        try clear c105b1
        try clear c105b2
        try clear c106
        try clear c106b0
        try clear c106b1
        try clear c107
        try clear c107b0
        try clear c107b1
        try clear c108
        try clear c111
        try clear c111b0
        try clear c111b1
        try clear c112
        try clear c115
        try clear c118
        try clear c120
        try clear c122
        try clear c122b0
        try clear c122b1
        try clear c123
        try clear c123b0
        try clear c123b1
        try clear c123b2
        try clear c124
        try clear c126
        try clear c129
        try clear c129b0
        try clear hcz100_0
        try clear hcz100_1
        try clear hcz100_2
        try clear hcz100_3
        try clear hcz102_0
        try clear hcz102_1
        try clear hcz102_2
        try clear hcz103_0
        try clear hcz103_1
        try clear hcz103_2
        try clear hcz103_3
        try clear hcz109_0
        try clear hcz109_1
        try clear hcz109_2
        try clear hcz110_0
        try clear hcz110_1
        try clear hcz110_2
        try clear hcz110_3
        try clear hcz113_0
        try clear hcz113_1
        try clear hcz113_2
        try clear hcz114_0
        try clear hcz114_1
        try clear hcz114_2
        try clear hcz114_3
        try clear hcz116_0
        try clear hcz116_1
        try clear hcz116_2
        try clear hcz117_0
        try clear hcz117_1
        try clear hcz117_2
        try clear hcz117_3
        try clear hcz119_0
        try clear hcz119_1
        try clear hcz119_2
        try clear hcz121_0
        try clear hcz121_1
        try clear hcz121_2
        try clear hcz125_0
        try clear hcz125_1
        try clear hcz125_2
        try clear hcz127_0
        try clear hcz127_1
        try clear hcz127_2
        try clear hcz13_0
        try clear hcz13_1
        try clear hcz13_2
        try clear hcz16_0
        try clear hcz16_1
        try clear hcz16_2
        try clear hcz16_3
        try clear hcz19_0
        try clear hcz19_1
        try clear hcz19_2
        try clear hcz19_3
        try clear hcz22_0
        try clear hcz22_1
        try clear hcz22_2
        try clear hcz22_3
        try clear hcz25_0
        try clear hcz25_1
        try clear hcz25_2
        try clear hcz25_3
        try clear hcz27_0
        try clear hcz27_1
        try clear hcz27_2
        try clear hcz27_3
        try clear hcz32_0
        try clear hcz32_1
        try clear hcz32_2
        try clear hcz34_0
        try clear hcz34_1
        try clear hcz34_2
        try clear hcz40_0
        try clear hcz40_1
        try clear hcz40_2
        try clear hcz40_3
        try clear hcz44_0
        try clear hcz44_1
        try clear hcz44_2
        try clear hcz44_3
        try clear hcz61_0
        try clear hcz61_1
        try clear hcz61_2
        try clear hcz61_3
        try clear hcz63_0
        try clear hcz63_1
        try clear hcz63_2
        try clear hcz63_3
        try clear hcz65_0
        try clear hcz65_1
        try clear hcz65_2
        try clear hcz65_3
        try clear hcz83_0
        try clear hcz83_1
        try clear hcz83_2
        try clear hcz84_0
        try clear hcz84_1
        try clear hcz84_2
        try clear hcz84_3
        try clear hcz86_0
        try clear hcz86_1
        try clear hcz86_2
        try clear hcz87_0
        try clear hcz87_1
        try clear hcz87_2
        try clear hcz87_3
        try clear hcz90_0
        try clear hcz90_1
        try clear hcz90_2
        try clear hcz91_0
        try clear hcz91_1
        try clear hcz91_2
        try clear hcz91_3
        try clear hcz93_0
        try clear hcz93_1
        try clear hcz93_2
        try clear hcz94_0
        try clear hcz94_1
        try clear hcz94_2
        try clear hcz94_3
        try clear hcz96_0
        try clear hcz96_1
        try clear hcz96_2
        try clear hcz97_0
        try clear hcz97_1
        try clear hcz97_2
        try clear hcz97_3
        try clear hcz99_0
        try clear hcz99_1
        try clear hcz99_2
        try clear hcz9_0
        try clear hcz9_1
        try clear hcz9_2
        try clear hcz9_3
        try clear hfz100_0
        try clear hfz100_1
        try clear hfz100_2
        try clear hfz100_3
        try clear hfz102_0
        try clear hfz102_1
        try clear hfz102_2
        try clear hfz103_0
        try clear hfz103_1
        try clear hfz103_2
        try clear hfz103_3
        try clear hfz109_0
        try clear hfz109_1
        try clear hfz109_2
        try clear hfz110_0
        try clear hfz110_1
        try clear hfz110_2
        try clear hfz110_3
        try clear hfz113_0
        try clear hfz113_1
        try clear hfz113_2
        try clear hfz114_0
        try clear hfz114_1
        try clear hfz114_2
        try clear hfz114_3
        try clear hfz116_0
        try clear hfz116_1
        try clear hfz116_2
        try clear hfz117_0
        try clear hfz117_1
        try clear hfz117_2
        try clear hfz117_3
        try clear hfz119_0
        try clear hfz119_1
        try clear hfz119_2
        try clear hfz121_0
        try clear hfz121_1
        try clear hfz121_2
        try clear hfz125_0
        try clear hfz125_1
        try clear hfz125_2
        try clear hfz127_0
        try clear hfz127_1
        try clear hfz127_2
        try clear hfz13_0
        try clear hfz13_1
        try clear hfz13_2
        try clear hfz16_0
        try clear hfz16_1
        try clear hfz16_2
        try clear hfz16_3
        try clear hfz19_0
        try clear hfz19_1
        try clear hfz19_2
        try clear hfz19_3
        try clear hfz22_0
        try clear hfz22_1
        try clear hfz22_2
        try clear hfz22_3
        try clear hfz25_0
        try clear hfz25_1
        try clear hfz25_2
        try clear hfz25_3
        try clear hfz27_0
        try clear hfz27_1
        try clear hfz27_2
        try clear hfz27_3
        try clear hfz32_0
        try clear hfz32_1
        try clear hfz32_2
        try clear hfz34_0
        try clear hfz34_1
        try clear hfz34_2
        try clear hfz40_0
        try clear hfz40_1
        try clear hfz40_2
        try clear hfz40_3
        try clear hfz44_0
        try clear hfz44_1
        try clear hfz44_2
        try clear hfz44_3
        try clear hfz61_0
        try clear hfz61_1
        try clear hfz61_2
        try clear hfz61_3
        try clear hfz63_0
        try clear hfz63_1
        try clear hfz63_2
        try clear hfz63_3
        try clear hfz65_0
        try clear hfz65_1
        try clear hfz65_2
        try clear hfz65_3
        try clear hfz83_0
        try clear hfz83_1
        try clear hfz83_2
        try clear hfz84_0
        try clear hfz84_1
        try clear hfz84_2
        try clear hfz84_3
        try clear hfz86_0
        try clear hfz86_1
        try clear hfz86_2
        try clear hfz87_0
        try clear hfz87_1
        try clear hfz87_2
        try clear hfz87_3
        try clear hfz90_0
        try clear hfz90_1
        try clear hfz90_2
        try clear hfz91_0
        try clear hfz91_1
        try clear hfz91_2
        try clear hfz91_3
        try clear hfz93_0
        try clear hfz93_1
        try clear hfz93_2
        try clear hfz94_0
        try clear hfz94_1
        try clear hfz94_2
        try clear hfz94_3
        try clear hfz96_0
        try clear hfz96_1
        try clear hfz96_2
        try clear hfz97_0
        try clear hfz97_1
        try clear hfz97_2
        try clear hfz97_3
        try clear hfz99_0
        try clear hfz99_1
        try clear hfz99_2
        try clear hfz9_0
        try clear hfz9_1
        try clear hfz9_2
        try clear hfz9_3
        try clear p2
        try clear p6
        try clear p64
        obtain ⟨kq, x221_127, rfl, HA, HJ127, BK510, BK517, HB⟩ := hcut
        cases kq with
        | zero => exact absurd HA.out (by simp [quoinlaw07_StepPlaces.j7])
        | succ kj127 =>
         have H := HA.out
         clear HA
         simp only [quoinlaw07_StepPlaces.j7] at H
         by_cases c130 : x221_127 = true
         ·subst c130
          have H1 : (if t516 = 70 then (if (t512 == 0 && (t513 == 0 && (t514 == 0))) = true then (some (t515 == 0)) else (some false)) else (some false)) = some r := by rw [if_pos rfl] at H; exact H
          clear H
          have H := H1
          clear H1
          by_cases c131 : t516 = 70
          ·rw [if_pos c131] at H
           have c131b0 : (t516 == 70) = true := beq_iff_eq.mpr c131
           have c131b1 : (t516 != 70) = false := bne_eq_false_iff_eq.mpr c131
           clear c131
           by_cases c132 : (t512 == 0 && (t513 == 0 && (t514 == 0))) = true
           ·rw [if_pos c132] at H
            have c132b0 : (t512 == 0 && (t513 == 0 && (t514 == 0))) = true := c132
            (try (have c132b1 : decide (t512 = 0 && (t513 == 0 && (t514 == 0))) = true := by simpa using c132))
            (try (have c132b2 : (t512 == 0 && (t513 == 0 && (t514 == 0))) = true := by simpa using c132))
            clear c132
            obtain rfl := Option.some.inj H
            have hnb133 := NB517_510.out
            have hnc133 := NB510_517.out
            have hcz134_0 : wc.cell? ⟨gb517, 0, none⟩ = some (.int .i64 t512) := (blk_cell BK517.out 0).trans rfl
            have hcz134_1 : wc.cell? ⟨gb517, 1, none⟩ = some (.int .i64 t513) := (blk_cell BK517.out 1).trans rfl
            have hcz134_2 : wc.cell? ⟨gb517, 2, none⟩ = some (.int .i64 t514) := (blk_cell BK517.out 2).trans rfl
            have hfz134_0 := blk_frozen BK517.out 0
            have hfz134_1 := blk_frozen BK517.out 1
            have hfz134_2 := blk_frozen BK517.out 2
            go_wp2
            go_ret
            exact ⟨by first | rfl | (simp [errW_none, errW_some] <;> rfl) | (simp only [← hji37]; first | rfl | (simp [errW_none, errW_some] <;> rfl)) | (simp [*, errW_none, errW_some] <;> rfl), by repeat (first | (with_reducible first | exact HB.out | apply below_alloc | apply pw_below_drewN | apply below_drew1 | refine below_set ?_ GE510.out | refine below_set ?_ GE517.out) | exact HB.out)⟩
           ·rw [if_neg c132] at H
            have c132b0 : (t512 == 0 && (t513 == 0 && (t514 == 0))) = false := by simpa using c132
            (try (have c132b1 : decide (t512 = 0 && (t513 == 0 && (t514 == 0))) = false := by simpa using c132))
            (try (have c132b2 : (t512 == 0 && (t513 == 0 && (t514 == 0))) = false := by simpa using c132))
            (try (have c132b3 : ¬ (t512 = 0 && (t513 == 0 && (t514 == 0))) := by simpa using c132))
            clear c132
            obtain rfl := Option.some.inj H
            have hnb135 := NB517_510.out
            have hnc135 := NB510_517.out
            have hcz136_0 : wc.cell? ⟨gb517, 0, none⟩ = some (.int .i64 t512) := (blk_cell BK517.out 0).trans rfl
            have hcz136_1 : wc.cell? ⟨gb517, 1, none⟩ = some (.int .i64 t513) := (blk_cell BK517.out 1).trans rfl
            have hcz136_2 : wc.cell? ⟨gb517, 2, none⟩ = some (.int .i64 t514) := (blk_cell BK517.out 2).trans rfl
            have hfz136_0 := blk_frozen BK517.out 0
            have hfz136_1 := blk_frozen BK517.out 1
            have hfz136_2 := blk_frozen BK517.out 2
            go_wp2
            go_ret
            exact ⟨by first | rfl | (simp [errW_none, errW_some] <;> rfl) | (simp only [← hji37]; first | rfl | (simp [errW_none, errW_some] <;> rfl)) | (simp [*, errW_none, errW_some] <;> rfl), by repeat (first | (with_reducible first | exact HB.out | apply below_alloc | apply pw_below_drewN | apply below_drew1 | refine below_set ?_ GE510.out | refine below_set ?_ GE517.out) | exact HB.out)⟩
          ·rw [if_neg c131] at H
           have c131b0 : (t516 == 70) = false := beq_eq_false_iff_ne.mpr c131
           have c131b1 : (t516 != 70) = true := bne_iff_ne.mpr c131
           obtain rfl := Option.some.inj H
           go_wp2
           go_ret
           exact ⟨by first | rfl | (simp [errW_none, errW_some] <;> rfl) | (simp only [← hji37]; first | rfl | (simp [errW_none, errW_some] <;> rfl)) | (simp [*, errW_none, errW_some] <;> rfl), by repeat (first | (with_reducible first | exact HB.out | apply below_alloc | apply pw_below_drewN | apply below_drew1 | refine below_set ?_ GE510.out | refine below_set ?_ GE517.out) | exact HB.out)⟩
         ·replace c130 := Bool.eq_false_iff.mpr c130
          subst c130
          have H1 : (if t516 = 0 then (if t512 = a1_0 then (if t513 < 0 then (quoinlaw07_StepPlaces.j8 kj127 l0 t515 x12_37 true a1_0 a1_1 a1_2 a1_3 t512 t513 t514) else (quoinlaw07_StepPlaces.j8 kj127 l0 t515 x12_37 (decide (t513 > (l0.length : Int))) a1_0 a1_1 a1_2 a1_3 t512 t513 t514)) else (quoinlaw07_StepPlaces.j8 kj127 l0 t515 x12_37 true a1_0 a1_1 a1_2 a1_3 t512 t513 t514)) else (quoinlaw07_StepPlaces.j8 kj127 l0 t515 x12_37 true a1_0 a1_1 a1_2 a1_3 t512 t513 t514)) = some r := by rw [if_neg (show ¬ (false = true) by decide)] at H; exact H
          clear H
          have H := H1
          clear H1
          have HC137 := Aside0.mk H
          clear H
          go_upto_region 38 with (fail)
          go_cut [253] (fun v253 wc => ∃ (kq : Nat) (x253_136 : Bool), v253 = .bool x253_136 ∧ Aside0 (quoinlaw07_StepPlaces.j8 kq l0 t515 x12_37 x253_136 a1_0 a1_1 a1_2 a1_3 t512 t513 t514 = some r) ∧ Aside0 (kq ≤ kj127) ∧ Aside0 (wc.heap[gb510]? = some (.cells #[.int .i64 a1_0, .int .i64 a1_1, .int .i64 a1_2, .string a1_3] 27 (0, 0))) ∧ Aside0 (wc.heap[gb517]? = some (.cells #[.int .i64 t512, .int .i64 t513, .int .i64 t514] 29 (0, 0))) ∧ Aside0 (Below w.heap.size w wc))
          case first => as_aux_lemma =>
           have H := HC137.out
           clear HC137
           by_cases c138 : t516 = 0
           ·rw [if_pos c138] at H
            have c138b0 : (t516 == 0) = true := beq_iff_eq.mpr c138
            have c138b1 : (t516 != 0) = false := bne_eq_false_iff_eq.mpr c138
            clear c138
            (first | rw [c138b0] | (simp only [i64_w, i32_w]; rw [c138b0]) | skip)
            by_cases c139 : t512 = a1_0
            ·rw [if_pos c139] at H
             have c139b0 : (t512 == a1_0) = true := beq_iff_eq.mpr c139
             have c139b1 : (t512 != a1_0) = false := bne_eq_false_iff_eq.mpr c139
             clear c139
             by_cases c140 : t513 < 0
             ·rw [if_pos c140] at H
              have c140b0 : decide (t513 < 0) = true := decide_eq_true c140
              clear c140
              have H' := Aside0.mk H
              clear H
              have hnb141 := NB517_510.out
              have hnc141 := NB510_517.out
              have hcz142_0 : wc.cell? ⟨gb517, 0, none⟩ = some (.int .i64 t512) := (blk_cell BK517.out 0).trans rfl
              have hcz142_1 : wc.cell? ⟨gb517, 1, none⟩ = some (.int .i64 t513) := (blk_cell BK517.out 1).trans rfl
              have hcz142_2 : wc.cell? ⟨gb517, 2, none⟩ = some (.int .i64 t514) := (blk_cell BK517.out 2).trans rfl
              have hfz142_0 := blk_frozen BK517.out 0
              have hfz142_1 := blk_frozen BK517.out 1
              have hfz142_2 := blk_frozen BK517.out 2
              have hcz143_0 : wc.cell? ⟨gb510, 0, none⟩ = some (.int .i64 a1_0) := (blk_cell BK510.out 0).trans rfl
              have hcz143_1 : wc.cell? ⟨gb510, 1, none⟩ = some (.int .i64 a1_1) := (blk_cell BK510.out 1).trans rfl
              have hcz143_2 : wc.cell? ⟨gb510, 2, none⟩ = some (.int .i64 a1_2) := (blk_cell BK510.out 2).trans rfl
              have hcz143_3 : wc.cell? ⟨gb510, 3, none⟩ = some (.string a1_3) := (blk_cell BK510.out 3).trans rfl
              have hfz143_0 := blk_frozen BK510.out 0
              have hfz143_1 := blk_frozen BK510.out 1
              have hfz143_2 := blk_frozen BK510.out 2
              have hfz143_3 := blk_frozen BK510.out 3
              go_wp2
              go_meet
              case rel => exact ⟨_, (true), (by first | rfl | (simp; done) | (simp [*]; done)), H', ⟨by have := HJ5.out; have := HJ37.out; have := HJ127.out; first | omega | exact Nat.le_refl _⟩, ⟨by (with_reducible repeat (first | refine blk_drewN ?_ _ | refine blk_drew ?_ | refine blk_alloc ?_ _)); exact BK510.out⟩, ⟨by (with_reducible repeat (first | refine blk_drewN ?_ _ | refine blk_drew ?_ | refine blk_alloc ?_ _)); exact BK517.out⟩, ⟨by repeat (first | (with_reducible first | exact HB.out | apply below_alloc | apply pw_below_drewN | apply below_drew1 | refine below_set ?_ GE510.out | refine below_set ?_ GE517.out) | exact HB.out)⟩⟩
             ·rw [if_neg c140] at H
              have c140b0 : decide (t513 < 0) = false := decide_eq_false c140
              clear c140
              have H' := Aside0.mk H
              clear H
              have hnb144 := NB517_510.out
              have hnc144 := NB510_517.out
              have hcz145_0 : wc.cell? ⟨gb517, 0, none⟩ = some (.int .i64 t512) := (blk_cell BK517.out 0).trans rfl
              have hcz145_1 : wc.cell? ⟨gb517, 1, none⟩ = some (.int .i64 t513) := (blk_cell BK517.out 1).trans rfl
              have hcz145_2 : wc.cell? ⟨gb517, 2, none⟩ = some (.int .i64 t514) := (blk_cell BK517.out 2).trans rfl
              have hfz145_0 := blk_frozen BK517.out 0
              have hfz145_1 := blk_frozen BK517.out 1
              have hfz145_2 := blk_frozen BK517.out 2
              have hcz146_0 : wc.cell? ⟨gb510, 0, none⟩ = some (.int .i64 a1_0) := (blk_cell BK510.out 0).trans rfl
              have hcz146_1 : wc.cell? ⟨gb510, 1, none⟩ = some (.int .i64 a1_1) := (blk_cell BK510.out 1).trans rfl
              have hcz146_2 : wc.cell? ⟨gb510, 2, none⟩ = some (.int .i64 a1_2) := (blk_cell BK510.out 2).trans rfl
              have hcz146_3 : wc.cell? ⟨gb510, 3, none⟩ = some (.string a1_3) := (blk_cell BK510.out 3).trans rfl
              have hfz146_0 := blk_frozen BK510.out 0
              have hfz146_1 := blk_frozen BK510.out 1
              have hfz146_2 := blk_frozen BK510.out 2
              have hfz146_3 := blk_frozen BK510.out 3
              go_wp2
              go_meet
              case rel => exact ⟨_, (decide (t513 > (l0.length : Int))), (by first | rfl | (simp; done) | (simp [*]; done)), H', ⟨by have := HJ5.out; have := HJ37.out; have := HJ127.out; first | omega | exact Nat.le_refl _⟩, ⟨by (with_reducible repeat (first | refine blk_drewN ?_ _ | refine blk_drew ?_ | refine blk_alloc ?_ _)); exact BK510.out⟩, ⟨by (with_reducible repeat (first | refine blk_drewN ?_ _ | refine blk_drew ?_ | refine blk_alloc ?_ _)); exact BK517.out⟩, ⟨by repeat (first | (with_reducible first | exact HB.out | apply below_alloc | apply pw_below_drewN | apply below_drew1 | refine below_set ?_ GE510.out | refine below_set ?_ GE517.out) | exact HB.out)⟩⟩
            ·rw [if_neg c139] at H
             have c139b0 : (t512 == a1_0) = false := beq_eq_false_iff_ne.mpr c139
             have c139b1 : (t512 != a1_0) = true := bne_iff_ne.mpr c139
             have H' := Aside0.mk H
             clear H
             have hnb147 := NB517_510.out
             have hnc147 := NB510_517.out
             have hcz148_0 : wc.cell? ⟨gb517, 0, none⟩ = some (.int .i64 t512) := (blk_cell BK517.out 0).trans rfl
             have hcz148_1 : wc.cell? ⟨gb517, 1, none⟩ = some (.int .i64 t513) := (blk_cell BK517.out 1).trans rfl
             have hcz148_2 : wc.cell? ⟨gb517, 2, none⟩ = some (.int .i64 t514) := (blk_cell BK517.out 2).trans rfl
             have hfz148_0 := blk_frozen BK517.out 0
             have hfz148_1 := blk_frozen BK517.out 1
             have hfz148_2 := blk_frozen BK517.out 2
             have hcz149_0 : wc.cell? ⟨gb510, 0, none⟩ = some (.int .i64 a1_0) := (blk_cell BK510.out 0).trans rfl
             have hcz149_1 : wc.cell? ⟨gb510, 1, none⟩ = some (.int .i64 a1_1) := (blk_cell BK510.out 1).trans rfl
             have hcz149_2 : wc.cell? ⟨gb510, 2, none⟩ = some (.int .i64 a1_2) := (blk_cell BK510.out 2).trans rfl
             have hcz149_3 : wc.cell? ⟨gb510, 3, none⟩ = some (.string a1_3) := (blk_cell BK510.out 3).trans rfl
             have hfz149_0 := blk_frozen BK510.out 0
             have hfz149_1 := blk_frozen BK510.out 1
             have hfz149_2 := blk_frozen BK510.out 2
             have hfz149_3 := blk_frozen BK510.out 3
             go_wp2
             go_meet
             case rel => exact ⟨_, (true), (by first | rfl | (simp; done) | (simp [*]; done)), H', ⟨by have := HJ5.out; have := HJ37.out; have := HJ127.out; first | omega | exact Nat.le_refl _⟩, ⟨by (with_reducible repeat (first | refine blk_drewN ?_ _ | refine blk_drew ?_ | refine blk_alloc ?_ _)); exact BK510.out⟩, ⟨by (with_reducible repeat (first | refine blk_drewN ?_ _ | refine blk_drew ?_ | refine blk_alloc ?_ _)); exact BK517.out⟩, ⟨by repeat (first | (with_reducible first | exact HB.out | apply below_alloc | apply pw_below_drewN | apply below_drew1 | refine below_set ?_ GE510.out | refine below_set ?_ GE517.out) | exact HB.out)⟩⟩
           ·rw [if_neg c138] at H
            have c138b0 : (t516 == 0) = false := beq_eq_false_iff_ne.mpr c138
            have c138b1 : (t516 != 0) = true := bne_iff_ne.mpr c138
            (first | rw [c138b0] | (simp only [i64_w, i32_w]; rw [c138b0]) | skip)
            have H' := Aside0.mk H
            clear H
            go_wp2
            go_meet
            case rel => exact ⟨_, (true), (by first | rfl | (simp; done) | (simp [*]; done)), H', ⟨by have := HJ5.out; have := HJ37.out; have := HJ127.out; first | omega | exact Nat.le_refl _⟩, ⟨by (with_reducible repeat (first | refine blk_drewN ?_ _ | refine blk_drew ?_ | refine blk_alloc ?_ _)); exact BK510.out⟩, ⟨by (with_reducible repeat (first | refine blk_drewN ?_ _ | refine blk_drew ?_ | refine blk_alloc ?_ _)); exact BK517.out⟩, ⟨by repeat (first | (with_reducible first | exact HB.out | apply below_alloc | apply pw_below_drewN | apply below_drew1 | refine below_set ?_ GE510.out | refine below_set ?_ GE517.out) | exact HB.out)⟩⟩
          case rest => as_aux_lemma =>
           clear HC137
           try clear c1
           try clear c2
           try clear p2
           try clear c3
           try clear c4
           try clear c5
           try clear c6
           try clear p6
           try clear c7
           try clear c8
           try clear c9
           try clear c10
           try clear c11
           try clear c12
           try clear c13
           try clear c14
           try clear c14b0
           try clear c15
           try clear c17
           try clear c17b0
           try clear c18
           try clear c20
           try clear c20b0
           try clear c21
           try clear c23
           try clear c23b0
           try clear c24
           try clear c26
           try clear c28
           try clear c29
           try clear c29b0
           try clear c29b1
           try clear c30
           try clear c30b0
           try clear c30b1
           try clear c30b2
           try clear c31
           try clear c33
           try clear c39
           try clear c46
           try clear c46b0
           try clear c46b1
           try clear c47
           try clear c47b0
           try clear c47b1
           try clear c48
           try clear c50
           try clear c50b0
           try clear c50b1
           try clear c51
           try clear c53
           try clear c53b0
           try clear c53b1
           try clear c54
           try clear c56
           try clear c56b0
           try clear c56b1
           try clear c57
           try clear c58
           try clear c58b0
           try clear c58b1
           try clear c59
           try clear c59b0
           try clear c59b1
           try clear c60
           try clear c62
           try clear c64
           try clear p64
           try clear c67
           try clear c67b0
           try clear c67b1
           try clear c68
           try clear c68b0
           try clear c68b1
           try clear c69
           try clear c69b0
           try clear c69b1
           try clear c70
           try clear c70b0
           try clear c70b1
           try clear c71
           try clear c71b0
           try clear c71b1
           try clear c72
           try clear c72b0
           try clear c72b1
           try clear c73
           try clear c74
           try clear c74b0
           try clear c74b1
           try clear c75
           try clear c75b0
           try clear c75b1
           try clear c76
           try clear c76b0
           try clear c76b1
           try clear c77
           try clear c77b0
           try clear c78
           try clear c78b0
           try clear c79
           try clear c79b0
           try clear c79b1
           try clear c80
           try clear c80b0
           try clear c80b1
           try clear c81
           try clear c81b0
           try clear c81b1
           try clear c82
           try clear c85
           try clear c89
           try clear c92
           try clear c95
           try clear c98
           try clear c101
           try clear c104
           try clear c104b0
           try clear c104b1
           try clear c105
           try clear c105b0
           try clear c105b1
           try clear c105b2
           try clear c106
           try clear c106b0
           try clear c106b1
           try clear c107
           try clear c107b0
           try clear c107b1
           try clear c108
           try clear c111
           try clear c111b0
           try clear c111b1
           try clear c112
           try clear c115
           try clear c118
           try clear c120
           try clear c122
           try clear c122b0
           try clear c122b1
           try clear c123
           try clear c123b0
           try clear c123b1
           try clear c123b2
           try clear c124
           try clear c126
           try clear c129
           try clear c129b0
           try clear c130
           try clear c131
           try clear c131b0
           try clear c131b1
           try clear c132
           try clear c132b0
           try clear c132b1
           try clear c132b2
           try clear c133
           try clear c135
           try clear c138
           try clear c138b0
           try clear c138b1
           try clear c139
           try clear c139b0
           try clear c139b1
           try clear c140
           try clear c140b0
           try clear c141
           try clear c144
           try clear c147
           try clear hcz100_0
           try clear hcz100_1
           try clear hcz100_2
           try clear hcz100_3
           try clear hcz102_0
           try clear hcz102_1
           try clear hcz102_2
           try clear hcz103_0
           try clear hcz103_1
           try clear hcz103_2
           try clear hcz103_3
           try clear hcz109_0
           try clear hcz109_1
           try clear hcz109_2
           try clear hcz110_0
           try clear hcz110_1
           try clear hcz110_2
           try clear hcz110_3
           try clear hcz113_0
           try clear hcz113_1
           try clear hcz113_2
           try clear hcz114_0
           try clear hcz114_1
           try clear hcz114_2
           try clear hcz114_3
           try clear hcz116_0
           try clear hcz116_1
           try clear hcz116_2
           try clear hcz117_0
           try clear hcz117_1
           try clear hcz117_2
           try clear hcz117_3
           try clear hcz119_0
           try clear hcz119_1
           try clear hcz119_2
           try clear hcz121_0
           try clear hcz121_1
           try clear hcz121_2
           try clear hcz125_0
           try clear hcz125_1
           try clear hcz125_2
           try clear hcz127_0
           try clear hcz127_1
           try clear hcz127_2
           try clear hcz134_0
           try clear hcz134_1
           try clear hcz134_2
           try clear hcz136_0
           try clear hcz136_1
           try clear hcz136_2
           try clear hcz13_0
           try clear hcz13_1
           try clear hcz13_2
           try clear hcz142_0
           try clear hcz142_1
           try clear hcz142_2
           try clear hcz143_0
           try clear hcz143_1
           try clear hcz143_2
           try clear hcz143_3
           try clear hcz145_0
           try clear hcz145_1
           try clear hcz145_2
           try clear hcz146_0
           try clear hcz146_1
           try clear hcz146_2
           try clear hcz146_3
           try clear hcz148_0
           try clear hcz148_1
           try clear hcz148_2
           try clear hcz149_0
           try clear hcz149_1
           try clear hcz149_2
           try clear hcz149_3
           try clear hcz16_0
           try clear hcz16_1
           try clear hcz16_2
           try clear hcz16_3
           try clear hcz19_0
           try clear hcz19_1
           try clear hcz19_2
           try clear hcz19_3
           try clear hcz22_0
           try clear hcz22_1
           try clear hcz22_2
           try clear hcz22_3
           try clear hcz25_0
           try clear hcz25_1
           try clear hcz25_2
           try clear hcz25_3
           try clear hcz27_0
           try clear hcz27_1
           try clear hcz27_2
           try clear hcz27_3
           try clear hcz32_0
           try clear hcz32_1
           try clear hcz32_2
           try clear hcz34_0
           try clear hcz34_1
           try clear hcz34_2
           try clear hcz40_0
           try clear hcz40_1
           try clear hcz40_2
           try clear hcz40_3
           try clear hcz44_0
           try clear hcz44_1
           try clear hcz44_2
           try clear hcz44_3
           try clear hcz61_0
           try clear hcz61_1
           try clear hcz61_2
           try clear hcz61_3
           try clear hcz63_0
           try clear hcz63_1
           try clear hcz63_2
           try clear hcz63_3
           try clear hcz65_0
           try clear hcz65_1
           try clear hcz65_2
           try clear hcz65_3
           try clear hcz83_0
           try clear hcz83_1
           try clear hcz83_2
           try clear hcz84_0
           try clear hcz84_1
           try clear hcz84_2
           try clear hcz84_3
           try clear hcz86_0
           try clear hcz86_1
           try clear hcz86_2
           try clear hcz87_0
           try clear hcz87_1
           try clear hcz87_2
           try clear hcz87_3
           try clear hcz90_0
           try clear hcz90_1
           try clear hcz90_2
           try clear hcz91_0
           try clear hcz91_1
           try clear hcz91_2
           try clear hcz91_3
           try clear hcz93_0
           try clear hcz93_1
           try clear hcz93_2
           try clear hcz94_0
           try clear hcz94_1
           try clear hcz94_2
           try clear hcz94_3
           try clear hcz96_0
           try clear hcz96_1
           try clear hcz96_2
           try clear hcz97_0
           try clear hcz97_1
           try clear hcz97_2
           try clear hcz97_3
           try clear hcz99_0
           try clear hcz99_1
           try clear hcz99_2
           try clear hcz9_0
           try clear hcz9_1
           try clear hcz9_2
           try clear hcz9_3
           try clear hfz100_0
           try clear hfz100_1
           try clear hfz100_2
           try clear hfz100_3
           try clear hfz102_0
           try clear hfz102_1
           try clear hfz102_2
           try clear hfz103_0
           try clear hfz103_1
           try clear hfz103_2
           try clear hfz103_3
           try clear hfz109_0
           try clear hfz109_1
           try clear hfz109_2
           try clear hfz110_0
           try clear hfz110_1
           try clear hfz110_2
           try clear hfz110_3
           try clear hfz113_0
           try clear hfz113_1
           try clear hfz113_2
           try clear hfz114_0
           try clear hfz114_1
           try clear hfz114_2
           try clear hfz114_3
           try clear hfz116_0
           try clear hfz116_1
           try clear hfz116_2
           try clear hfz117_0
           try clear hfz117_1
           try clear hfz117_2
           try clear hfz117_3
           try clear hfz119_0
           try clear hfz119_1
           try clear hfz119_2
           try clear hfz121_0
           try clear hfz121_1
           try clear hfz121_2
           try clear hfz125_0
           try clear hfz125_1
           try clear hfz125_2
           try clear hfz127_0
           try clear hfz127_1
           try clear hfz127_2
           try clear hfz134_0
           try clear hfz134_1
           try clear hfz134_2
           try clear hfz136_0
           try clear hfz136_1
           try clear hfz136_2
           try clear hfz13_0
           try clear hfz13_1
           try clear hfz13_2
           try clear hfz142_0
           try clear hfz142_1
           try clear hfz142_2
           try clear hfz143_0
           try clear hfz143_1
           try clear hfz143_2
           try clear hfz143_3
           try clear hfz145_0
           try clear hfz145_1
           try clear hfz145_2
           try clear hfz146_0
           try clear hfz146_1
           try clear hfz146_2
           try clear hfz146_3
           try clear hfz148_0
           try clear hfz148_1
           try clear hfz148_2
           try clear hfz149_0
           try clear hfz149_1
           try clear hfz149_2
           try clear hfz149_3
           try clear hfz16_0
           try clear hfz16_1
           try clear hfz16_2
           try clear hfz16_3
           try clear hfz19_0
           try clear hfz19_1
           try clear hfz19_2
           try clear hfz19_3
           try clear hfz22_0
           try clear hfz22_1
           try clear hfz22_2
           try clear hfz22_3
           try clear hfz25_0
           try clear hfz25_1
           try clear hfz25_2
           try clear hfz25_3
           try clear hfz27_0
           try clear hfz27_1
           try clear hfz27_2
           try clear hfz27_3
           try clear hfz32_0
           try clear hfz32_1
           try clear hfz32_2
           try clear hfz34_0
           try clear hfz34_1
           try clear hfz34_2
           try clear hfz40_0
           try clear hfz40_1
           try clear hfz40_2
           try clear hfz40_3
           try clear hfz44_0
           try clear hfz44_1
           try clear hfz44_2
           try clear hfz44_3
           try clear hfz61_0
           try clear hfz61_1
           try clear hfz61_2
           try clear hfz61_3
           try clear hfz63_0
           try clear hfz63_1
           try clear hfz63_2
           try clear hfz63_3
           try clear hfz65_0
           try clear hfz65_1
           try clear hfz65_2
           try clear hfz65_3
           try clear hfz83_0
           try clear hfz83_1
           try clear hfz83_2
           try clear hfz84_0
           try clear hfz84_1
           try clear hfz84_2
           try clear hfz84_3
           try clear hfz86_0
           try clear hfz86_1
           try clear hfz86_2
           try clear hfz87_0
           try clear hfz87_1
           try clear hfz87_2
           try clear hfz87_3
           try clear hfz90_0
           try clear hfz90_1
           try clear hfz90_2
           try clear hfz91_0
           try clear hfz91_1
           try clear hfz91_2
           try clear hfz91_3
           try clear hfz93_0
           try clear hfz93_1
           try clear hfz93_2
           try clear hfz94_0
           try clear hfz94_1
           try clear hfz94_2
           try clear hfz94_3
           try clear hfz96_0
           try clear hfz96_1
           try clear hfz96_2
           try clear hfz97_0
           try clear hfz97_1
           try clear hfz97_2
           try clear hfz97_3
           try clear hfz99_0
           try clear hfz99_1
           try clear hfz99_2
           try clear hfz9_0
           try clear hfz9_1
           try clear hfz9_2
           try clear hfz9_3
           try clear p2
           try clear p6
           try clear p64
           obtain ⟨kq, x253_136, rfl, HA, HJ136, BK510, BK517, HB⟩ := hcut
           cases kq with
           | zero => exact absurd HA.out (by simp [quoinlaw07_StepPlaces.j8])
           | succ kj136 =>
            have H := HA.out
            clear HA
            simp only [quoinlaw07_StepPlaces.j8] at H
            by_cases c150 : x253_136 = true
            ·subst c150
             have H1 : (some false) = some r := by rw [if_pos rfl] at H; exact H
             clear H
             have H := H1
             clear H1
             obtain rfl := Option.some.inj H
             go_wp2
             go_ret
             exact ⟨by first | rfl | (simp [errW_none, errW_some] <;> rfl) | (simp only [← hji37]; first | rfl | (simp [errW_none, errW_some] <;> rfl)) | (simp [*, errW_none, errW_some] <;> rfl), by repeat (first | (with_reducible first | exact HB.out | apply below_alloc | apply pw_below_drewN | apply below_drew1 | refine below_set ?_ GE510.out | refine below_set ?_ GE517.out) | exact HB.out)⟩
            ·replace c150 := Bool.eq_false_iff.mpr c150
             subst c150
             have H1 : ((lines_Of.f l0 t513).bind fun bt522 => (if bt522.2 = 0 then (quoinlaw07_StepPlaces.j9 kj136 l0 t515 x12_37 (bt522.1 != x12_37) a1_0 a1_1 a1_2 a1_3 t512 t513 t514) else (quoinlaw07_StepPlaces.j9 kj136 l0 t515 x12_37 true a1_0 a1_1 a1_2 a1_3 t512 t513 t514))) = some r := by rw [if_neg (show ¬ (false = true) by decide)] at H; exact H
             clear H
             have H := H1
             clear H1
             replace H := Option.bind_eq_some_iff.mp H
             obtain ⟨⟨t522, t523⟩, A1510, H⟩ := H
             replace H : (if t523 = 0 then (quoinlaw07_StepPlaces.j9 kj136 l0 t515 x12_37 (t522 != x12_37) a1_0 a1_1 a1_2 a1_3 t512 t513 t514) else (quoinlaw07_StepPlaces.j9 kj136 l0 t515 x12_37 true a1_0 a1_1 a1_2 a1_3 t512 t513 t514)) = some r := H
             have A151 := Aside0.mk A1510
             clear A1510
             have HC152 := Aside0.mk H
             clear H
             have hnb153 := NB517_510.out
             have hnc153 := NB510_517.out
             have hcz154_0 : wc.cell? ⟨gb517, 0, none⟩ = some (.int .i64 t512) := (blk_cell BK517.out 0).trans rfl
             have hcz154_1 : wc.cell? ⟨gb517, 1, none⟩ = some (.int .i64 t513) := (blk_cell BK517.out 1).trans rfl
             have hcz154_2 : wc.cell? ⟨gb517, 2, none⟩ = some (.int .i64 t514) := (blk_cell BK517.out 2).trans rfl
             have hfz154_0 := blk_frozen BK517.out 0
             have hfz154_1 := blk_frozen BK517.out 1
             have hfz154_2 := blk_frozen BK517.out 2
             go_upto_region 41 with (first | ((with_reducible refine gate_callee (f := 13) rfl ?_); refine goesL_ (some 258) rfl rfl Try.func13 (by kernel_rfl) rfl #[.slice A0 l0.length c0, .int .i64 t513] rfl (by (try simp only [List.map_toArray, List.map_cons, List.map_nil]); first | done | rfl | (simp only [List.length_drop, List.length_take]; rfl)) ?_; (with_reducible refine (lines_Of.calls _ _ l0 t513 t522 t523 _ ?side1 ?side2 A151.out).mono ?_); (case side1 => repeat (first | exact (Kd.C_below HR0.out HB.out) | (with_reducible refine Kd.C_alloc ?_ _) | (with_reducible refine Kd.C_drewN ?_ _) | (with_reducible refine Kd.C_drew ?_))); (case side2 => exact HC0.out); rintro e w155 ⟨rfl, hb⟩; refine ⟨_, rfl, ?_⟩; have n0_ := Aside0.mk (blk_below (g := gb510) (o := .cells #[.int .i64 a1_0, .int .i64 a1_1, .int .i64 a1_2, .string a1_3] 27 (0, 0)) (by (with_reducible repeat (first | refine blk_drewN ?_ _ | refine blk_drew ?_ | refine blk_alloc ?_ _)); exact BK510.out) hb); have n1_ := Aside0.mk (blk_below (g := gb517) (o := .cells #[.int .i64 t512, .int .i64 t513, .int .i64 t514] 29 (0, 0)) (by (with_reducible repeat (first | refine blk_drewN ?_ _ | refine blk_drew ?_ | refine blk_alloc ?_ _)); exact BK517.out) hb); have n2_ := Aside0.mk (below_step (by repeat (first | (with_reducible first | exact HB.out | apply below_alloc | apply pw_below_drewN | apply below_drew1 | refine below_set ?_ GE510.out | refine below_set ?_ GE517.out) | exact HB.out)) hb); clear BK510; clear BK517; clear HB; have BK510 := n0_; have BK517 := n1_; have HB := n2_; clear n0_ n1_ n2_; (try clear hb); (try clear hb2); (try clear hk); (try clear hi)))
             (try simp only [Act.put, List.setIfInBounds_toArray, List.set_cons_zero, List.set_cons_succ])
             go_cut [267] (fun v267 wc => ∃ (kq : Nat) (x267_151 : Bool), v267 = .bool x267_151 ∧ Aside0 (quoinlaw07_StepPlaces.j9 kq l0 t515 x12_37 x267_151 a1_0 a1_1 a1_2 a1_3 t512 t513 t514 = some r) ∧ Aside0 (kq ≤ kj136) ∧ Aside0 (wc.heap[gb510]? = some (.cells #[.int .i64 a1_0, .int .i64 a1_1, .int .i64 a1_2, .string a1_3] 27 (0, 0))) ∧ Aside0 (wc.heap[gb517]? = some (.cells #[.int .i64 t512, .int .i64 t513, .int .i64 t514] 29 (0, 0))) ∧ Aside0 (Below w.heap.size w wc))
             case first => as_aux_lemma =>
              have H := HC152.out
              clear HC152
              by_cases c156 : t523 = 0
              ·rw [if_pos c156] at H
               have c156b0 : (t523 == 0) = true := beq_iff_eq.mpr c156
               have c156b1 : (t523 != 0) = false := bne_eq_false_iff_eq.mpr c156
               clear c156
               (first | rw [c156b0] | (simp only [i64_w, i32_w]; rw [c156b0]) | skip)
               have H' := Aside0.mk H
               clear H
               go_wp2
               go_meet
               case rel => exact ⟨_, ((t522 != x12_37)), (by first | rfl | (simp; done) | (simp [*]; done)), H', ⟨by have := HJ5.out; have := HJ37.out; have := HJ127.out; have := HJ136.out; first | omega | exact Nat.le_refl _⟩, ⟨by (with_reducible repeat (first | refine blk_drewN ?_ _ | refine blk_drew ?_ | refine blk_alloc ?_ _)); exact BK510.out⟩, ⟨by (with_reducible repeat (first | refine blk_drewN ?_ _ | refine blk_drew ?_ | refine blk_alloc ?_ _)); exact BK517.out⟩, ⟨by repeat (first | (with_reducible first | exact HB.out | apply below_alloc | apply pw_below_drewN | apply below_drew1 | refine below_set ?_ GE510.out | refine below_set ?_ GE517.out) | exact HB.out)⟩⟩
              ·rw [if_neg c156] at H
               have c156b0 : (t523 == 0) = false := beq_eq_false_iff_ne.mpr c156
               have c156b1 : (t523 != 0) = true := bne_iff_ne.mpr c156
               (first | rw [c156b0] | (simp only [i64_w, i32_w]; rw [c156b0]) | skip)
               have H' := Aside0.mk H
               clear H
               go_wp2
               go_meet
               case rel => exact ⟨_, (true), (by first | rfl | (simp; done) | (simp [*]; done)), H', ⟨by have := HJ5.out; have := HJ37.out; have := HJ127.out; have := HJ136.out; first | omega | exact Nat.le_refl _⟩, ⟨by (with_reducible repeat (first | refine blk_drewN ?_ _ | refine blk_drew ?_ | refine blk_alloc ?_ _)); exact BK510.out⟩, ⟨by (with_reducible repeat (first | refine blk_drewN ?_ _ | refine blk_drew ?_ | refine blk_alloc ?_ _)); exact BK517.out⟩, ⟨by repeat (first | (with_reducible first | exact HB.out | apply below_alloc | apply pw_below_drewN | apply below_drew1 | refine below_set ?_ GE510.out | refine below_set ?_ GE517.out) | exact HB.out)⟩⟩
             case rest => as_aux_lemma =>
              clear HC152
              try clear c1
              try clear c2
              try clear p2
              try clear c3
              try clear c4
              try clear c5
              try clear c6
              try clear p6
              try clear c7
              try clear c8
              try clear c9
              try clear c10
              try clear c11
              try clear c12
              try clear c13
              try clear c14
              try clear c14b0
              try clear c15
              try clear c17
              try clear c17b0
              try clear c18
              try clear c20
              try clear c20b0
              try clear c21
              try clear c23
              try clear c23b0
              try clear c24
              try clear c26
              try clear c28
              try clear c29
              try clear c29b0
              try clear c29b1
              try clear c30
              try clear c30b0
              try clear c30b1
              try clear c30b2
              try clear c31
              try clear c33
              try clear c39
              try clear c46
              try clear c46b0
              try clear c46b1
              try clear c47
              try clear c47b0
              try clear c47b1
              try clear c48
              try clear c50
              try clear c50b0
              try clear c50b1
              try clear c51
              try clear c53
              try clear c53b0
              try clear c53b1
              try clear c54
              try clear c56
              try clear c56b0
              try clear c56b1
              try clear c57
              try clear c58
              try clear c58b0
              try clear c58b1
              try clear c59
              try clear c59b0
              try clear c59b1
              try clear c60
              try clear c62
              try clear c64
              try clear p64
              try clear c67
              try clear c67b0
              try clear c67b1
              try clear c68
              try clear c68b0
              try clear c68b1
              try clear c69
              try clear c69b0
              try clear c69b1
              try clear c70
              try clear c70b0
              try clear c70b1
              try clear c71
              try clear c71b0
              try clear c71b1
              try clear c72
              try clear c72b0
              try clear c72b1
              try clear c73
              try clear c74
              try clear c74b0
              try clear c74b1
              try clear c75
              try clear c75b0
              try clear c75b1
              try clear c76
              try clear c76b0
              try clear c76b1
              try clear c77
              try clear c77b0
              try clear c78
              try clear c78b0
              try clear c79
              try clear c79b0
              try clear c79b1
              try clear c80
              try clear c80b0
              try clear c80b1
              try clear c81
              try clear c81b0
              try clear c81b1
              try clear c82
              try clear c85
              try clear c89
              try clear c92
              try clear c95
              try clear c98
              try clear c101
              try clear c104
              try clear c104b0
              try clear c104b1
              try clear c105
              try clear c105b0
              try clear c105b1
              try clear c105b2
              try clear c106
              try clear c106b0
              try clear c106b1
              try clear c107
              try clear c107b0
              try clear c107b1
              try clear c108
              try clear c111
              try clear c111b0
              try clear c111b1
              try clear c112
              try clear c115
              try clear c118
              try clear c120
              try clear c122
              try clear c122b0
              try clear c122b1
              try clear c123
              try clear c123b0
              try clear c123b1
              try clear c123b2
              try clear c124
              try clear c126
              try clear c129
              try clear c129b0
              try clear c130
              try clear c131
              try clear c131b0
              try clear c131b1
              try clear c132
              try clear c132b0
              try clear c132b1
              try clear c132b2
              try clear c133
              try clear c135
              try clear c138
              try clear c138b0
              try clear c138b1
              try clear c139
              try clear c139b0
              try clear c139b1
              try clear c140
              try clear c140b0
              try clear c141
              try clear c144
              try clear c147
              try clear c150
              try clear c153
              try clear c156
              try clear c156b0
              try clear c156b1
              try clear hcz100_0
              try clear hcz100_1
              try clear hcz100_2
              try clear hcz100_3
              try clear hcz102_0
              try clear hcz102_1
              try clear hcz102_2
              try clear hcz103_0
              try clear hcz103_1
              try clear hcz103_2
              try clear hcz103_3
              try clear hcz109_0
              try clear hcz109_1
              try clear hcz109_2
              try clear hcz110_0
              try clear hcz110_1
              try clear hcz110_2
              try clear hcz110_3
              try clear hcz113_0
              try clear hcz113_1
              try clear hcz113_2
              try clear hcz114_0
              try clear hcz114_1
              try clear hcz114_2
              try clear hcz114_3
              try clear hcz116_0
              try clear hcz116_1
              try clear hcz116_2
              try clear hcz117_0
              try clear hcz117_1
              try clear hcz117_2
              try clear hcz117_3
              try clear hcz119_0
              try clear hcz119_1
              try clear hcz119_2
              try clear hcz121_0
              try clear hcz121_1
              try clear hcz121_2
              try clear hcz125_0
              try clear hcz125_1
              try clear hcz125_2
              try clear hcz127_0
              try clear hcz127_1
              try clear hcz127_2
              try clear hcz134_0
              try clear hcz134_1
              try clear hcz134_2
              try clear hcz136_0
              try clear hcz136_1
              try clear hcz136_2
              try clear hcz13_0
              try clear hcz13_1
              try clear hcz13_2
              try clear hcz142_0
              try clear hcz142_1
              try clear hcz142_2
              try clear hcz143_0
              try clear hcz143_1
              try clear hcz143_2
              try clear hcz143_3
              try clear hcz145_0
              try clear hcz145_1
              try clear hcz145_2
              try clear hcz146_0
              try clear hcz146_1
              try clear hcz146_2
              try clear hcz146_3
              try clear hcz148_0
              try clear hcz148_1
              try clear hcz148_2
              try clear hcz149_0
              try clear hcz149_1
              try clear hcz149_2
              try clear hcz149_3
              try clear hcz154_0
              try clear hcz154_1
              try clear hcz154_2
              try clear hcz16_0
              try clear hcz16_1
              try clear hcz16_2
              try clear hcz16_3
              try clear hcz19_0
              try clear hcz19_1
              try clear hcz19_2
              try clear hcz19_3
              try clear hcz22_0
              try clear hcz22_1
              try clear hcz22_2
              try clear hcz22_3
              try clear hcz25_0
              try clear hcz25_1
              try clear hcz25_2
              try clear hcz25_3
              try clear hcz27_0
              try clear hcz27_1
              try clear hcz27_2
              try clear hcz27_3
              try clear hcz32_0
              try clear hcz32_1
              try clear hcz32_2
              try clear hcz34_0
              try clear hcz34_1
              try clear hcz34_2
              try clear hcz40_0
              try clear hcz40_1
              try clear hcz40_2
              try clear hcz40_3
              try clear hcz44_0
              try clear hcz44_1
              try clear hcz44_2
              try clear hcz44_3
              try clear hcz61_0
              try clear hcz61_1
              try clear hcz61_2
              try clear hcz61_3
              try clear hcz63_0
              try clear hcz63_1
              try clear hcz63_2
              try clear hcz63_3
              try clear hcz65_0
              try clear hcz65_1
              try clear hcz65_2
              try clear hcz65_3
              try clear hcz83_0
              try clear hcz83_1
              try clear hcz83_2
              try clear hcz84_0
              try clear hcz84_1
              try clear hcz84_2
              try clear hcz84_3
              try clear hcz86_0
              try clear hcz86_1
              try clear hcz86_2
              try clear hcz87_0
              try clear hcz87_1
              try clear hcz87_2
              try clear hcz87_3
              try clear hcz90_0
              try clear hcz90_1
              try clear hcz90_2
              try clear hcz91_0
              try clear hcz91_1
              try clear hcz91_2
              try clear hcz91_3
              try clear hcz93_0
              try clear hcz93_1
              try clear hcz93_2
              try clear hcz94_0
              try clear hcz94_1
              try clear hcz94_2
              try clear hcz94_3
              try clear hcz96_0
              try clear hcz96_1
              try clear hcz96_2
              try clear hcz97_0
              try clear hcz97_1
              try clear hcz97_2
              try clear hcz97_3
              try clear hcz99_0
              try clear hcz99_1
              try clear hcz99_2
              try clear hcz9_0
              try clear hcz9_1
              try clear hcz9_2
              try clear hcz9_3
              try clear hfz100_0
              try clear hfz100_1
              try clear hfz100_2
              try clear hfz100_3
              try clear hfz102_0
              try clear hfz102_1
              try clear hfz102_2
              try clear hfz103_0
              try clear hfz103_1
              try clear hfz103_2
              try clear hfz103_3
              try clear hfz109_0
              try clear hfz109_1
              try clear hfz109_2
              try clear hfz110_0
              try clear hfz110_1
              try clear hfz110_2
              try clear hfz110_3
              try clear hfz113_0
              try clear hfz113_1
              try clear hfz113_2
              try clear hfz114_0
              try clear hfz114_1
              try clear hfz114_2
              try clear hfz114_3
              try clear hfz116_0
              try clear hfz116_1
              try clear hfz116_2
              try clear hfz117_0
              try clear hfz117_1
              try clear hfz117_2
              try clear hfz117_3
              try clear hfz119_0
              try clear hfz119_1
              try clear hfz119_2
              try clear hfz121_0
              try clear hfz121_1
              try clear hfz121_2
              try clear hfz125_0
              try clear hfz125_1
              try clear hfz125_2
              try clear hfz127_0
              try clear hfz127_1
              try clear hfz127_2
              try clear hfz134_0
              try clear hfz134_1
              try clear hfz134_2
              try clear hfz136_0
              try clear hfz136_1
              try clear hfz136_2
              try clear hfz13_0
              try clear hfz13_1
              try clear hfz13_2
              try clear hfz142_0
              try clear hfz142_1
              try clear hfz142_2
              try clear hfz143_0
              try clear hfz143_1
              try clear hfz143_2
              try clear hfz143_3
              try clear hfz145_0
              try clear hfz145_1
              try clear hfz145_2
              try clear hfz146_0
              try clear hfz146_1
              try clear hfz146_2
              try clear hfz146_3
              try clear hfz148_0
              try clear hfz148_1
              try clear hfz148_2
              try clear hfz149_0
              try clear hfz149_1
              try clear hfz149_2
              try clear hfz149_3
              try clear hfz154_0
              try clear hfz154_1
              try clear hfz154_2
              try clear hfz16_0
              try clear hfz16_1
              try clear hfz16_2
              try clear hfz16_3
              try clear hfz19_0
              try clear hfz19_1
              try clear hfz19_2
              try clear hfz19_3
              try clear hfz22_0
              try clear hfz22_1
              try clear hfz22_2
              try clear hfz22_3
              try clear hfz25_0
              try clear hfz25_1
              try clear hfz25_2
              try clear hfz25_3
              try clear hfz27_0
              try clear hfz27_1
              try clear hfz27_2
              try clear hfz27_3
              try clear hfz32_0
              try clear hfz32_1
              try clear hfz32_2
              try clear hfz34_0
              try clear hfz34_1
              try clear hfz34_2
              try clear hfz40_0
              try clear hfz40_1
              try clear hfz40_2
              try clear hfz40_3
              try clear hfz44_0
              try clear hfz44_1
              try clear hfz44_2
              try clear hfz44_3
              try clear hfz61_0
              try clear hfz61_1
              try clear hfz61_2
              try clear hfz61_3
              try clear hfz63_0
              try clear hfz63_1
              try clear hfz63_2
              try clear hfz63_3
              try clear hfz65_0
              try clear hfz65_1
              try clear hfz65_2
              try clear hfz65_3
              try clear hfz83_0
              try clear hfz83_1
              try clear hfz83_2
              try clear hfz84_0
              try clear hfz84_1
              try clear hfz84_2
              try clear hfz84_3
              try clear hfz86_0
              try clear hfz86_1
              try clear hfz86_2
              try clear hfz87_0
              try clear hfz87_1
              try clear hfz87_2
              try clear hfz87_3
              try clear hfz90_0
              try clear hfz90_1
              try clear hfz90_2
              try clear hfz91_0
              try clear hfz91_1
              try clear hfz91_2
              try clear hfz91_3
              try clear hfz93_0
              try clear hfz93_1
              try clear hfz93_2
              try clear hfz94_0
              try clear hfz94_1
              try clear hfz94_2
              try clear hfz94_3
              try clear hfz96_0
              try clear hfz96_1
              try clear hfz96_2
              try clear hfz97_0
              try clear hfz97_1
              try clear hfz97_2
              try clear hfz97_3
              try clear hfz99_0
              try clear hfz99_1
              try clear hfz99_2
              try clear hfz9_0
              try clear hfz9_1
              try clear hfz9_2
              try clear hfz9_3
              try clear p2
              try clear p6
              try clear p64
              obtain ⟨kq, x267_151, rfl, HA, HJ151, BK510, BK517, HB⟩ := hcut
              cases kq with
              | zero => exact absurd HA.out (by simp [quoinlaw07_StepPlaces.j9])
              | succ kj151 =>
               have H := HA.out
               clear HA
               simp only [quoinlaw07_StepPlaces.j9] at H
               by_cases c157 : x267_151 = true
               ·subst c157
                have H1 : (some false) = some r := by rw [if_pos rfl] at H; exact H
                clear H
                have H := H1
                clear H1
                obtain rfl := Option.some.inj H
                go_wp2
                go_ret
                exact ⟨by first | rfl | (simp [errW_none, errW_some] <;> rfl) | (simp only [← hji37]; first | rfl | (simp [errW_none, errW_some] <;> rfl)) | (simp [*, errW_none, errW_some] <;> rfl), by repeat (first | (with_reducible first | exact HB.out | apply below_alloc | apply pw_below_drewN | apply below_drew1 | refine below_set ?_ GE510.out | refine below_set ?_ GE517.out) | exact HB.out)⟩
               ·replace c157 := Bool.eq_false_iff.mpr c157
                subst c157
                have H1 : (if a1_3.toList = ([36] : List UInt8) then ((lines_End.f kj151 l0 x12_37).bind fun bt524 => (if bt524.2 = 0 then (if t513 = bt524.1 then (if t514 = 1 then (some (t515 == (-1))) else (some false)) else (some false)) else (some false))) else (if t514 = 3 then ((lines_Rest.f kj151 l0 t513).bind fun t526 => (quoinlaw07_StepPlaces.j10 kj151 l0 t515 (t526 != t513) a1_0 a1_1 a1_2 a1_3 t512 t513 t514)) else (quoinlaw07_StepPlaces.j10 kj151 l0 t515 true a1_0 a1_1 a1_2 a1_3 t512 t513 t514))) = some r := by rw [if_neg (show ¬ (false = true) by decide)] at H; exact H
                clear H
                have H := H1
                clear H1
                by_cases c158 : a1_3.toList = ([36] : List UInt8)
                ·rw [if_pos c158] at H
                 have c158b0 : (a1_3.toList == ([36] : List UInt8)) = true := beq_iff_eq.mpr c158
                 have c158b1 : (a1_3.toList != ([36] : List UInt8)) = false := bne_eq_false_iff_eq.mpr c158
                 clear c158
                 replace H := Option.bind_eq_some_iff.mp H
                 obtain ⟨⟨t524, t525⟩, A1590, H⟩ := H
                 replace H : (if t525 = 0 then (if t513 = t524 then (if t514 = 1 then (some (t515 == (-1))) else (some false)) else (some false)) else (some false)) = some r := H
                 have A159 := Aside0.mk A1590
                 clear A1590
                 by_cases c160 : t525 = 0
                 ·rw [if_pos c160] at H
                  have c160b0 : (t525 == 0) = true := beq_iff_eq.mpr c160
                  have c160b1 : (t525 != 0) = false := bne_eq_false_iff_eq.mpr c160
                  clear c160
                  by_cases c161 : t513 = t524
                  ·rw [if_pos c161] at H
                   have c161b0 : (t513 == t524) = true := beq_iff_eq.mpr c161
                   have c161b1 : (t513 != t524) = false := bne_eq_false_iff_eq.mpr c161
                   clear c161
                   by_cases c162 : t514 = 1
                   ·rw [if_pos c162] at H
                    have c162b0 : (t514 == 1) = true := beq_iff_eq.mpr c162
                    have c162b1 : (t514 != 1) = false := bne_eq_false_iff_eq.mpr c162
                    clear c162
                    obtain rfl := Option.some.inj H
                    have hnb163 := NB510_517.out
                    have hnc163 := NB517_510.out
                    have hcz164_0 : wc.cell? ⟨gb510, 0, none⟩ = some (.int .i64 a1_0) := (blk_cell BK510.out 0).trans rfl
                    have hcz164_1 : wc.cell? ⟨gb510, 1, none⟩ = some (.int .i64 a1_1) := (blk_cell BK510.out 1).trans rfl
                    have hcz164_2 : wc.cell? ⟨gb510, 2, none⟩ = some (.int .i64 a1_2) := (blk_cell BK510.out 2).trans rfl
                    have hcz164_3 : wc.cell? ⟨gb510, 3, none⟩ = some (.string a1_3) := (blk_cell BK510.out 3).trans rfl
                    have hfz164_0 := blk_frozen BK510.out 0
                    have hfz164_1 := blk_frozen BK510.out 1
                    have hfz164_2 := blk_frozen BK510.out 2
                    have hfz164_3 := blk_frozen BK510.out 3
                    go_wp2_with (first | ((with_reducible refine gate_callee (f := 19) rfl ?_); refine goesL_ (some 274) rfl rfl Try.func19 (by kernel_rfl) rfl #[.slice A0 l0.length c0, .int .i64 x12_37] rfl (by (try simp only [List.map_toArray, List.map_cons, List.map_nil]); first | done | rfl | (simp only [List.length_drop, List.length_take]; rfl)) ?_; (with_reducible refine (lines_End.calls kj151 _ _ l0 x12_37 t524 t525 _ ?side1 ?side2 A159.out).mono ?_); (case side1 => repeat (first | exact (Kd.C_below HR0.out HB.out) | (with_reducible refine Kd.C_alloc ?_ _) | (with_reducible refine Kd.C_drewN ?_ _) | (with_reducible refine Kd.C_drew ?_))); (case side2 => exact HC0.out); rintro e w' ⟨rfl, ⟨nd, rfl⟩⟩; refine ⟨_, rfl, ?_⟩; have hcz165_0 : wc.cell? ⟨gb517, 0, none⟩ = some (.int .i64 t512) := (blk_cell BK517.out 0).trans rfl; have hcz165_1 : wc.cell? ⟨gb517, 1, none⟩ = some (.int .i64 t513) := (blk_cell BK517.out 1).trans rfl; have hcz165_2 : wc.cell? ⟨gb517, 2, none⟩ = some (.int .i64 t514) := (blk_cell BK517.out 2).trans rfl; have hfz165_0 := blk_frozen BK517.out 0; have hfz165_1 := blk_frozen BK517.out 1; have hfz165_2 := blk_frozen BK517.out 2))
                    go_ret
                    exact ⟨by first | rfl | (simp [errW_none, errW_some] <;> rfl) | (simp only [← hji37]; first | rfl | (simp [errW_none, errW_some] <;> rfl)) | (simp [*, errW_none, errW_some] <;> rfl), by repeat (first | (with_reducible first | exact HB.out | apply below_alloc | apply pw_below_drewN | apply below_drew1 | refine below_set ?_ GE510.out | refine below_set ?_ GE517.out) | exact HB.out)⟩
                   ·rw [if_neg c162] at H
                    have c162b0 : (t514 == 1) = false := beq_eq_false_iff_ne.mpr c162
                    have c162b1 : (t514 != 1) = true := bne_iff_ne.mpr c162
                    obtain rfl := Option.some.inj H
                    have hnb166 := NB510_517.out
                    have hnc166 := NB517_510.out
                    have hcz167_0 : wc.cell? ⟨gb510, 0, none⟩ = some (.int .i64 a1_0) := (blk_cell BK510.out 0).trans rfl
                    have hcz167_1 : wc.cell? ⟨gb510, 1, none⟩ = some (.int .i64 a1_1) := (blk_cell BK510.out 1).trans rfl
                    have hcz167_2 : wc.cell? ⟨gb510, 2, none⟩ = some (.int .i64 a1_2) := (blk_cell BK510.out 2).trans rfl
                    have hcz167_3 : wc.cell? ⟨gb510, 3, none⟩ = some (.string a1_3) := (blk_cell BK510.out 3).trans rfl
                    have hfz167_0 := blk_frozen BK510.out 0
                    have hfz167_1 := blk_frozen BK510.out 1
                    have hfz167_2 := blk_frozen BK510.out 2
                    have hfz167_3 := blk_frozen BK510.out 3
                    go_wp2_with (first | ((with_reducible refine gate_callee (f := 19) rfl ?_); refine goesL_ (some 274) rfl rfl Try.func19 (by kernel_rfl) rfl #[.slice A0 l0.length c0, .int .i64 x12_37] rfl (by (try simp only [List.map_toArray, List.map_cons, List.map_nil]); first | done | rfl | (simp only [List.length_drop, List.length_take]; rfl)) ?_; (with_reducible refine (lines_End.calls kj151 _ _ l0 x12_37 t524 t525 _ ?side1 ?side2 A159.out).mono ?_); (case side1 => repeat (first | exact (Kd.C_below HR0.out HB.out) | (with_reducible refine Kd.C_alloc ?_ _) | (with_reducible refine Kd.C_drewN ?_ _) | (with_reducible refine Kd.C_drew ?_))); (case side2 => exact HC0.out); rintro e w' ⟨rfl, ⟨nd, rfl⟩⟩; refine ⟨_, rfl, ?_⟩; have hcz168_0 : wc.cell? ⟨gb517, 0, none⟩ = some (.int .i64 t512) := (blk_cell BK517.out 0).trans rfl; have hcz168_1 : wc.cell? ⟨gb517, 1, none⟩ = some (.int .i64 t513) := (blk_cell BK517.out 1).trans rfl; have hcz168_2 : wc.cell? ⟨gb517, 2, none⟩ = some (.int .i64 t514) := (blk_cell BK517.out 2).trans rfl; have hfz168_0 := blk_frozen BK517.out 0; have hfz168_1 := blk_frozen BK517.out 1; have hfz168_2 := blk_frozen BK517.out 2))
                    go_ret
                    exact ⟨by first | rfl | (simp [errW_none, errW_some] <;> rfl) | (simp only [← hji37]; first | rfl | (simp [errW_none, errW_some] <;> rfl)) | (simp [*, errW_none, errW_some] <;> rfl), by repeat (first | (with_reducible first | exact HB.out | apply below_alloc | apply pw_below_drewN | apply below_drew1 | refine below_set ?_ GE510.out | refine below_set ?_ GE517.out) | exact HB.out)⟩
                  ·rw [if_neg c161] at H
                   have c161b0 : (t513 == t524) = false := beq_eq_false_iff_ne.mpr c161
                   have c161b1 : (t513 != t524) = true := bne_iff_ne.mpr c161
                   obtain rfl := Option.some.inj H
                   have hnb169 := NB510_517.out
                   have hnc169 := NB517_510.out
                   have hcz170_0 : wc.cell? ⟨gb510, 0, none⟩ = some (.int .i64 a1_0) := (blk_cell BK510.out 0).trans rfl
                   have hcz170_1 : wc.cell? ⟨gb510, 1, none⟩ = some (.int .i64 a1_1) := (blk_cell BK510.out 1).trans rfl
                   have hcz170_2 : wc.cell? ⟨gb510, 2, none⟩ = some (.int .i64 a1_2) := (blk_cell BK510.out 2).trans rfl
                   have hcz170_3 : wc.cell? ⟨gb510, 3, none⟩ = some (.string a1_3) := (blk_cell BK510.out 3).trans rfl
                   have hfz170_0 := blk_frozen BK510.out 0
                   have hfz170_1 := blk_frozen BK510.out 1
                   have hfz170_2 := blk_frozen BK510.out 2
                   have hfz170_3 := blk_frozen BK510.out 3
                   go_wp2_with (first | ((with_reducible refine gate_callee (f := 19) rfl ?_); refine goesL_ (some 274) rfl rfl Try.func19 (by kernel_rfl) rfl #[.slice A0 l0.length c0, .int .i64 x12_37] rfl (by (try simp only [List.map_toArray, List.map_cons, List.map_nil]); first | done | rfl | (simp only [List.length_drop, List.length_take]; rfl)) ?_; (with_reducible refine (lines_End.calls kj151 _ _ l0 x12_37 t524 t525 _ ?side1 ?side2 A159.out).mono ?_); (case side1 => repeat (first | exact (Kd.C_below HR0.out HB.out) | (with_reducible refine Kd.C_alloc ?_ _) | (with_reducible refine Kd.C_drewN ?_ _) | (with_reducible refine Kd.C_drew ?_))); (case side2 => exact HC0.out); rintro e w' ⟨rfl, ⟨nd, rfl⟩⟩; refine ⟨_, rfl, ?_⟩; have hcz171_0 : wc.cell? ⟨gb517, 0, none⟩ = some (.int .i64 t512) := (blk_cell BK517.out 0).trans rfl; have hcz171_1 : wc.cell? ⟨gb517, 1, none⟩ = some (.int .i64 t513) := (blk_cell BK517.out 1).trans rfl; have hcz171_2 : wc.cell? ⟨gb517, 2, none⟩ = some (.int .i64 t514) := (blk_cell BK517.out 2).trans rfl; have hfz171_0 := blk_frozen BK517.out 0; have hfz171_1 := blk_frozen BK517.out 1; have hfz171_2 := blk_frozen BK517.out 2))
                   go_ret
                   exact ⟨by first | rfl | (simp [errW_none, errW_some] <;> rfl) | (simp only [← hji37]; first | rfl | (simp [errW_none, errW_some] <;> rfl)) | (simp [*, errW_none, errW_some] <;> rfl), by repeat (first | (with_reducible first | exact HB.out | apply below_alloc | apply pw_below_drewN | apply below_drew1 | refine below_set ?_ GE510.out | refine below_set ?_ GE517.out) | exact HB.out)⟩
                 ·rw [if_neg c160] at H
                  have c160b0 : (t525 == 0) = false := beq_eq_false_iff_ne.mpr c160
                  have c160b1 : (t525 != 0) = true := bne_iff_ne.mpr c160
                  obtain rfl := Option.some.inj H
                  have hnb172 := NB510_517.out
                  have hnc172 := NB517_510.out
                  have hcz173_0 : wc.cell? ⟨gb510, 0, none⟩ = some (.int .i64 a1_0) := (blk_cell BK510.out 0).trans rfl
                  have hcz173_1 : wc.cell? ⟨gb510, 1, none⟩ = some (.int .i64 a1_1) := (blk_cell BK510.out 1).trans rfl
                  have hcz173_2 : wc.cell? ⟨gb510, 2, none⟩ = some (.int .i64 a1_2) := (blk_cell BK510.out 2).trans rfl
                  have hcz173_3 : wc.cell? ⟨gb510, 3, none⟩ = some (.string a1_3) := (blk_cell BK510.out 3).trans rfl
                  have hfz173_0 := blk_frozen BK510.out 0
                  have hfz173_1 := blk_frozen BK510.out 1
                  have hfz173_2 := blk_frozen BK510.out 2
                  have hfz173_3 := blk_frozen BK510.out 3
                  go_wp2_with (first | ((with_reducible refine gate_callee (f := 19) rfl ?_); refine goesL_ (some 274) rfl rfl Try.func19 (by kernel_rfl) rfl #[.slice A0 l0.length c0, .int .i64 x12_37] rfl (by (try simp only [List.map_toArray, List.map_cons, List.map_nil]); first | done | rfl | (simp only [List.length_drop, List.length_take]; rfl)) ?_; (with_reducible refine (lines_End.calls kj151 _ _ l0 x12_37 t524 t525 _ ?side1 ?side2 A159.out).mono ?_); (case side1 => repeat (first | exact (Kd.C_below HR0.out HB.out) | (with_reducible refine Kd.C_alloc ?_ _) | (with_reducible refine Kd.C_drewN ?_ _) | (with_reducible refine Kd.C_drew ?_))); (case side2 => exact HC0.out); rintro e w' ⟨rfl, ⟨nd, rfl⟩⟩; refine ⟨_, rfl, ?_⟩))
                  go_ret
                  exact ⟨by first | rfl | (simp [errW_none, errW_some] <;> rfl) | (simp only [← hji37]; first | rfl | (simp [errW_none, errW_some] <;> rfl)) | (simp [*, errW_none, errW_some] <;> rfl), by repeat (first | (with_reducible first | exact HB.out | apply below_alloc | apply pw_below_drewN | apply below_drew1 | refine below_set ?_ GE510.out | refine below_set ?_ GE517.out) | exact HB.out)⟩
                ·rw [if_neg c158] at H
                 have c158b0 : (a1_3.toList == ([36] : List UInt8)) = false := beq_eq_false_iff_ne.mpr c158
                 have c158b1 : (a1_3.toList != ([36] : List UInt8)) = true := bne_iff_ne.mpr c158
                 have HC174 := Aside0.mk H
                 clear H
                 have hnb175 := NB510_517.out
                 have hnc175 := NB517_510.out
                 have hcz176_0 : wc.cell? ⟨gb510, 0, none⟩ = some (.int .i64 a1_0) := (blk_cell BK510.out 0).trans rfl
                 have hcz176_1 : wc.cell? ⟨gb510, 1, none⟩ = some (.int .i64 a1_1) := (blk_cell BK510.out 1).trans rfl
                 have hcz176_2 : wc.cell? ⟨gb510, 2, none⟩ = some (.int .i64 a1_2) := (blk_cell BK510.out 2).trans rfl
                 have hcz176_3 : wc.cell? ⟨gb510, 3, none⟩ = some (.string a1_3) := (blk_cell BK510.out 3).trans rfl
                 have hfz176_0 := blk_frozen BK510.out 0
                 have hfz176_1 := blk_frozen BK510.out 1
                 have hfz176_2 := blk_frozen BK510.out 2
                 have hfz176_3 := blk_frozen BK510.out 3
                 go_upto_region 46 with (fail)
                 go_cut [305] (fun v305 wc => ∃ (kq : Nat) (x305_173 : Bool), v305 = .bool x305_173 ∧ Aside0 (quoinlaw07_StepPlaces.j10 kq l0 t515 x305_173 a1_0 a1_1 a1_2 a1_3 t512 t513 t514 = some r) ∧ Aside0 (kq ≤ kj151) ∧ Aside0 (wc.heap[gb510]? = some (.cells #[.int .i64 a1_0, .int .i64 a1_1, .int .i64 a1_2, .string a1_3] 27 (0, 0))) ∧ Aside0 (wc.heap[gb517]? = some (.cells #[.int .i64 t512, .int .i64 t513, .int .i64 t514] 29 (0, 0))) ∧ Aside0 (Below w.heap.size w wc))
                 case first => as_aux_lemma =>
                  have H := HC174.out
                  clear HC174
                  by_cases c177 : t514 = 3
                  ·rw [if_pos c177] at H
                   have c177b0 : (t514 == 3) = true := beq_iff_eq.mpr c177
                   have c177b1 : (t514 != 3) = false := bne_eq_false_iff_eq.mpr c177
                   clear c177
                   (first | rw [c177b0] | (simp only [i64_w, i32_w]; rw [c177b0]) | skip)
                   replace H := Option.bind_eq_some_iff.mp H
                   obtain ⟨t526, A1780, H⟩ := H
                   replace H : (quoinlaw07_StepPlaces.j10 kj151 l0 t515 (t526 != t513) a1_0 a1_1 a1_2 a1_3 t512 t513 t514) = some r := H
                   have A178 := Aside0.mk A1780
                   clear A1780
                   have H' := Aside0.mk H
                   clear H
                   try go_wp2
                   have n0_ := Aside0.mk (blk_drew BK510.out)
                   have n1_ := Aside0.mk (blk_drew BK517.out)
                   have n2_ := Aside0.mk (below_drew1 HB.out)
                   clear BK510
                   clear BK517
                   clear HB
                   have BK510 := n0_
                   have BK517 := n1_
                   have HB := n2_
                   clear n0_ n1_ n2_
                   refine start_ (n := 12) (S := fun w' => w'.cell? ⟨gb517, 0, none⟩ = some (.int .i64 t512) ∧ w'.cell? ⟨gb517, 1, none⟩ = some (.int .i64 t513) ∧ w'.cell? ⟨gb517, 2, none⟩ = some (.int .i64 t514)) (ds := []) #[false, false, false, false, false, false, false, false, false, false, false, false] (by kernel_rfl) rfl rfl ⟨(blk_cell BK517.out 0).trans rfl, (blk_cell BK517.out 1).trans rfl, (blk_cell BK517.out 2).trans rfl⟩ (fun hHeld => ?_); refine with_tabW quoinlaw07_StepPlaces.tab46 quoinlaw07_StepPlaces.bits46 (fun HT_ HW_ => ?_)
                   generalize wc.drew = w179 at BK510 BK517 HB hHeld ⊢
                   refine pure_ (i := 0) (N := some 294) (v := ?_) (a' := ?_) #[true, false, false, false, false, false, false, false, false, false, false, false] rfl rfl (any_of HT_.out (by kernel_rfl)) (fun _ _ _ h => h) (Or.inl ⟨by rfl, ?_⟩) ?_ ?_
                   rotate_left
                   ·intro w'
                    go_simp
                    with_reducible rfl
                   rotate_left
                   ·simp only [Act.put, List.setIfInBounds_toArray, List.set_cons_zero, List.set_cons_succ, i64_w, i32_w]
                    rfl
                   refine take_ (i := 1) (N := some 295) (v := ?_) (a' := ?_) #[true, true, false, false, false, false, false, false, false, false, false, false] rfl rfl (take_ofW HT_.out HW_.out (by kernel_rfl)) (fun _ _ _ h => h) (Or.inl ⟨by rfl, ?_⟩) hHeld ?_ ?_
                   rotate_left
                   ·rintro w' ⟨s0, s1, s2⟩
                    go_simp
                    with_reducible rfl
                   rotate_left
                   ·simp only [Act.put, List.setIfInBounds_toArray, List.set_cons_zero, List.set_cons_succ, i64_w, i32_w]
                    rfl
                   refine pure_ (i := 2) (N := some 296) (v := ?_) (a' := ?_) #[true, true, true, false, false, false, false, false, false, false, false, false] rfl rfl (any_of HT_.out (by kernel_rfl)) (fun _ _ _ h => h) (Or.inl ⟨by rfl, ?_⟩) ?_ ?_
                   rotate_left
                   ·intro w'
                    go_simp
                    with_reducible rfl
                   rotate_left
                   ·simp only [Act.put, List.setIfInBounds_toArray, List.set_cons_zero, List.set_cons_succ, i64_w, i32_w]
                    rfl
                   refine pure_ (i := 3) (N := some 297) (v := ?_) (a' := ?_) #[true, true, true, true, false, false, false, false, false, false, false, false] rfl rfl (any_of HT_.out (by kernel_rfl)) (fun _ _ _ h => h) (Or.inl ⟨by rfl, ?_⟩) ?_ ?_
                   rotate_left
                   ·intro w'
                    go_simp
                    with_reducible rfl
                   rotate_left
                   ·simp only [Act.put, List.setIfInBounds_toArray, List.set_cons_zero, List.set_cons_succ, i64_w, i32_w]
                    rfl
                   refine pure_ (i := 4) (N := some 298) (v := ?_) (a' := ?_) #[true, true, true, true, true, false, false, false, false, false, false, false] rfl rfl (any_of HT_.out (by kernel_rfl)) (fun _ _ _ h => h) (Or.inl ⟨by rfl, ?_⟩) ?_ ?_
                   rotate_left
                   ·intro w'
                    go_simp
                    with_reducible rfl
                   rotate_left
                   ·simp only [Act.put, List.setIfInBounds_toArray, List.set_cons_zero, List.set_cons_succ, i64_w, i32_w]
                    rfl
                   refine pure_ (i := 5) (N := some 299) (v := ?_) (a' := ?_) #[true, true, true, true, true, true, false, false, false, false, false, false] rfl rfl (any_of HT_.out (by kernel_rfl)) (fun _ _ _ h => h) (Or.inl ⟨by rfl, ?_⟩) ?_ ?_
                   rotate_left
                   ·intro w'
                    go_simp
                    with_reducible rfl
                   rotate_left
                   ·simp only [Act.put, List.setIfInBounds_toArray, List.set_cons_zero, List.set_cons_succ, i64_w, i32_w]
                    rfl
                   refine pure_ (i := 8) (N := some 302) (v := ?_) (a' := ?_) #[true, true, true, true, true, true, false, false, true, false, false, false] rfl rfl (any_of HT_.out (by kernel_rfl)) (fun _ _ _ h => h) (Or.inl ⟨by rfl, ?_⟩) ?_ ?_
                   rotate_left
                   ·intro w'
                    go_simp
                    with_reducible rfl
                   rotate_left
                   ·simp only [Act.put, List.setIfInBounds_toArray, List.set_cons_zero, List.set_cons_succ, i64_w, i32_w]
                    rfl
                   refine take_ (i := 6) (N := some 300) (v := ?_) (a' := ?_) #[true, true, true, true, true, true, true, false, true, false, false, false] rfl rfl (take_ofW HT_.out HW_.out (by kernel_rfl)) (fun _ _ _ h => h) (Or.inl ⟨by rfl, ?_⟩) hHeld ?_ ?_
                   rotate_left
                   ·rintro w' ⟨s0, s1, s2⟩
                    go_simp
                    with_reducible rfl
                   rotate_left
                   ·simp only [Act.put, List.setIfInBounds_toArray, List.set_cons_zero, List.set_cons_succ, i64_w, i32_w]
                    rfl
                   refine take_ (i := 9) (N := some 303) (v := ?_) (a' := ?_) #[true, true, true, true, true, true, true, false, true, true, false, false] rfl rfl (take_ofW HT_.out HW_.out (by kernel_rfl)) (fun _ _ _ h => h) (Or.inl ⟨by rfl, ?_⟩) hHeld ?_ ?_
                   rotate_left
                   ·rintro w' ⟨s0, s1, s2⟩
                    go_simp
                    with_reducible rfl
                   rotate_left
                   ·simp only [Act.put, List.setIfInBounds_toArray, List.set_cons_zero, List.set_cons_succ, i64_w, i32_w]
                    rfl
                   refine one_ (i := 7) (N := some 301) #[true, true, true, true, true, true, true, true, true, true, false, false] rfl rfl (one_of HT_.out (by kernel_rfl)) (by decide) (fun K hK => ?_)
                   refine goes_ Try.func17 (by kernel_rfl) rfl #[.slice A0 l0.length c0, .int .i64 t513] (by rfl) rfl rfl (by (try simp only [List.map_toArray, List.map_cons, List.map_nil]); first | done | rfl | (simp only [List.length_drop, List.length_take]; rfl)) ?_
                   with_reducible refine (lines_Rest.calls kj151 _ _ l0 t513 t526 _ ?side1 ?side2 A178.out).mono ?_
                   (case side1 => repeat (first | exact (Kd.C_below HR0.out HB.out) | (with_reducible refine Kd.C_alloc ?_ _) | (with_reducible refine Kd.C_drewN ?_ _) | (with_reducible refine Kd.C_drew ?_)))
                   (case side2 => exact HC0.out)
                   rintro e w180 ⟨rfl, hb⟩
                   refine ⟨_, rfl, ?_⟩
                   have n0_ := Aside0.mk (blk_below (g := gb510) (o := .cells #[.int .i64 a1_0, .int .i64 a1_1, .int .i64 a1_2, .string a1_3] 27 (0, 0)) (by (with_reducible repeat (first | refine blk_drewN ?_ _ | refine blk_drew ?_ | refine blk_alloc ?_ _)); exact BK510.out) hb)
                   have n1_ := Aside0.mk (blk_below (g := gb517) (o := .cells #[.int .i64 t512, .int .i64 t513, .int .i64 t514] 29 (0, 0)) (by (with_reducible repeat (first | refine blk_drewN ?_ _ | refine blk_drew ?_ | refine blk_alloc ?_ _)); exact BK517.out) hb)
                   have n2_ := Aside0.mk (below_step (by repeat (first | (with_reducible first | exact HB.out | apply below_alloc | apply pw_below_drewN | apply below_drew1 | refine below_set ?_ GE510.out | refine below_set ?_ GE517.out) | exact HB.out)) hb)
                   clear BK510
                   clear BK517
                   clear HB
                   have BK510 := n0_
                   have BK517 := n1_
                   have HB := n2_
                   clear n0_ n1_ n2_
                   (try clear hb)
                   (try clear hb2)
                   (try clear hk)
                   (try clear hi)
                   refine hK.out _ _ ⟨(blk_cell BK517.out 0).trans rfl, (blk_cell BK517.out 1).trans rfl, (blk_cell BK517.out 2).trans rfl⟩ (fun hHeld => ?_)
                   clear hK K
                   refine norm_ (a' := ?_) ?_ ?_
                   rotate_left
                   ·show Act.put _ (some 301) _ = _
                    simp only [Act.put, List.setIfInBounds_toArray, List.set_cons_zero, List.set_cons_succ, i64_w, i32_w]
                    rfl
                   refine pure_ (i := 10) (N := some 304) (v := ?_) (a' := ?_) #[true, true, true, true, true, true, true, true, true, true, true, false] rfl rfl (any_of HT_.out (by kernel_rfl)) (fun _ _ _ h => h) (Or.inl ⟨by rfl, ?_⟩) ?_ ?_
                   rotate_left
                   ·intro w'
                    go_simp
                    with_reducible rfl
                   rotate_left
                   ·simp only [Act.put, List.setIfInBounds_toArray, List.set_cons_zero, List.set_cons_succ, i64_w, i32_w]
                    rfl
                   refine pure_ (i := 11) (N := some 305) (v := ?_) (a' := ?_) #[true, true, true, true, true, true, true, true, true, true, true, true] rfl rfl (any_of HT_.out (by kernel_rfl)) (fun _ _ _ h => h) (Or.inl ⟨by rfl, ?_⟩) ?_ ?_
                   rotate_left
                   ·intro w'
                    go_simp
                    with_reducible rfl
                   rotate_left
                   ·simp only [Act.put, List.setIfInBounds_toArray, List.set_cons_zero, List.set_cons_succ, i64_w, i32_w]
                    rfl
                   refine done_ (done_of HT_.out (by kernel_rfl)) ?_
                   try go_wp2
                   go_meet
                   case rel => exact ⟨_, ((t526 != t513)), (by first | rfl | (simp; done) | (simp [*]; done)), H', ⟨by have := HJ5.out; have := HJ37.out; have := HJ127.out; have := HJ136.out; have := HJ151.out; first | omega | exact Nat.le_refl _⟩, ⟨by (with_reducible repeat (first | refine blk_drewN ?_ _ | refine blk_drew ?_ | refine blk_alloc ?_ _)); exact BK510.out⟩, ⟨by (with_reducible repeat (first | refine blk_drewN ?_ _ | refine blk_drew ?_ | refine blk_alloc ?_ _)); exact BK517.out⟩, ⟨by repeat (first | (with_reducible first | exact HB.out | apply below_alloc | apply pw_below_drewN | apply below_drew1 | refine below_set ?_ GE510.out | refine below_set ?_ GE517.out) | exact HB.out)⟩⟩
                  ·rw [if_neg c177] at H
                   have c177b0 : (t514 == 3) = false := beq_eq_false_iff_ne.mpr c177
                   have c177b1 : (t514 != 3) = true := bne_iff_ne.mpr c177
                   (first | rw [c177b0] | (simp only [i64_w, i32_w]; rw [c177b0]) | skip)
                   have H' := Aside0.mk H
                   clear H
                   try go_wp2
                   have n0_ := Aside0.mk (blk_drew BK510.out)
                   have n1_ := Aside0.mk (blk_drew BK517.out)
                   have n2_ := Aside0.mk (below_drew1 HB.out)
                   clear BK510
                   clear BK517
                   clear HB
                   have BK510 := n0_
                   have BK517 := n1_
                   have HB := n2_
                   clear n0_ n1_ n2_
                   refine start_ (n := 12) (S := fun w' => w'.cell? ⟨gb517, 0, none⟩ = some (.int .i64 t512) ∧ w'.cell? ⟨gb517, 1, none⟩ = some (.int .i64 t513) ∧ w'.cell? ⟨gb517, 2, none⟩ = some (.int .i64 t514)) (ds := []) #[false, false, false, false, false, false, false, false, false, false, false, false] (by kernel_rfl) rfl rfl ⟨(blk_cell BK517.out 0).trans rfl, (blk_cell BK517.out 1).trans rfl, (blk_cell BK517.out 2).trans rfl⟩ (fun hHeld => ?_); refine with_tabW quoinlaw07_StepPlaces.tab46 quoinlaw07_StepPlaces.bits46 (fun HT_ HW_ => ?_)
                   generalize wc.drew = w181 at BK510 BK517 HB hHeld ⊢
                   refine pure_ (i := 0) (N := some 294) (v := ?_) (a' := ?_) #[true, false, false, false, false, false, false, false, false, false, false, false] rfl rfl (any_of HT_.out (by kernel_rfl)) (fun _ _ _ h => h) (Or.inl ⟨by rfl, ?_⟩) ?_ ?_
                   rotate_left
                   ·intro w'
                    go_simp
                    with_reducible rfl
                   rotate_left
                   ·simp only [Act.put, List.setIfInBounds_toArray, List.set_cons_zero, List.set_cons_succ, i64_w, i32_w]
                    rfl
                   refine take_ (i := 1) (N := some 295) (v := ?_) (a' := ?_) #[true, true, false, false, false, false, false, false, false, false, false, false] rfl rfl (take_ofW HT_.out HW_.out (by kernel_rfl)) (fun _ _ _ h => h) (Or.inl ⟨by rfl, ?_⟩) hHeld ?_ ?_
                   rotate_left
                   ·rintro w' ⟨s0, s1, s2⟩
                    go_simp
                    with_reducible rfl
                   rotate_left
                   ·simp only [Act.put, List.setIfInBounds_toArray, List.set_cons_zero, List.set_cons_succ, i64_w, i32_w]
                    rfl
                   refine pure_ (i := 2) (N := some 296) (v := ?_) (a' := ?_) #[true, true, true, false, false, false, false, false, false, false, false, false] rfl rfl (any_of HT_.out (by kernel_rfl)) (fun _ _ _ h => h) (Or.inl ⟨by rfl, ?_⟩) ?_ ?_
                   rotate_left
                   ·intro w'
                    go_simp
                    with_reducible rfl
                   rotate_left
                   ·simp only [Act.put, List.setIfInBounds_toArray, List.set_cons_zero, List.set_cons_succ, i64_w, i32_w]
                    rfl
                   refine pure_ (i := 3) (N := some 297) (v := ?_) (a' := ?_) #[true, true, true, true, false, false, false, false, false, false, false, false] rfl rfl (any_of HT_.out (by kernel_rfl)) (fun _ _ _ h => h) (Or.inl ⟨by rfl, ?_⟩) ?_ ?_
                   rotate_left
                   ·intro w'
                    go_simp
                    with_reducible rfl
                   rotate_left
                   ·simp only [Act.put, List.setIfInBounds_toArray, List.set_cons_zero, List.set_cons_succ, i64_w, i32_w]
                    rfl
                   refine pure_ (i := 4) (N := some 298) (v := undef) (a' := ?_) #[true, true, true, true, true, false, false, false, false, false, false, false] rfl rfl (any_of HT_.out (by kernel_rfl)) (fun _ _ _ h => h) (Or.inr ⟨by rfl, rfl⟩) ?_ ?_
                   rotate_left
                   ·simp only [Act.put, List.setIfInBounds_toArray, List.set_cons_zero, List.set_cons_succ, i64_w, i32_w]
                    rfl
                   refine pure_ (i := 5) (N := some 299) (v := undef) (a' := ?_) #[true, true, true, true, true, true, false, false, false, false, false, false] rfl rfl (any_of HT_.out (by kernel_rfl)) (fun _ _ _ h => h) (Or.inr ⟨by rfl, rfl⟩) ?_ ?_
                   rotate_left
                   ·simp only [Act.put, List.setIfInBounds_toArray, List.set_cons_zero, List.set_cons_succ, i64_w, i32_w]
                    rfl
                   refine pure_ (i := 6) (N := some 300) (v := undef) (a' := ?_) #[true, true, true, true, true, true, true, false, false, false, false, false] rfl rfl (any_of HT_.out (by kernel_rfl)) (fun _ _ _ h => h) (Or.inr ⟨by rfl, rfl⟩) ?_ ?_
                   rotate_left
                   ·simp only [Act.put, List.setIfInBounds_toArray, List.set_cons_zero, List.set_cons_succ, i64_w, i32_w]
                    rfl
                   refine pure_ (i := 7) (N := some 301) (v := undef) (a' := ?_) #[true, true, true, true, true, true, true, true, false, false, false, false] rfl rfl (any_of HT_.out (by kernel_rfl)) (fun _ _ _ h => h) (Or.inr ⟨by rfl, rfl⟩) ?_ ?_
                   rotate_left
                   ·simp only [Act.put, List.setIfInBounds_toArray, List.set_cons_zero, List.set_cons_succ, i64_w, i32_w]
                    rfl
                   refine pure_ (i := 8) (N := some 302) (v := undef) (a' := ?_) #[true, true, true, true, true, true, true, true, true, false, false, false] rfl rfl (any_of HT_.out (by kernel_rfl)) (fun _ _ _ h => h) (Or.inr ⟨by rfl, rfl⟩) ?_ ?_
                   rotate_left
                   ·simp only [Act.put, List.setIfInBounds_toArray, List.set_cons_zero, List.set_cons_succ, i64_w, i32_w]
                    rfl
                   refine pure_ (i := 9) (N := some 303) (v := undef) (a' := ?_) #[true, true, true, true, true, true, true, true, true, true, false, false] rfl rfl (any_of HT_.out (by kernel_rfl)) (fun _ _ _ h => h) (Or.inr ⟨by rfl, rfl⟩) ?_ ?_
                   rotate_left
                   ·simp only [Act.put, List.setIfInBounds_toArray, List.set_cons_zero, List.set_cons_succ, i64_w, i32_w]
                    rfl
                   refine pure_ (i := 10) (N := some 304) (v := undef) (a' := ?_) #[true, true, true, true, true, true, true, true, true, true, true, false] rfl rfl (any_of HT_.out (by kernel_rfl)) (fun _ _ _ h => h) (Or.inr ⟨by rfl, rfl⟩) ?_ ?_
                   rotate_left
                   ·simp only [Act.put, List.setIfInBounds_toArray, List.set_cons_zero, List.set_cons_succ, i64_w, i32_w]
                    rfl
                   refine pure_ (i := 11) (N := some 305) (v := ?_) (a' := ?_) #[true, true, true, true, true, true, true, true, true, true, true, true] rfl rfl (any_of HT_.out (by kernel_rfl)) (fun _ _ _ h => h) (Or.inl ⟨by rfl, ?_⟩) ?_ ?_
                   rotate_left
                   ·intro w'
                    go_simp
                    with_reducible rfl
                   rotate_left
                   ·simp only [Act.put, List.setIfInBounds_toArray, List.set_cons_zero, List.set_cons_succ, i64_w, i32_w]
                    rfl
                   refine done_ (done_of HT_.out (by kernel_rfl)) ?_
                   try go_wp2
                   go_meet
                   case rel => exact ⟨_, (true), (by first | rfl | (simp; done) | (simp [*]; done)), H', ⟨by have := HJ5.out; have := HJ37.out; have := HJ127.out; have := HJ136.out; have := HJ151.out; first | omega | exact Nat.le_refl _⟩, ⟨by (with_reducible repeat (first | refine blk_drewN ?_ _ | refine blk_drew ?_ | refine blk_alloc ?_ _)); exact BK510.out⟩, ⟨by (with_reducible repeat (first | refine blk_drewN ?_ _ | refine blk_drew ?_ | refine blk_alloc ?_ _)); exact BK517.out⟩, ⟨by repeat (first | (with_reducible first | exact HB.out | apply below_alloc | apply pw_below_drewN | apply below_drew1 | refine below_set ?_ GE510.out | refine below_set ?_ GE517.out) | exact HB.out)⟩⟩
                 case rest => as_aux_lemma =>
                  clear HC174
                  try clear c1
                  try clear p2
                  try clear p6
                  try clear c15
                  try clear c16
                  try clear c17
                  try clear c19
                  try clear p64
                  try clear c157
                  try clear c158
                  try clear c158b0
                  try clear c158b1
                  try clear c160
                  try clear c160b0
                  try clear c160b1
                  try clear c161
                  try clear c161b0
                  try clear c161b1
                  try clear c162
                  try clear c162b0
                  try clear c162b1
                  try clear c163
                  try clear c166
                  try clear c169
                  try clear c172
                  try clear c175
                  try clear c177
                  try clear c177b0
                  try clear c177b1
                  try clear hcz164_0
                  try clear hcz164_1
                  try clear hcz164_2
                  try clear hcz164_3
                  try clear hcz165_0
                  try clear hcz165_1
                  try clear hcz165_2
                  try clear hcz167_0
                  try clear hcz167_1
                  try clear hcz167_2
                  try clear hcz167_3
                  try clear hcz168_0
                  try clear hcz168_1
                  try clear hcz168_2
                  try clear hcz170_0
                  try clear hcz170_1
                  try clear hcz170_2
                  try clear hcz170_3
                  try clear hcz171_0
                  try clear hcz171_1
                  try clear hcz171_2
                  try clear hcz173_0
                  try clear hcz173_1
                  try clear hcz173_2
                  try clear hcz173_3
                  try clear hcz176_0
                  try clear hcz176_1
                  try clear hcz176_2
                  try clear hcz176_3
                  try clear hcz40_2
                  try clear hcz40_3
                  try clear hcz44_0
                  try clear hcz44_1
                  try clear hcz44_2
                  try clear hcz44_3
                  try clear hcz61_0
                  try clear hcz61_1
                  try clear hcz61_2
                  try clear hcz61_3
                  try clear hcz63_0
                  try clear hcz63_1
                  try clear hcz63_2
                  try clear hcz63_3
                  try clear hcz65_0
                  try clear hcz65_1
                  try clear hcz65_2
                  try clear hcz65_3
                  try clear hcz83_0
                  try clear hcz83_1
                  try clear hcz83_2
                  try clear hcz84_0
                  try clear hcz84_1
                  try clear hcz84_2
                  try clear hcz84_3
                  try clear hcz86_0
                  try clear hcz86_1
                  try clear hcz86_2
                  try clear hcz87_0
                  try clear hcz87_1
                  try clear hcz87_2
                  try clear hcz87_3
                  try clear hcz90_0
                  try clear hcz90_1
                  try clear hcz90_2
                  try clear hcz91_0
                  try clear hcz91_1
                  try clear hcz91_2
                  try clear hcz91_3
                  try clear hcz93_0
                  try clear hcz93_1
                  try clear hcz93_2
                  try clear hcz94_0
                  try clear hcz94_1
                  try clear hcz94_2
                  try clear hcz94_3
                  try clear hcz96_0
                  try clear hcz96_1
                  try clear hcz96_2
                  try clear hcz97_0
                  try clear hcz97_1
                  try clear hcz97_2
                  try clear hcz97_3
                  try clear hcz99_0
                  try clear hcz99_1
                  try clear hcz99_2
                  try clear hcz9_0
                  try clear hcz9_1
                  try clear hcz9_2
                  try clear hcz9_3
                  try clear hfz100_0
                  try clear hfz100_1
                  try clear hfz100_2
                  try clear hfz100_3
                  try clear hfz102_0
                  try clear hfz102_1
                  try clear hfz102_2
                  try clear hfz103_0
                  try clear hfz103_1
                  try clear hfz103_2
                  try clear hfz103_3
                  try clear hfz109_0
                  try clear hfz109_1
                  try clear hfz109_2
                  try clear hfz110_0
                  try clear hfz110_1
                  try clear hfz110_2
                  try clear hfz110_3
                  try clear hfz113_0
                  try clear hfz113_1
                  try clear hfz113_2
                  try clear hfz114_0
                  try clear hfz114_1
                  try clear hfz114_2
                  try clear hfz114_3
                  try clear hfz116_0
                  try clear hfz116_1
                  try clear hfz116_2
                  try clear hfz117_0
                  try clear hfz117_1
                  try clear hfz117_2
                  try clear hfz117_3
                  try clear hfz119_0
                  try clear hfz119_1
                  try clear hfz119_2
                  try clear hfz121_0
                  try clear hfz121_1
                  try clear hfz121_2
                  try clear hfz125_0
                  try clear hfz125_1
                  try clear hfz125_2
                  try clear hfz127_0
                  try clear hfz127_1
                  try clear hfz127_2
                  try clear hfz134_0
                  try clear hfz134_1
                  try clear hfz134_2
                  try clear hfz136_0
                  try clear hfz136_1
                  try clear hfz136_2
                  try clear hfz13_0
                  try clear hfz13_1
                  try clear hfz13_2
                  try clear hfz142_0
                  try clear hfz142_1
                  try clear hfz142_2
                  try clear hfz143_0
                  try clear hfz143_1
                  try clear hfz143_2
                  try clear hfz143_3
                  try clear hfz145_0
                  try clear hfz145_1
                  try clear hfz145_2
                  try clear hfz146_0
                  try clear hfz146_1
                  try clear hfz146_2
                  try clear hfz146_3
                  try clear hfz148_0
                  try clear hfz148_1
                  try clear hfz148_2
                  try clear hfz149_0
                  try clear hfz149_1
                  try clear hfz149_2
                  try clear hfz149_3
                  try clear hfz154_0
                  try clear hfz154_1
                  try clear hfz154_2
                  try clear hfz164_0
                  try clear hfz164_1
                  try clear hfz164_2
                  try clear hfz164_3
                  try clear hfz165_0
                  try clear hfz165_1
                  try clear hfz165_2
                  try clear hfz167_0
                  try clear hfz167_1
                  try clear hfz167_2
                  try clear hfz167_3
                  try clear hfz168_0
                  try clear hfz168_1
                  try clear hfz168_2
                  try clear hfz16_0
                  try clear hfz16_1
                  try clear hfz16_2
                  try clear hfz16_3
                  try clear hfz170_0
                  try clear hfz170_1
                  try clear hfz170_2
                  try clear hfz170_3
                  try clear hfz171_0
                  try clear hfz171_1
                  try clear hfz171_2
                  try clear hfz173_0
                  try clear hfz173_1
                  try clear hfz173_2
                  try clear hfz173_3
                  try clear hfz176_0
                  try clear hfz176_1
                  try clear hfz176_2
                  try clear hfz176_3
                  try clear hfz19_0
                  try clear hfz19_1
                  try clear hfz19_2
                  try clear hfz19_3
                  try clear hfz22_0
                  try clear hfz22_1
                  try clear hfz22_2
                  try clear hfz22_3
                  try clear hfz25_0
                  try clear hfz25_1
                  try clear hfz25_2
                  try clear hfz25_3
                  try clear hfz27_0
                  try clear hfz27_1
                  try clear hfz27_2
                  try clear hfz27_3
                  try clear hfz32_0
                  try clear hfz32_1
                  try clear hfz32_2
                  try clear hfz34_0
                  try clear hfz34_1
                  try clear hfz34_2
                  try clear hfz40_0
                  try clear hfz40_1
                  try clear hfz40_2
                  try clear hfz40_3
                  try clear hfz44_0
                  try clear hfz44_1
                  try clear hfz44_2
                  try clear hfz44_3
                  try clear hfz61_0
                  try clear hfz61_1
                  try clear hfz61_2
                  try clear hfz61_3
                  try clear hfz63_0
                  try clear hfz63_1
                  try clear hfz63_2
                  try clear hfz63_3
                  try clear hfz65_0
                  try clear hfz65_1
                  try clear hfz65_2
                  try clear hfz65_3
                  try clear hfz83_0
                  try clear hfz83_1
                  try clear hfz83_2
                  try clear hfz84_0
                  try clear hfz84_1
                  try clear hfz84_2
                  try clear hfz84_3
                  try clear hfz86_0
                  try clear hfz86_1
                  try clear hfz86_2
                  try clear hfz87_0
                  try clear hfz87_1
                  try clear hfz87_2
                  try clear hfz87_3
                  try clear hfz90_0
                  try clear hfz90_1
                  try clear hfz90_2
                  try clear hfz91_0
                  try clear hfz91_1
                  try clear hfz91_2
                  try clear hfz91_3
                  try clear hfz93_0
                  try clear hfz93_1
                  try clear hfz93_2
                  try clear hfz94_0
                  try clear hfz94_1
                  try clear hfz94_2
                  try clear hfz94_3
                  try clear hfz96_0
                  try clear hfz96_1
                  try clear hfz96_2
                  try clear hfz97_0
                  try clear hfz97_1
                  try clear hfz97_2
                  try clear hfz97_3
                  try clear hfz99_0
                  try clear hfz99_1
                  try clear hfz99_2
                  try clear hfz9_0
                  try clear hfz9_1
                  try clear hfz9_2
                  try clear hfz9_3
                  try clear p2
                  try clear p6
                  try clear p64
                  obtain ⟨kq, x305_173, rfl, HA, HJ173, BK510, BK517, HB⟩ := hcut
                  cases kq with
                  | zero => exact absurd HA.out (by simp [quoinlaw07_StepPlaces.j10])
                  | succ kj173 =>
                   have H := HA.out
                   clear HA
                   simp only [quoinlaw07_StepPlaces.j10] at H
                   by_cases c182 : x305_173 = true
                   ·subst c182
                    have H1 : (some false) = some r := by rw [if_pos rfl] at H; exact H
                    clear H
                    have H := H1
                    clear H1
                    obtain rfl := Option.some.inj H
                    go_wp2
                    go_ret
                    exact ⟨by first | rfl | (simp [errW_none, errW_some] <;> rfl) | (simp only [← hji37]; first | rfl | (simp [errW_none, errW_some] <;> rfl)) | (simp [*, errW_none, errW_some] <;> rfl), by repeat (first | (with_reducible first | exact HB.out | apply below_alloc | apply pw_below_drewN | apply below_drew1 | refine below_set ?_ GE510.out | refine below_set ?_ GE517.out) | exact HB.out)⟩
                   ·replace c182 := Bool.eq_false_iff.mpr c182
                    subst c182
                    have H1 : (if a1_3.toList = ([106] : List UInt8) then (some (t515 == a1_1)) else (if a1_3.toList = ([107] : List UInt8) then (some (t515 == a1_1)) else ((quoinlaw07_column.f kj173 l0 t513).bind fun t527 => (some (t515 == t527))))) = some r := by rw [if_neg (show ¬ (false = true) by decide)] at H; exact H
                    clear H
                    have H := H1
                    clear H1
                    by_cases c183 : a1_3.toList = ([106] : List UInt8)
                    ·rw [if_pos c183] at H
                     have c183b0 : (a1_3.toList == ([106] : List UInt8)) = true := beq_iff_eq.mpr c183
                     have c183b1 : (a1_3.toList != ([106] : List UInt8)) = false := bne_eq_false_iff_eq.mpr c183
                     clear c183
                     obtain rfl := Option.some.inj H
                     have hnb184 := NB510_517.out
                     have hnc184 := NB517_510.out
                     have hcz185_0 : wc.cell? ⟨gb510, 0, none⟩ = some (.int .i64 a1_0) := (blk_cell BK510.out 0).trans rfl
                     have hcz185_1 : wc.cell? ⟨gb510, 1, none⟩ = some (.int .i64 a1_1) := (blk_cell BK510.out 1).trans rfl
                     have hcz185_2 : wc.cell? ⟨gb510, 2, none⟩ = some (.int .i64 a1_2) := (blk_cell BK510.out 2).trans rfl
                     have hcz185_3 : wc.cell? ⟨gb510, 3, none⟩ = some (.string a1_3) := (blk_cell BK510.out 3).trans rfl
                     have hfz185_0 := blk_frozen BK510.out 0
                     have hfz185_1 := blk_frozen BK510.out 1
                     have hfz185_2 := blk_frozen BK510.out 2
                     have hfz185_3 := blk_frozen BK510.out 3
                     go_wp2
                     go_ret
                     exact ⟨by first | rfl | (simp [errW_none, errW_some] <;> rfl) | (simp only [← hji37]; first | rfl | (simp [errW_none, errW_some] <;> rfl)) | (simp [*, errW_none, errW_some] <;> rfl), by repeat (first | (with_reducible first | exact HB.out | apply below_alloc | apply pw_below_drewN | apply below_drew1 | refine below_set ?_ GE510.out | refine below_set ?_ GE517.out) | exact HB.out)⟩
                    ·rw [if_neg c183] at H
                     have c183b0 : (a1_3.toList == ([106] : List UInt8)) = false := beq_eq_false_iff_ne.mpr c183
                     have c183b1 : (a1_3.toList != ([106] : List UInt8)) = true := bne_iff_ne.mpr c183
                     by_cases c186 : a1_3.toList = ([107] : List UInt8)
                     ·rw [if_pos c186] at H
                      have c186b0 : (a1_3.toList == ([107] : List UInt8)) = true := beq_iff_eq.mpr c186
                      have c186b1 : (a1_3.toList != ([107] : List UInt8)) = false := bne_eq_false_iff_eq.mpr c186
                      clear c186
                      obtain rfl := Option.some.inj H
                      have hnb187 := NB510_517.out
                      have hnc187 := NB517_510.out
                      have hcz188_0 : wc.cell? ⟨gb510, 0, none⟩ = some (.int .i64 a1_0) := (blk_cell BK510.out 0).trans rfl
                      have hcz188_1 : wc.cell? ⟨gb510, 1, none⟩ = some (.int .i64 a1_1) := (blk_cell BK510.out 1).trans rfl
                      have hcz188_2 : wc.cell? ⟨gb510, 2, none⟩ = some (.int .i64 a1_2) := (blk_cell BK510.out 2).trans rfl
                      have hcz188_3 : wc.cell? ⟨gb510, 3, none⟩ = some (.string a1_3) := (blk_cell BK510.out 3).trans rfl
                      have hfz188_0 := blk_frozen BK510.out 0
                      have hfz188_1 := blk_frozen BK510.out 1
                      have hfz188_2 := blk_frozen BK510.out 2
                      have hfz188_3 := blk_frozen BK510.out 3
                      go_wp2
                      go_ret
                      exact ⟨by first | rfl | (simp [errW_none, errW_some] <;> rfl) | (simp only [← hji37]; first | rfl | (simp [errW_none, errW_some] <;> rfl)) | (simp [*, errW_none, errW_some] <;> rfl), by repeat (first | (with_reducible first | exact HB.out | apply below_alloc | apply pw_below_drewN | apply below_drew1 | refine below_set ?_ GE510.out | refine below_set ?_ GE517.out) | exact HB.out)⟩
                     ·rw [if_neg c186] at H
                      have c186b0 : (a1_3.toList == ([107] : List UInt8)) = false := beq_eq_false_iff_ne.mpr c186
                      have c186b1 : (a1_3.toList != ([107] : List UInt8)) = true := bne_iff_ne.mpr c186
                      replace H := Option.bind_eq_some_iff.mp H
                      obtain ⟨t527, A1890, H⟩ := H
                      replace H : (some (t515 == t527)) = some r := H
                      have A189 := Aside0.mk A1890
                      clear A1890
                      obtain rfl := Option.some.inj H
                      have hnb190 := NB510_517.out
                      have hnc190 := NB517_510.out
                      have hcz191_0 : wc.cell? ⟨gb510, 0, none⟩ = some (.int .i64 a1_0) := (blk_cell BK510.out 0).trans rfl
                      have hcz191_1 : wc.cell? ⟨gb510, 1, none⟩ = some (.int .i64 a1_1) := (blk_cell BK510.out 1).trans rfl
                      have hcz191_2 : wc.cell? ⟨gb510, 2, none⟩ = some (.int .i64 a1_2) := (blk_cell BK510.out 2).trans rfl
                      have hcz191_3 : wc.cell? ⟨gb510, 3, none⟩ = some (.string a1_3) := (blk_cell BK510.out 3).trans rfl
                      have hfz191_0 := blk_frozen BK510.out 0
                      have hfz191_1 := blk_frozen BK510.out 1
                      have hfz191_2 := blk_frozen BK510.out 2
                      have hfz191_3 := blk_frozen BK510.out 3
                      have hcz192_0 : wc.cell? ⟨gb517, 0, none⟩ = some (.int .i64 t512) := (blk_cell BK517.out 0).trans rfl
                      have hcz192_1 : wc.cell? ⟨gb517, 1, none⟩ = some (.int .i64 t513) := (blk_cell BK517.out 1).trans rfl
                      have hcz192_2 : wc.cell? ⟨gb517, 2, none⟩ = some (.int .i64 t514) := (blk_cell BK517.out 2).trans rfl
                      have hfz192_0 := blk_frozen BK517.out 0
                      have hfz192_1 := blk_frozen BK517.out 1
                      have hfz192_2 := blk_frozen BK517.out 2
                      go_wp2_with (first | ((with_reducible refine gate_callee (f := 18) rfl ?_); refine goesL_ (some 322) rfl rfl Try.func18 (by kernel_rfl) rfl #[.slice A0 l0.length c0, .int .i64 t513] rfl (by (try simp only [List.map_toArray, List.map_cons, List.map_nil]); first | done | rfl | (simp only [List.length_drop, List.length_take]; rfl)) ?_; (with_reducible refine (quoinlaw07_column.calls kj173 _ _ l0 t513 t527 _ ?side1 ?side2 A189.out).mono ?_); (case side1 => repeat (first | exact (Kd.C_below HR0.out HB.out) | (with_reducible refine Kd.C_alloc ?_ _) | (with_reducible refine Kd.C_drewN ?_ _) | (with_reducible refine Kd.C_drew ?_))); (case side2 => exact HC0.out); rintro e w' ⟨rfl, ⟨nd, rfl⟩⟩; refine ⟨_, rfl, ?_⟩))
                      go_ret
                      exact ⟨by first | rfl | (simp [errW_none, errW_some] <;> rfl) | (simp only [← hji37]; first | rfl | (simp [errW_none, errW_some] <;> rfl)) | (simp [*, errW_none, errW_some] <;> rfl), by repeat (first | (with_reducible first | exact HB.out | apply below_alloc | apply pw_below_drewN | apply below_drew1 | refine below_set ?_ GE510.out | refine below_set ?_ GE517.out) | exact HB.out)⟩
 ·replace c4 := Bool.eq_false_iff.mpr c4
  subst c4
  have H1 : (some false) = some r := by rw [if_neg (show ¬ (false = true) by decide)] at H; exact H
  clear H
  have H := H1
  clear H1
  obtain rfl := Option.some.inj H
  go_enter Try.func6, Try.ntmps6
  go_wp2_with (first | ((with_reducible refine gate_dst (N := 3) rfl ?_); (try (refine gate_guard (by rfl) ?_; dsimp only)); refine box_event ?hg (N := 3) ?hd (cs := #[.int .i64 a1_0, .int .i64 a1_1, .int .i64 a1_2, .string a1_3]) (t := 27) ?hr ?_; (case hd => rfl); (case hg => rfl); (case hr => first | (go_simp; done) | (go_simp; rfl)); intro gb510 hg w193 hbox hb; have n0_ := Aside0.mk (below_step (by repeat (first | (with_reducible first | exact HB.out | apply below_alloc | apply pw_below_drewN | apply below_drew1) | exact HB.out)) hb); have n1_ := Aside0.mk (hbox); have n2_ := Aside0.mk ((by rw [hg]; exact (below_size (by repeat (first | (with_reducible first | exact HB.out | apply below_alloc | apply pw_below_drewN | apply below_drew1) | exact HB.out))) : w.heap.size ≤ gb510)); have n3_ := Aside0.mk ((by rw [hg]; exact (below_size (by repeat (first | (with_reducible first | exact HB.out | apply below_alloc | apply pw_below_drewN | apply below_drew1) | exact HB.out))) : w.heap.size ≤ gb510)); clear HB; have HB := n0_; have BK510 := n1_; have GW510 := n2_; have GE510 := n3_; clear n0_ n1_ n2_ n3_; clear hb hbox hg) | ((with_reducible refine gate_callee (f := 7) rfl ?_); refine goesL_ (some 17) rfl rfl Try.func7 (by kernel_rfl) rfl #[] rfl (by (try simp only [List.map_toArray, List.map_cons, List.map_nil]); first | done | rfl | (simp only [List.length_drop, List.length_take]; rfl)) ?_; (with_reducible refine (quoinlaw07_awake.calls k  false _ A3.out).mono ?_); rintro e w194 ⟨rfl, hb⟩; refine ⟨_, rfl, ?_⟩; have n0_ := Aside0.mk (blk_below (g := gb510) (o := .cells #[.int .i64 a1_0, .int .i64 a1_1, .int .i64 a1_2, .string a1_3] 27 (0, 0)) (by (with_reducible repeat (first | refine blk_drewN ?_ _ | refine blk_drew ?_ | refine blk_alloc ?_ _)); exact BK510.out) hb); have n1_ := Aside0.mk (below_step (by repeat (first | (with_reducible first | exact HB.out | apply below_alloc | apply pw_below_drewN | apply below_drew1 | refine below_set ?_ GE510.out) | exact HB.out)) hb); clear BK510; clear HB; have BK510 := n0_; have HB := n1_; clear n0_ n1_; (try clear hb); (try clear hb2); (try clear hk); (try clear hi)))
  go_ret
  exact ⟨by first | rfl | (simp [errW_none, errW_some] <;> rfl) | (simp [*, errW_none, errW_some] <;> rfl), by repeat (first | (with_reducible first | exact HB.out | apply below_alloc | apply pw_below_drewN | apply below_drew1 | refine below_set ?_ GE510.out) | exact HB.out)⟩

end Go.Proofs.Ytofkcdnkbjpmmaa.X
end
