-- Written by wip/xprint.py over the kit's print.py: the Lean function of each Go function, and the proof that the Go text comes to it.
import Derived.Test.YtdhdngoeaneanaaDoorX0
import Derived.Test.YtdhdngoeaneanaaDoorX3
import Derived.Test.YtdhdngoeaneanaaDoorX5
namespace Go.Proofs.YtdhdngoeaneanaaDoor.X
open Go.RowKit Go.Proofs.YtdhdngoeaneanaaDoorW.PrintWords Go.Proofs.YtdhdngoeaneanaaDoorW.PrintLast Go.Proofs.YtdhdngoeaneanaaDoorW.PrintMore
attribute [local go_sem] max2_int min2_int max_two min_two max_three min_three max_four min_four   -- for this text's walks alone
set_option linter.unusedVariables false
set_option linter.unusedSimpArgs false

/-! ### address_sound: function 28 -/
mutual
def address_sound.j0 : Nat → Bool → Int → Int → Int → List Int → Int → Bool → Option (Bool)
  | 0, _, _, _, _, _, _, _ => none
  | k + 1, x16, x148000, x148001, x148002, x148003, x148004, x148005 => if x16 = true then (some false) else (if x148000 = 0 then (address_sound.j1 k x148000 (x148000 == 0) x148000 x148001 x148002 x148003 x148004 x148005) else (if x148000 = 46 then (address_sound.j1 k x148000 (x148000 == 46) x148000 x148001 x148002 x148003 x148004 x148005) else (if x148000 = 36 then (address_sound.j1 k x148000 (x148000 == 36) x148000 x148001 x148002 x148003 x148004 x148005) else (address_sound.j1 k x148000 (x148000 == 39) x148000 x148001 x148002 x148003 x148004 x148005))))
def address_sound.j1 : Nat → Int → Bool → Int → Int → Int → List Int → Int → Bool → Option (Bool)
  | 0, _, _, _, _, _, _, _, _ => none
  | k + 1, x18, x19, x148000, x148001, x148002, x148003, x148004, x148005 => if x19 = true then (some true) else (if x18 = 110 then (if x148001 ≥ 0 then (some (decide (x148001 ≤ 999999999))) else (some false)) else (if x18 = 47 then (address_sound.j2 k (x18 == 47) x148000 x148001 x148002 x148003 x148004 x148005) else (address_sound.j2 k (x18 == 63) x148000 x148001 x148002 x148003 x148004 x148005)))
def address_sound.j2 : Nat → Bool → Int → Int → Int → List Int → Int → Bool → Option (Bool)
  | 0, _, _, _, _, _, _, _ => none
  | k + 1, x34, x148000, x148001, x148002, x148003, x148004, x148005 => if x34 = true then ((bytes_Clone.f x148003).bind fun t148 => ((some (([x148000] : List Int) : List Int)).bind fun y151 => (if t148.length + y151.length < 140737488355328 then ((address_closing.f k (t148 ++ y151) x148000).bind fun t157 => (some (t157 == (x148003.length : Int)))) else (none)))) else (some false)
end
def address_sound.f (k : Nat) (a0_0 : Int) (a0_1 : Int) (a0_2 : Int) (l0_3 : List Int) (a0_4 : Int) (a0_5 : Bool) : Option (Bool) := if a0_5 = true then (if a0_4 < (-999999999) then (address_sound.j0 k true a0_0 a0_1 a0_2 l0_3 a0_4 a0_5) else (address_sound.j0 k (decide (a0_4 > 999999999)) a0_0 a0_1 a0_2 l0_3 a0_4 a0_5)) else (address_sound.j0 k true a0_0 a0_1 a0_2 l0_3 a0_4 a0_5)
theorem address_sound.mono_l : ∀ k, (∀ y0 y1 y2 y3 y4 y5 y6, LeO (address_sound.j0 k y0 y1 y2 y3 y4 y5 y6) (address_sound.j0 (k + 1) y0 y1 y2 y3 y4 y5 y6)) ∧ (∀ y0 y1 y2 y3 y4 y5 y6 y7, LeO (address_sound.j1 k y0 y1 y2 y3 y4 y5 y6 y7) (address_sound.j1 (k + 1) y0 y1 y2 y3 y4 y5 y6 y7)) ∧ (∀ y0 y1 y2 y3 y4 y5 y6, LeO (address_sound.j2 k y0 y1 y2 y3 y4 y5 y6) (address_sound.j2 (k + 1) y0 y1 y2 y3 y4 y5 y6))
  | 0 => ⟨fun _ _ _ _ _ _ _ r h => by simp [address_sound.j0] at h, fun _ _ _ _ _ _ _ _ r h => by simp [address_sound.j1] at h, fun _ _ _ _ _ _ _ r h => by simp [address_sound.j2] at h⟩
  | k + 1 => by
    obtain ⟨ih0, ih1, ih2⟩ := address_sound.mono_l k
    refine ⟨?_, ?_, ?_⟩
    · intro y0 y1 y2 y3 y4 y5 y6
      unfold address_sound.j0
      repeat' first
      | (with_reducible exact ih0 _ _ _ _ _ _ _)
      | (with_reducible exact ih1 _ _ _ _ _ _ _ _)
      | (with_reducible exact ih2 _ _ _ _ _ _ _)
      | (with_reducible exact address_closing.mono _ _ _)
      | (with_reducible exact LeO.refl _)
      | (with_reducible exact LeO.none _)
      | (with_reducible refine LeO.ite ?_ ?_)
      | (with_reducible refine LeO.bind ?_ (fun _ => ?_))
      | exact ih0 _ _ _ _ _ _ _
      | exact ih1 _ _ _ _ _ _ _ _
      | exact ih2 _ _ _ _ _ _ _
      | exact address_closing.mono _ _ _
      | exact LeO.none _
      | refine LeO.ite ?_ ?_
      | refine LeO.bind ?_ (fun _ => ?_)
    · intro y0 y1 y2 y3 y4 y5 y6 y7
      unfold address_sound.j1
      repeat' first
      | (with_reducible exact ih0 _ _ _ _ _ _ _)
      | (with_reducible exact ih1 _ _ _ _ _ _ _ _)
      | (with_reducible exact ih2 _ _ _ _ _ _ _)
      | (with_reducible exact address_closing.mono _ _ _)
      | (with_reducible exact LeO.refl _)
      | (with_reducible exact LeO.none _)
      | (with_reducible refine LeO.ite ?_ ?_)
      | (with_reducible refine LeO.bind ?_ (fun _ => ?_))
      | exact ih0 _ _ _ _ _ _ _
      | exact ih1 _ _ _ _ _ _ _ _
      | exact ih2 _ _ _ _ _ _ _
      | exact address_closing.mono _ _ _
      | exact LeO.none _
      | refine LeO.ite ?_ ?_
      | refine LeO.bind ?_ (fun _ => ?_)
    · intro y0 y1 y2 y3 y4 y5 y6
      unfold address_sound.j2
      repeat' first
      | (with_reducible exact ih0 _ _ _ _ _ _ _)
      | (with_reducible exact ih1 _ _ _ _ _ _ _ _)
      | (with_reducible exact ih2 _ _ _ _ _ _ _)
      | (with_reducible exact address_closing.mono _ _ _)
      | (with_reducible exact LeO.refl _)
      | (with_reducible exact LeO.none _)
      | (with_reducible refine LeO.ite ?_ ?_)
      | (with_reducible refine LeO.bind ?_ (fun _ => ?_))
      | exact ih0 _ _ _ _ _ _ _
      | exact ih1 _ _ _ _ _ _ _ _
      | exact ih2 _ _ _ _ _ _ _
      | exact address_closing.mono _ _ _
      | exact LeO.none _
      | refine LeO.ite ?_ ?_
      | refine LeO.bind ?_ (fun _ => ?_)
theorem address_sound.mono : ∀ a0 a1 a2 a3 a4 a5 k, LeO (address_sound.f k a0 a1 a2 a3 a4 a5) (address_sound.f (k + 1) a0 a1 a2 a3 a4 a5) := by
  intro a0 a1 a2 a3 a4 a5 k
  obtain ⟨ih0, ih1, ih2⟩ := address_sound.mono_l k
  unfold address_sound.f
  repeat' first
      | (with_reducible exact ih0 _ _ _ _ _ _ _)
      | (with_reducible exact ih1 _ _ _ _ _ _ _ _)
      | (with_reducible exact ih2 _ _ _ _ _ _ _)
      | (with_reducible exact address_closing.mono _ _ _)
      | (with_reducible exact LeO.refl _)
      | (with_reducible exact LeO.none _)
      | (with_reducible refine LeO.ite ?_ ?_)
      | (with_reducible refine LeO.bind ?_ (fun _ => ?_))
      | exact ih0 _ _ _ _ _ _ _
      | exact ih1 _ _ _ _ _ _ _ _
      | exact ih2 _ _ _ _ _ _ _
      | exact address_closing.mono _ _ _
      | exact LeO.none _
      | refine LeO.ite ?_ ?_
      | refine LeO.bind ?_ (fun _ => ?_)
def address_sound.T13 : Bool × List (List Nat × List Nat) := (true, [([], []), ([0], [0]), ([1], [1]), ([], []), ([3], [3]), ([4], [4]), ([2, 5, 2], [2, 5]), ([6, 6, 0, 1, 2, 3, 4, 5, 6], [6])])
def address_sound.B13 : List Nat := [0, 1, 3, 0, 8, 24, 63, 127]
theorem address_sound.tab13 : rtab .any (opsOf Tryd.f28 13) = address_sound.T13 := by kernel_rfl
theorem address_sound.bits13 : waitsOk address_sound.T13.2 address_sound.B13 = true := by kernel_rfl
def address_sound.T14 : Bool × List (List Nat × List Nat) := (true, [([], []), ([], []), ([1], [1]), ([0, 2], [0, 2]), ([], []), ([4], [4]), ([5], [5]), ([3, 6], [3, 6]), ([7, 3, 0, 1, 2, 3, 4, 5, 6, 7], [7])])
def address_sound.B14 : List Nat := [0, 0, 2, 7, 0, 16, 48, 127, 255]
theorem address_sound.tab14 : rtab .any (opsOf Tryd.f28 14) = address_sound.T14 := by kernel_rfl
theorem address_sound.bits14 : waitsOk address_sound.T14.2 address_sound.B14 = true := by kernel_rfl
set_option maxHeartbeats 8000000 in
set_option maxRecDepth 100000 in
theorem address_sound.calls (k : Nat) (a0_0 : Int) (a0_1 : Int) (a0_2 : Int) (A0_3 : Option Addr) (c0_3 : Nat) (l0_3 : List Int) (a0_4 : Int) (a0_5 : Bool) (r : Bool) (w : World) (hr0_3 : Kd.C (Kd.int .u8) w A0_3 l0_3.length l0_3) (hc0_3 : l0_3.length ≤ c0_3) (h : address_sound.f k a0_0 a0_1 a0_2 l0_3 a0_4 a0_5 = some r) :
    Calls Tryd.prog 28 #[.agg #[.int .u8 a0_0, .int .i64 a0_1, .int .u8 a0_2, .slice A0_3 l0_3.length c0_3, .int .i64 a0_4, .bool a0_5]] w fun e w' => e = .returned (.bool r) ∧ Below w.heap.size w w' := by
  have hu25 := Tryd.underlying25
  have HR0_3 := Aside0.mk hr0_3
  have HC0_3 := Aside0.mk hc0_3
  clear hr0_3 hc0_3
  have HB := Aside0.mk (Below.refl w.heap.size w)
  have H : (if a0_5 = true then (if a0_4 < (-999999999) then (address_sound.j0 k true a0_0 a0_1 a0_2 l0_3 a0_4 a0_5) else (address_sound.j0 k (decide (a0_4 > 999999999)) a0_0 a0_1 a0_2 l0_3 a0_4 a0_5)) else (address_sound.j0 k true a0_0 a0_1 a0_2 l0_3 a0_4 a0_5)) = some r := h
  clear h
  have HC2 := Aside0.mk H
  clear H
  go_enter Tryd.func28, Tryd.ntmps28
  go_upto_region 1 with (first | ((with_reducible refine gate_dst (N := 1) rfl ?_); refine box_event ?hg (N := 1) ?hd (cs := #[.int .u8 a0_0, .int .i64 a0_1, .int .u8 a0_2, .slice A0_3 l0_3.length c0_3, .int .i64 a0_4, .bool a0_5]) (t := 25) ?hr ?_; (case hd => rfl); (case hg => rfl); (case hr => first | (go_simp; done) | (go_simp; rfl)); intro gb147 hg w3 hbox hb; have n0_ := Aside0.mk (below_step (by repeat (first | (with_reducible first | exact HB.out | apply below_alloc | apply pw_below_drewN | apply below_drew1) | exact HB.out)) hb); have n1_ := Aside0.mk (hbox); have n2_ := Aside0.mk ((by rw [hg]; exact (below_size (by repeat (first | (with_reducible first | exact HB.out | apply below_alloc | apply pw_below_drewN | apply below_drew1) | exact HB.out))) : w.heap.size ≤ gb147)); have n3_ := Aside0.mk ((by rw [hg]; exact (below_size (by repeat (first | (with_reducible first | exact HB.out | apply below_alloc | apply pw_below_drewN | apply below_drew1) | exact HB.out))) : w.heap.size ≤ gb147)); clear HB; have HB := n0_; have BK147 := n1_; have GW147 := n2_; have GE147 := n3_; clear n0_ n1_ n2_ n3_; clear hb hbox hg))
  (try simp only [Act.put, List.setIfInBounds_toArray, List.set_cons_zero, List.set_cons_succ])
  go_cut [16] (fun v16 wc => ∃ (kq : Nat) (x16_1 : Bool), v16 = .bool x16_1 ∧ Aside0 (address_sound.j0 kq x16_1 a0_0 a0_1 a0_2 l0_3 a0_4 a0_5 = some r) ∧ Aside0 (kq ≤ k) ∧ Aside0 (wc.heap[gb147]? = some (.cells #[.int .u8 a0_0, .int .i64 a0_1, .int .u8 a0_2, (.slice A0_3 l0_3.length c0_3), .int .i64 a0_4, .bool a0_5] 25 (0, 0))) ∧ Aside0 (Below w.heap.size w wc))
  case first =>
    have H := HC2.out
    clear HC2
    by_cases c4 : a0_5 = true
    · subst c4
      have H1 : (if a0_4 < (-999999999) then (address_sound.j0 k true a0_0 a0_1 a0_2 l0_3 a0_4 true) else (address_sound.j0 k (decide (a0_4 > 999999999)) a0_0 a0_1 a0_2 l0_3 a0_4 true)) = some r := by rw [if_pos rfl] at H; exact H
      clear H
      have H := H1
      clear H1
      by_cases c5 : a0_4 < (-999999999)
      · rw [if_pos c5] at H
        have c5b0 : decide (a0_4 < (-999999999)) = true := decide_eq_true c5
        clear c5
        (first | rw [c5b0] | (simp only [i64_w, i32_w]; rw [c5b0]) | skip)
        have H' := Aside0.mk H
        clear H
        have hcz6_0 : w3.cell? ⟨gb147, 0, none⟩ = some (.int .u8 a0_0) := (blk_cell BK147.out 0).trans rfl
        have hcz6_1 : w3.cell? ⟨gb147, 1, none⟩ = some (.int .i64 a0_1) := (blk_cell BK147.out 1).trans rfl
        have hcz6_2 : w3.cell? ⟨gb147, 2, none⟩ = some (.int .u8 a0_2) := (blk_cell BK147.out 2).trans rfl
        have hcz6_3 : w3.cell? ⟨gb147, 3, none⟩ = some (.slice A0_3 l0_3.length c0_3) := (blk_cell BK147.out 3).trans rfl
        have hcz6_4 : w3.cell? ⟨gb147, 4, none⟩ = some (.int .i64 a0_4) := (blk_cell BK147.out 4).trans rfl
        have hcz6_5 : w3.cell? ⟨gb147, 5, none⟩ = some (.bool true) := (blk_cell BK147.out 5).trans rfl
        have hfz6_0 := blk_frozen BK147.out 0
        have hfz6_1 := blk_frozen BK147.out 1
        have hfz6_2 := blk_frozen BK147.out 2
        have hfz6_3 := blk_frozen BK147.out 3
        have hfz6_4 := blk_frozen BK147.out 4
        have hfz6_5 := blk_frozen BK147.out 5
        go_wp2
        go_meet
        case rel => exact ⟨_, (true), (by first | rfl | (simp; done) | (simp [*]; done)), H', ⟨by first | omega | exact Nat.le_refl _⟩, ⟨by (with_reducible repeat (first | refine blk_drewN ?_ _ | refine blk_drew ?_ | refine blk_alloc ?_ _)); exact BK147.out⟩, ⟨by repeat (first | (with_reducible first | exact HB.out | apply below_alloc | apply pw_below_drewN | apply below_drew1 | refine below_set ?_ GE147.out) | exact HB.out)⟩⟩
      · rw [if_neg c5] at H
        have c5b0 : decide (a0_4 < (-999999999)) = false := decide_eq_false c5
        clear c5
        (first | rw [c5b0] | (simp only [i64_w, i32_w]; rw [c5b0]) | skip)
        have H' := Aside0.mk H
        clear H
        have hcz7_0 : w3.cell? ⟨gb147, 0, none⟩ = some (.int .u8 a0_0) := (blk_cell BK147.out 0).trans rfl
        have hcz7_1 : w3.cell? ⟨gb147, 1, none⟩ = some (.int .i64 a0_1) := (blk_cell BK147.out 1).trans rfl
        have hcz7_2 : w3.cell? ⟨gb147, 2, none⟩ = some (.int .u8 a0_2) := (blk_cell BK147.out 2).trans rfl
        have hcz7_3 : w3.cell? ⟨gb147, 3, none⟩ = some (.slice A0_3 l0_3.length c0_3) := (blk_cell BK147.out 3).trans rfl
        have hcz7_4 : w3.cell? ⟨gb147, 4, none⟩ = some (.int .i64 a0_4) := (blk_cell BK147.out 4).trans rfl
        have hcz7_5 : w3.cell? ⟨gb147, 5, none⟩ = some (.bool true) := (blk_cell BK147.out 5).trans rfl
        have hfz7_0 := blk_frozen BK147.out 0
        have hfz7_1 := blk_frozen BK147.out 1
        have hfz7_2 := blk_frozen BK147.out 2
        have hfz7_3 := blk_frozen BK147.out 3
        have hfz7_4 := blk_frozen BK147.out 4
        have hfz7_5 := blk_frozen BK147.out 5
        go_wp2
        go_meet
        case rel => exact ⟨_, (decide (a0_4 > 999999999)), (by first | rfl | (simp; done) | (simp [*]; done)), H', ⟨by first | omega | exact Nat.le_refl _⟩, ⟨by (with_reducible repeat (first | refine blk_drewN ?_ _ | refine blk_drew ?_ | refine blk_alloc ?_ _)); exact BK147.out⟩, ⟨by repeat (first | (with_reducible first | exact HB.out | apply below_alloc | apply pw_below_drewN | apply below_drew1 | refine below_set ?_ GE147.out) | exact HB.out)⟩⟩
    · replace c4 := Bool.eq_false_iff.mpr c4
      subst c4
      have H1 : (address_sound.j0 k true a0_0 a0_1 a0_2 l0_3 a0_4 false) = some r := by rw [if_neg (show ¬ (false = true) by decide)] at H; exact H
      clear H
      have H := H1
      clear H1
      have H' := Aside0.mk H
      clear H
      have hcz8_0 : w3.cell? ⟨gb147, 0, none⟩ = some (.int .u8 a0_0) := (blk_cell BK147.out 0).trans rfl
      have hcz8_1 : w3.cell? ⟨gb147, 1, none⟩ = some (.int .i64 a0_1) := (blk_cell BK147.out 1).trans rfl
      have hcz8_2 : w3.cell? ⟨gb147, 2, none⟩ = some (.int .u8 a0_2) := (blk_cell BK147.out 2).trans rfl
      have hcz8_3 : w3.cell? ⟨gb147, 3, none⟩ = some (.slice A0_3 l0_3.length c0_3) := (blk_cell BK147.out 3).trans rfl
      have hcz8_4 : w3.cell? ⟨gb147, 4, none⟩ = some (.int .i64 a0_4) := (blk_cell BK147.out 4).trans rfl
      have hcz8_5 : w3.cell? ⟨gb147, 5, none⟩ = some (.bool false) := (blk_cell BK147.out 5).trans rfl
      have hfz8_0 := blk_frozen BK147.out 0
      have hfz8_1 := blk_frozen BK147.out 1
      have hfz8_2 := blk_frozen BK147.out 2
      have hfz8_3 := blk_frozen BK147.out 3
      have hfz8_4 := blk_frozen BK147.out 4
      have hfz8_5 := blk_frozen BK147.out 5
      go_wp2
      go_meet
      case rel => exact ⟨_, (true), (by first | rfl | (simp; done) | (simp [*]; done)), H', ⟨by first | omega | exact Nat.le_refl _⟩, ⟨by (with_reducible repeat (first | refine blk_drewN ?_ _ | refine blk_drew ?_ | refine blk_alloc ?_ _)); exact BK147.out⟩, ⟨by repeat (first | (with_reducible first | exact HB.out | apply below_alloc | apply pw_below_drewN | apply below_drew1 | refine below_set ?_ GE147.out) | exact HB.out)⟩⟩
  case rest =>
    clear HC2
    try clear c2
    try clear p2
    try clear c4
    try clear c5
    try clear c5b0
    try clear hcz6_0
    try clear hcz6_1
    try clear hcz6_2
    try clear hcz6_3
    try clear hcz6_4
    try clear hcz6_5
    try clear hcz7_0
    try clear hcz7_1
    try clear hcz7_2
    try clear hcz7_3
    try clear hcz7_4
    try clear hcz7_5
    try clear hcz8_0
    try clear hcz8_1
    try clear hcz8_2
    try clear hcz8_3
    try clear hcz8_4
    try clear hcz8_5
    try clear hfz6_0
    try clear hfz6_1
    try clear hfz6_2
    try clear hfz6_3
    try clear hfz6_4
    try clear hfz6_5
    try clear hfz7_0
    try clear hfz7_1
    try clear hfz7_2
    try clear hfz7_3
    try clear hfz7_4
    try clear hfz7_5
    try clear hfz8_0
    try clear hfz8_1
    try clear hfz8_2
    try clear hfz8_3
    try clear hfz8_4
    try clear hfz8_5
    obtain ⟨kq, x16_1, rfl, HA, HJ1, BK147, HB⟩ := hcut
    cases kq with
    | zero => exact absurd HA.out (by simp [address_sound.j0])
    | succ kj1 =>
      have H := HA.out
      clear HA
      simp only [address_sound.j0] at H
      by_cases c9 : x16_1 = true
      · subst c9
        have H1 : (some false) = some r := by rw [if_pos rfl] at H; exact H
        clear H
        have H := H1
        clear H1
        obtain rfl := Option.some.inj H
        go_wp2
        go_ret
        exact ⟨by first | rfl | (simp [errW_none, errW_some] <;> rfl) | (simp [*, errW_none, errW_some] <;> rfl), by repeat (first | (with_reducible first | exact HB.out | apply below_alloc | apply pw_below_drewN | apply below_drew1 | refine below_set ?_ GE147.out) | exact HB.out)⟩
      · replace c9 := Bool.eq_false_iff.mpr c9
        subst c9
        have H1 : (if a0_0 = 0 then (address_sound.j1 kj1 a0_0 (a0_0 == 0) a0_0 a0_1 a0_2 l0_3 a0_4 a0_5) else (if a0_0 = 46 then (address_sound.j1 kj1 a0_0 (a0_0 == 46) a0_0 a0_1 a0_2 l0_3 a0_4 a0_5) else (if a0_0 = 36 then (address_sound.j1 kj1 a0_0 (a0_0 == 36) a0_0 a0_1 a0_2 l0_3 a0_4 a0_5) else (address_sound.j1 kj1 a0_0 (a0_0 == 39) a0_0 a0_1 a0_2 l0_3 a0_4 a0_5)))) = some r := by rw [if_neg (show ¬ (false = true) by decide)] at H; exact H
        clear H
        have H := H1
        clear H1
        have HC10 := Aside0.mk H
        clear H
        have hcz11_0 : wc.cell? ⟨gb147, 0, none⟩ = some (.int .u8 a0_0) := (blk_cell BK147.out 0).trans rfl
        have hcz11_1 : wc.cell? ⟨gb147, 1, none⟩ = some (.int .i64 a0_1) := (blk_cell BK147.out 1).trans rfl
        have hcz11_2 : wc.cell? ⟨gb147, 2, none⟩ = some (.int .u8 a0_2) := (blk_cell BK147.out 2).trans rfl
        have hcz11_3 : wc.cell? ⟨gb147, 3, none⟩ = some (.slice A0_3 l0_3.length c0_3) := (blk_cell BK147.out 3).trans rfl
        have hcz11_4 : wc.cell? ⟨gb147, 4, none⟩ = some (.int .i64 a0_4) := (blk_cell BK147.out 4).trans rfl
        have hcz11_5 : wc.cell? ⟨gb147, 5, none⟩ = some (.bool a0_5) := (blk_cell BK147.out 5).trans rfl
        have hfz11_0 := blk_frozen BK147.out 0
        have hfz11_1 := blk_frozen BK147.out 1
        have hfz11_2 := blk_frozen BK147.out 2
        have hfz11_3 := blk_frozen BK147.out 3
        have hfz11_4 := blk_frozen BK147.out 4
        have hfz11_5 := blk_frozen BK147.out 5
        go_upto_if 19 with (fail)
        go_cut [19] (fun v19 wc => ∃ (kq : Nat) (x19_9 : Bool), v19 = .bool x19_9 ∧ Aside0 (address_sound.j1 kq a0_0 x19_9 a0_0 a0_1 a0_2 l0_3 a0_4 a0_5 = some r) ∧ Aside0 (kq ≤ kj1) ∧ Aside0 (wc.heap[gb147]? = some (.cells #[.int .u8 a0_0, .int .i64 a0_1, .int .u8 a0_2, (.slice A0_3 l0_3.length c0_3), .int .i64 a0_4, .bool a0_5] 25 (0, 0))) ∧ Aside0 (Below w.heap.size w wc))
        case first =>
          have H := HC10.out
          clear HC10
          by_cases c12 : a0_0 = 0
          · rw [if_pos c12] at H
            have c12b0 : (a0_0 == 0) = true := beq_iff_eq.mpr c12
            have c12b1 : (a0_0 != 0) = false := bne_eq_false_iff_eq.mpr c12
            clear c12
            (first | rw [c12b0] | (simp only [i64_w, i32_w]; rw [c12b0]) | skip)
            have H' := Aside0.mk H
            clear H
            go_wp2
            go_meet
            case rel => exact ⟨_, ((a0_0 == 0)), (by first | rfl | (simp; done) | (simp [*]; done)), H', ⟨by have := HJ1.out; first | omega | exact Nat.le_refl _⟩, ⟨by (with_reducible repeat (first | refine blk_drewN ?_ _ | refine blk_drew ?_ | refine blk_alloc ?_ _)); exact BK147.out⟩, ⟨by repeat (first | (with_reducible first | exact HB.out | apply below_alloc | apply pw_below_drewN | apply below_drew1 | refine below_set ?_ GE147.out) | exact HB.out)⟩⟩
          · rw [if_neg c12] at H
            have c12b0 : (a0_0 == 0) = false := beq_eq_false_iff_ne.mpr c12
            have c12b1 : (a0_0 != 0) = true := bne_iff_ne.mpr c12
            (first | rw [c12b0] | (simp only [i64_w, i32_w]; rw [c12b0]) | skip)
            by_cases c13 : a0_0 = 46
            · rw [if_pos c13] at H
              have c13b0 : (a0_0 == 46) = true := beq_iff_eq.mpr c13
              have c13b1 : (a0_0 != 46) = false := bne_eq_false_iff_eq.mpr c13
              clear c13
              have H' := Aside0.mk H
              clear H
              go_wp2
              go_meet
              case rel => exact ⟨_, ((a0_0 == 46)), (by first | rfl | (simp; done) | (simp [*]; done)), H', ⟨by have := HJ1.out; first | omega | exact Nat.le_refl _⟩, ⟨by (with_reducible repeat (first | refine blk_drewN ?_ _ | refine blk_drew ?_ | refine blk_alloc ?_ _)); exact BK147.out⟩, ⟨by repeat (first | (with_reducible first | exact HB.out | apply below_alloc | apply pw_below_drewN | apply below_drew1 | refine below_set ?_ GE147.out) | exact HB.out)⟩⟩
            · rw [if_neg c13] at H
              have c13b0 : (a0_0 == 46) = false := beq_eq_false_iff_ne.mpr c13
              have c13b1 : (a0_0 != 46) = true := bne_iff_ne.mpr c13
              by_cases c14 : a0_0 = 36
              · rw [if_pos c14] at H
                have c14b0 : (a0_0 == 36) = true := beq_iff_eq.mpr c14
                have c14b1 : (a0_0 != 36) = false := bne_eq_false_iff_eq.mpr c14
                clear c14
                have H' := Aside0.mk H
                clear H
                go_wp2
                go_meet
                case rel => exact ⟨_, ((a0_0 == 36)), (by first | rfl | (simp; done) | (simp [*]; done)), H', ⟨by have := HJ1.out; first | omega | exact Nat.le_refl _⟩, ⟨by (with_reducible repeat (first | refine blk_drewN ?_ _ | refine blk_drew ?_ | refine blk_alloc ?_ _)); exact BK147.out⟩, ⟨by repeat (first | (with_reducible first | exact HB.out | apply below_alloc | apply pw_below_drewN | apply below_drew1 | refine below_set ?_ GE147.out) | exact HB.out)⟩⟩
              · rw [if_neg c14] at H
                have c14b0 : (a0_0 == 36) = false := beq_eq_false_iff_ne.mpr c14
                have c14b1 : (a0_0 != 36) = true := bne_iff_ne.mpr c14
                have H' := Aside0.mk H
                clear H
                go_wp2
                go_meet
                case rel => exact ⟨_, ((a0_0 == 39)), (by first | rfl | (simp; done) | (simp [*]; done)), H', ⟨by have := HJ1.out; first | omega | exact Nat.le_refl _⟩, ⟨by (with_reducible repeat (first | refine blk_drewN ?_ _ | refine blk_drew ?_ | refine blk_alloc ?_ _)); exact BK147.out⟩, ⟨by repeat (first | (with_reducible first | exact HB.out | apply below_alloc | apply pw_below_drewN | apply below_drew1 | refine below_set ?_ GE147.out) | exact HB.out)⟩⟩
        case rest =>
          clear HC10
          try clear c1
          try clear c2
          try clear p2
          try clear c4
          try clear c5
          try clear c5b0
          try clear c9
          try clear c12
          try clear c12b0
          try clear c12b1
          try clear c13
          try clear c13b0
          try clear c13b1
          try clear c14
          try clear c14b0
          try clear c14b1
          try clear hcz11_0
          try clear hcz11_1
          try clear hcz11_2
          try clear hcz11_3
          try clear hcz11_4
          try clear hcz11_5
          try clear hcz6_0
          try clear hcz6_1
          try clear hcz6_2
          try clear hcz6_3
          try clear hcz6_4
          try clear hcz6_5
          try clear hcz7_0
          try clear hcz7_1
          try clear hcz7_2
          try clear hcz7_3
          try clear hcz7_4
          try clear hcz7_5
          try clear hcz8_0
          try clear hcz8_1
          try clear hcz8_2
          try clear hcz8_3
          try clear hcz8_4
          try clear hcz8_5
          try clear hfz11_0
          try clear hfz11_1
          try clear hfz11_2
          try clear hfz11_3
          try clear hfz11_4
          try clear hfz11_5
          try clear hfz6_0
          try clear hfz6_1
          try clear hfz6_2
          try clear hfz6_3
          try clear hfz6_4
          try clear hfz6_5
          try clear hfz7_0
          try clear hfz7_1
          try clear hfz7_2
          try clear hfz7_3
          try clear hfz7_4
          try clear hfz7_5
          try clear hfz8_0
          try clear hfz8_1
          try clear hfz8_2
          try clear hfz8_3
          try clear hfz8_4
          try clear hfz8_5
          try clear p2
          obtain ⟨kq, x19_9, rfl, HA, HJ9, BK147, HB⟩ := hcut
          cases kq with
          | zero => exact absurd HA.out (by simp [address_sound.j1])
          | succ kj9 =>
            have H := HA.out
            clear HA
            simp only [address_sound.j1] at H
            by_cases c15 : x19_9 = true
            · subst c15
              have H1 : (some true) = some r := by rw [if_pos rfl] at H; exact H
              clear H
              have H := H1
              clear H1
              obtain rfl := Option.some.inj H
              go_wp2
              go_ret
              exact ⟨by first | rfl | (simp [errW_none, errW_some] <;> rfl) | (simp [*, errW_none, errW_some] <;> rfl), by repeat (first | (with_reducible first | exact HB.out | apply below_alloc | apply pw_below_drewN | apply below_drew1 | refine below_set ?_ GE147.out) | exact HB.out)⟩
            · replace c15 := Bool.eq_false_iff.mpr c15
              subst c15
              have H1 : (if a0_0 = 110 then (if a0_1 ≥ 0 then (some (decide (a0_1 ≤ 999999999))) else (some false)) else (if a0_0 = 47 then (address_sound.j2 kj9 (a0_0 == 47) a0_0 a0_1 a0_2 l0_3 a0_4 a0_5) else (address_sound.j2 kj9 (a0_0 == 63) a0_0 a0_1 a0_2 l0_3 a0_4 a0_5))) = some r := by rw [if_neg (show ¬ (false = true) by decide)] at H; exact H
              clear H
              have H := H1
              clear H1
              by_cases c16 : a0_0 = 110
              · rw [if_pos c16] at H
                have c16b0 : (a0_0 == 110) = true := beq_iff_eq.mpr c16
                have c16b1 : (a0_0 != 110) = false := bne_eq_false_iff_eq.mpr c16
                clear c16
                by_cases c17 : a0_1 ≥ 0
                · rw [if_pos c17] at H
                  have c17b0 : decide (0 ≤ a0_1) = true := decide_eq_true c17
                  clear c17
                  obtain rfl := Option.some.inj H
                  have hcz18_0 : wc.cell? ⟨gb147, 0, none⟩ = some (.int .u8 a0_0) := (blk_cell BK147.out 0).trans rfl
                  have hcz18_1 : wc.cell? ⟨gb147, 1, none⟩ = some (.int .i64 a0_1) := (blk_cell BK147.out 1).trans rfl
                  have hcz18_2 : wc.cell? ⟨gb147, 2, none⟩ = some (.int .u8 a0_2) := (blk_cell BK147.out 2).trans rfl
                  have hcz18_3 : wc.cell? ⟨gb147, 3, none⟩ = some (.slice A0_3 l0_3.length c0_3) := (blk_cell BK147.out 3).trans rfl
                  have hcz18_4 : wc.cell? ⟨gb147, 4, none⟩ = some (.int .i64 a0_4) := (blk_cell BK147.out 4).trans rfl
                  have hcz18_5 : wc.cell? ⟨gb147, 5, none⟩ = some (.bool a0_5) := (blk_cell BK147.out 5).trans rfl
                  have hfz18_0 := blk_frozen BK147.out 0
                  have hfz18_1 := blk_frozen BK147.out 1
                  have hfz18_2 := blk_frozen BK147.out 2
                  have hfz18_3 := blk_frozen BK147.out 3
                  have hfz18_4 := blk_frozen BK147.out 4
                  have hfz18_5 := blk_frozen BK147.out 5
                  go_wp2
                  go_ret
                  exact ⟨by first | rfl | (simp [errW_none, errW_some] <;> rfl) | (simp [*, errW_none, errW_some] <;> rfl), by repeat (first | (with_reducible first | exact HB.out | apply below_alloc | apply pw_below_drewN | apply below_drew1 | refine below_set ?_ GE147.out) | exact HB.out)⟩
                · rw [if_neg c17] at H
                  have c17b0 : decide (0 ≤ a0_1) = false := decide_eq_false c17
                  clear c17
                  obtain rfl := Option.some.inj H
                  have hcz19_0 : wc.cell? ⟨gb147, 0, none⟩ = some (.int .u8 a0_0) := (blk_cell BK147.out 0).trans rfl
                  have hcz19_1 : wc.cell? ⟨gb147, 1, none⟩ = some (.int .i64 a0_1) := (blk_cell BK147.out 1).trans rfl
                  have hcz19_2 : wc.cell? ⟨gb147, 2, none⟩ = some (.int .u8 a0_2) := (blk_cell BK147.out 2).trans rfl
                  have hcz19_3 : wc.cell? ⟨gb147, 3, none⟩ = some (.slice A0_3 l0_3.length c0_3) := (blk_cell BK147.out 3).trans rfl
                  have hcz19_4 : wc.cell? ⟨gb147, 4, none⟩ = some (.int .i64 a0_4) := (blk_cell BK147.out 4).trans rfl
                  have hcz19_5 : wc.cell? ⟨gb147, 5, none⟩ = some (.bool a0_5) := (blk_cell BK147.out 5).trans rfl
                  have hfz19_0 := blk_frozen BK147.out 0
                  have hfz19_1 := blk_frozen BK147.out 1
                  have hfz19_2 := blk_frozen BK147.out 2
                  have hfz19_3 := blk_frozen BK147.out 3
                  have hfz19_4 := blk_frozen BK147.out 4
                  have hfz19_5 := blk_frozen BK147.out 5
                  go_wp2
                  go_ret
                  exact ⟨by first | rfl | (simp [errW_none, errW_some] <;> rfl) | (simp [*, errW_none, errW_some] <;> rfl), by repeat (first | (with_reducible first | exact HB.out | apply below_alloc | apply pw_below_drewN | apply below_drew1 | refine below_set ?_ GE147.out) | exact HB.out)⟩
              · rw [if_neg c16] at H
                have c16b0 : (a0_0 == 110) = false := beq_eq_false_iff_ne.mpr c16
                have c16b1 : (a0_0 != 110) = true := bne_iff_ne.mpr c16
                have HC20 := Aside0.mk H
                clear H
                go_upto_if 34 with (fail)
                go_cut [34] (fun v34 wc => ∃ (kq : Nat) (x34_19 : Bool), v34 = .bool x34_19 ∧ Aside0 (address_sound.j2 kq x34_19 a0_0 a0_1 a0_2 l0_3 a0_4 a0_5 = some r) ∧ Aside0 (kq ≤ kj9) ∧ Aside0 (wc.heap[gb147]? = some (.cells #[.int .u8 a0_0, .int .i64 a0_1, .int .u8 a0_2, (.slice A0_3 l0_3.length c0_3), .int .i64 a0_4, .bool a0_5] 25 (0, 0))) ∧ Aside0 (Below w.heap.size w wc))
                case first =>
                  have H := HC20.out
                  clear HC20
                  by_cases c21 : a0_0 = 47
                  · rw [if_pos c21] at H
                    have c21b0 : (a0_0 == 47) = true := beq_iff_eq.mpr c21
                    have c21b1 : (a0_0 != 47) = false := bne_eq_false_iff_eq.mpr c21
                    clear c21
                    (first | rw [c21b0] | (simp only [i64_w, i32_w]; rw [c21b0]) | skip)
                    have H' := Aside0.mk H
                    clear H
                    go_wp2
                    go_meet
                    case rel => exact ⟨_, ((a0_0 == 47)), (by first | rfl | (simp; done) | (simp [*]; done)), H', ⟨by have := HJ1.out; have := HJ9.out; first | omega | exact Nat.le_refl _⟩, ⟨by (with_reducible repeat (first | refine blk_drewN ?_ _ | refine blk_drew ?_ | refine blk_alloc ?_ _)); exact BK147.out⟩, ⟨by repeat (first | (with_reducible first | exact HB.out | apply below_alloc | apply pw_below_drewN | apply below_drew1 | refine below_set ?_ GE147.out) | exact HB.out)⟩⟩
                  · rw [if_neg c21] at H
                    have c21b0 : (a0_0 == 47) = false := beq_eq_false_iff_ne.mpr c21
                    have c21b1 : (a0_0 != 47) = true := bne_iff_ne.mpr c21
                    (first | rw [c21b0] | (simp only [i64_w, i32_w]; rw [c21b0]) | skip)
                    have H' := Aside0.mk H
                    clear H
                    go_wp2
                    go_meet
                    case rel => exact ⟨_, ((a0_0 == 63)), (by first | rfl | (simp; done) | (simp [*]; done)), H', ⟨by have := HJ1.out; have := HJ9.out; first | omega | exact Nat.le_refl _⟩, ⟨by (with_reducible repeat (first | refine blk_drewN ?_ _ | refine blk_drew ?_ | refine blk_alloc ?_ _)); exact BK147.out⟩, ⟨by repeat (first | (with_reducible first | exact HB.out | apply below_alloc | apply pw_below_drewN | apply below_drew1 | refine below_set ?_ GE147.out) | exact HB.out)⟩⟩
                case rest =>
                  clear HC20
                  try clear c1
                  try clear c2
                  try clear p2
                  try clear c4
                  try clear c5
                  try clear c5b0
                  try clear c9
                  try clear c12
                  try clear c12b0
                  try clear c12b1
                  try clear c13
                  try clear c13b0
                  try clear c13b1
                  try clear c14
                  try clear c14b0
                  try clear c14b1
                  try clear c15
                  try clear c16
                  try clear c16b0
                  try clear c16b1
                  try clear c17
                  try clear c17b0
                  try clear c21
                  try clear c21b0
                  try clear c21b1
                  try clear hcz11_0
                  try clear hcz11_1
                  try clear hcz11_2
                  try clear hcz11_3
                  try clear hcz11_4
                  try clear hcz11_5
                  try clear hcz18_0
                  try clear hcz18_1
                  try clear hcz18_2
                  try clear hcz18_3
                  try clear hcz18_4
                  try clear hcz18_5
                  try clear hcz19_0
                  try clear hcz19_1
                  try clear hcz19_2
                  try clear hcz19_3
                  try clear hcz19_4
                  try clear hcz19_5
                  try clear hcz6_0
                  try clear hcz6_1
                  try clear hcz6_2
                  try clear hcz6_3
                  try clear hcz6_4
                  try clear hcz6_5
                  try clear hcz7_0
                  try clear hcz7_1
                  try clear hcz7_2
                  try clear hcz7_3
                  try clear hcz7_4
                  try clear hcz7_5
                  try clear hcz8_0
                  try clear hcz8_1
                  try clear hcz8_2
                  try clear hcz8_3
                  try clear hcz8_4
                  try clear hcz8_5
                  try clear hfz11_0
                  try clear hfz11_1
                  try clear hfz11_2
                  try clear hfz11_3
                  try clear hfz11_4
                  try clear hfz11_5
                  try clear hfz18_0
                  try clear hfz18_1
                  try clear hfz18_2
                  try clear hfz18_3
                  try clear hfz18_4
                  try clear hfz18_5
                  try clear hfz19_0
                  try clear hfz19_1
                  try clear hfz19_2
                  try clear hfz19_3
                  try clear hfz19_4
                  try clear hfz19_5
                  try clear hfz6_0
                  try clear hfz6_1
                  try clear hfz6_2
                  try clear hfz6_3
                  try clear hfz6_4
                  try clear hfz6_5
                  try clear hfz7_0
                  try clear hfz7_1
                  try clear hfz7_2
                  try clear hfz7_3
                  try clear hfz7_4
                  try clear hfz7_5
                  try clear hfz8_0
                  try clear hfz8_1
                  try clear hfz8_2
                  try clear hfz8_3
                  try clear hfz8_4
                  try clear hfz8_5
                  try clear p2
                  obtain ⟨kq, x34_19, rfl, HA, HJ19, BK147, HB⟩ := hcut
                  cases kq with
                  | zero => exact absurd HA.out (by simp [address_sound.j2])
                  | succ kj19 =>
                    have H := HA.out
                    clear HA
                    simp only [address_sound.j2] at H
                    by_cases c22 : x34_19 = true
                    · subst c22
                      have H1 : ((bytes_Clone.f l0_3).bind fun t148 => ((some (([a0_0] : List Int) : List Int)).bind fun y151 => (if t148.length + y151.length < 140737488355328 then ((address_closing.f kj19 (t148 ++ y151) a0_0).bind fun t157 => (some (t157 == (l0_3.length : Int)))) else (none)))) = some r := by rw [if_pos rfl] at H; exact H
                      clear H
                      have H := H1
                      clear H1
                      replace H := Option.bind_eq_some_iff.mp H
                      obtain ⟨t148, A230, H⟩ := H
                      replace H : ((some (([a0_0] : List Int) : List Int)).bind fun y151 => (if t148.length + y151.length < 140737488355328 then ((address_closing.f kj19 (t148 ++ y151) a0_0).bind fun t157 => (some (t157 == (l0_3.length : Int)))) else (none))) = some r := H
                      have A23 := Aside0.mk A230
                      clear A230
                      obtain ⟨y151, hy151⟩ : ∃ y_ : List Int, y_ = (([a0_0] : List Int)) := ⟨_, rfl⟩
                      replace H : (if t148.length + y151.length < 140737488355328 then ((address_closing.f kj19 (t148 ++ y151) a0_0).bind fun t157 => (some (t157 == (l0_3.length : Int)))) else (none)) = some r := by first | (rw [hy151]; with_reducible exact H) | (have H2_ := (Option.bind_some _ _).symm.trans H; rw [hy151]; with_reducible exact H2_) | (have H2_ := (Option.bind_some _ _).symm.trans H; with_reducible exact H2_) | with_reducible exact H | (rw [hy151]; exact H) | exact H
                      have Ny151 := Aside0.mk hy151
                      clear hy151
                      by_cases c24 : t148.length + y151.length < 140737488355328
                      · rw [if_pos c24] at H
                        have LMc24 := Aside0.mk c24
                        clear c24
                        obtain ⟨y154, hy154⟩ : ∃ y_ : List Int, y_ = (t148 ++ y151) := ⟨_, rfl⟩
                        replace H : ((address_closing.f kj19 y154 a0_0).bind fun t157 => (some (t157 == (l0_3.length : Int)))) = some r := by first | (rw [hy154]; with_reducible exact H) | (have H2_ := (Option.bind_some _ _).symm.trans H; rw [hy154]; with_reducible exact H2_) | (have H2_ := (Option.bind_some _ _).symm.trans H; with_reducible exact H2_) | with_reducible exact H | (rw [hy154]; exact H) | exact H
                        have Ny154 := Aside0.mk hy154
                        clear hy154
                        replace H := Option.bind_eq_some_iff.mp H
                        obtain ⟨t157, A250, H⟩ := H
                        replace H : (some (t157 == (l0_3.length : Int))) = some r := H
                        have A25 := Aside0.mk A250
                        clear A250
                        obtain rfl := Option.some.inj H
                        try go_wp2
                        have n0_ := Aside0.mk (blk_drew BK147.out)
                        have n1_ := Aside0.mk (below_drew1 HB.out)
                        clear BK147
                        clear HB
                        have BK147 := n0_
                        have HB := n1_
                        clear n0_ n1_
                        refine start_ (n := 8) (S := fun w' => w'.cell? ⟨gb147, 0, none⟩ = some (.int .u8 a0_0) ∧ w'.cell? ⟨gb147, 1, none⟩ = some (.int .i64 a0_1) ∧ w'.cell? ⟨gb147, 2, none⟩ = some (.int .u8 a0_2) ∧ w'.cell? ⟨gb147, 3, none⟩ = some (.slice A0_3 l0_3.length c0_3) ∧ w'.cell? ⟨gb147, 4, none⟩ = some (.int .i64 a0_4) ∧ w'.cell? ⟨gb147, 5, none⟩ = some (.bool a0_5)) (ds := []) #[false, false, false, false, false, false, false, false] (by kernel_rfl) rfl rfl ⟨(blk_cell BK147.out 0).trans rfl, (blk_cell BK147.out 1).trans rfl, (blk_cell BK147.out 2).trans rfl, (blk_cell BK147.out 3).trans rfl, (blk_cell BK147.out 4).trans rfl, (blk_cell BK147.out 5).trans rfl⟩ (fun hHeld => ?_); refine with_tabW address_sound.tab13 address_sound.bits13 (fun HT_ HW_ => ?_)
                        generalize wc.drew = w26 at BK147 HB hHeld ⊢
                        refine pure_ (i := 0) (N := some 37) (v := ?_) (a' := ?_) #[true, false, false, false, false, false, false, false] rfl rfl (any_of HT_.out (by kernel_rfl)) (fun _ _ _ h => h) (Or.inl ⟨by rfl, ?_⟩) ?_ ?_
                        rotate_left
                        · intro w'
                          go_simp
                          with_reducible rfl
                        rotate_left
                        · simp only [Act.put, List.setIfInBounds_toArray, List.set_cons_zero, List.set_cons_succ, i64_w, i32_w]
                          rfl
                        refine pure_ (i := 3) (N := some 40) (v := ?_) (a' := ?_) #[true, false, false, true, false, false, false, false] rfl rfl (any_of HT_.out (by kernel_rfl)) (fun _ _ _ h => h) (Or.inl ⟨by rfl, ?_⟩) ?_ ?_
                        rotate_left
                        · intro w'
                          go_simp
                          with_reducible rfl
                        rotate_left
                        · simp only [Act.put, List.setIfInBounds_toArray, List.set_cons_zero, List.set_cons_succ, i64_w, i32_w]
                          rfl
                        refine take_ (i := 1) (N := some 38) (v := ?_) (a' := ?_) #[true, true, false, true, false, false, false, false] rfl rfl (take_ofW HT_.out HW_.out (by kernel_rfl)) (fun _ _ _ h => h) (Or.inl ⟨by rfl, ?_⟩) hHeld ?_ ?_
                        rotate_left
                        · rintro w' ⟨s0, s1, s2, s3, s4, s5⟩
                          go_simp
                          with_reducible rfl
                        rotate_left
                        · simp only [Act.put, List.setIfInBounds_toArray, List.set_cons_zero, List.set_cons_succ, i64_w, i32_w]
                          rfl
                        refine take_ (i := 4) (N := some 41) (v := ?_) (a' := ?_) #[true, true, false, true, true, false, false, false] rfl rfl (take_ofW HT_.out HW_.out (by kernel_rfl)) (fun _ _ _ h => h) (Or.inl ⟨by rfl, ?_⟩) hHeld ?_ ?_
                        rotate_left
                        · rintro w' ⟨s0, s1, s2, s3, s4, s5⟩
                          go_simp
                          with_reducible rfl
                        rotate_left
                        · simp only [Act.put, List.setIfInBounds_toArray, List.set_cons_zero, List.set_cons_succ, i64_w, i32_w]
                          rfl
                        refine join_ (σ := Value × Value) 2 #[true, true, true, true, true, true, false, false] (fun s_ => [(39, s_.1), (42, s_.2)]) (fun s_ w' => (w'.cell? ⟨gb147, 0, none⟩ = some (.int .u8 a0_0) ∧ w'.cell? ⟨gb147, 1, none⟩ = some (.int .i64 a0_1) ∧ w'.cell? ⟨gb147, 2, none⟩ = some (.int .u8 a0_2) ∧ w'.cell? ⟨gb147, 3, none⟩ = some (.slice A0_3 l0_3.length c0_3) ∧ w'.cell? ⟨gb147, 4, none⟩ = some (.int .i64 a0_4) ∧ w'.cell? ⟨gb147, 5, none⟩ = some (.bool a0_5)) ∧ (Kd.R (Kd.int .u8) 5 w' w.heap.size (fun k_ => some k_ ≠ (s_.2 : Value).ownBlock) s_.1 t148) ∧ (Kd.R (Kd.int .u8) 5 w' w.heap.size (fun k_ => some k_ ≠ (s_.1 : Value).ownBlock) s_.2 y151) ∧ (w'.heap[gb147]? = some (.cells #[.int .u8 a0_0, .int .i64 a0_1, .int .u8 a0_2, .slice A0_3 l0_3.length c0_3, .int .i64 a0_4, .bool a0_5] 25 (0, 0))) ∧ (Below w.heap.size w w')) ?_ ?_
                        rotate_left
                        · intro hCont
                          refine two_ (i := 2) (j := 5) (Ni := some 39) (Nj := some 42) #[true, true, true, true, true, false, false, false] #[true, true, false, true, true, true, false, false] rfl rfl rfl rfl (two_of HT_.out (by kernel_rfl)) (by decide) (by decide) (fun K hK => ?_) (fun K hK => ?_)
                          · skip
                            refine goes_ Tryd.func49 (by kernel_rfl) rfl #[.slice A0_3 l0_3.length c0_3] (by rfl) rfl rfl (by (try simp only [List.map_toArray, List.map_cons, List.map_nil]); first | done | rfl | (simp only [List.length_drop, List.length_take]; rfl)) ?_
                            with_reducible refine (bytes_Clone.calls _ _ l0_3 t148 _ ?side1 ?side2 A23.out).mono ?_
                            (case side1 => repeat (first | exact (Kd.C_below HR0_3.out HB.out) | (with_reducible refine Kd.C_alloc ?_ _) | (with_reducible refine Kd.C_drewN ?_ _) | (with_reducible refine Kd.C_drew ?_)))
                            (case side2 => exact HC0_3.out)
                            rintro e w27 ⟨v149, rfl, ho0, hb⟩
                            refine ⟨_, rfl, ?_⟩
                            have n0_ := Aside0.mk (Kd.R_lower ho0 (below_size (by repeat (first | (with_reducible first | exact HB.out | apply below_alloc | apply pw_below_drewN | apply below_drew1 | refine below_set ?_ GE147.out) | exact HB.out))))
                            have n1_ := Aside0.mk (blk_below (g := gb147) (o := .cells #[.int .u8 a0_0, .int .i64 a0_1, .int .u8 a0_2, .slice A0_3 l0_3.length c0_3, .int .i64 a0_4, .bool a0_5] 25 (0, 0)) (by (with_reducible repeat (first | refine blk_drewN ?_ _ | refine blk_drew ?_ | refine blk_alloc ?_ _)); exact BK147.out) hb)
                            have n2_ := Aside0.mk (below_step (by repeat (first | (with_reducible first | exact HB.out | apply below_alloc | apply pw_below_drewN | apply below_drew1 | refine below_set ?_ GE147.out) | exact HB.out)) hb)
                            clear BK147
                            clear HB
                            have HO150 := n0_
                            have BK147 := n1_
                            have HB := n2_
                            clear n0_ n1_ n2_
                            (try clear hb)
                            (try clear hb2)
                            (try clear hk)
                            (try clear hi)
                            (try clear ho0)
                            refine hK.out _ _ ⟨(blk_cell BK147.out 0).trans rfl, (blk_cell BK147.out 1).trans rfl, (blk_cell BK147.out 2).trans rfl, (blk_cell BK147.out 3).trans rfl, (blk_cell BK147.out 4).trans rfl, (blk_cell BK147.out 5).trans rfl⟩ (fun hHeld => ?_)
                            clear hK K
                            refine norm_ (a' := ?_) ?_ ?_
                            rotate_left
                            · show Act.put _ (some 39) _ = _
                              simp only [Act.put, List.setIfInBounds_toArray, List.set_cons_zero, List.set_cons_succ, i64_w, i32_w]
                              rfl
                            refine one_ (i := 5) (N := some 42) #[true, true, true, true, true, true, false, false] rfl rfl (one_of HT_.out (by kernel_rfl)) (by decide) (fun K hK => ?_)
                            refine Kd.R_lit_step (Kd.int .u8) _ 5 ?hg (N := 42) ?hd (xs := ([a0_0] : List Int)) (inner := [.int .u8 a0_0]) (ok := fun _ => True) (okp := fun _ => True) ?hr ?hp (fun _ hk => hk) trivial (Below.refl _ _) (Nat.le_refl _) (by simp) ?_; (case hd => rfl); (case hg => rfl); (case hr => first | (go_simp; done) | (go_simp; rfl)); (case hp => exact (Reps.one (show Kd.M (Kd.int .u8) _ _ _ a0_0 [.int .u8 a0_0] from rfl) (Reps.none _ _)))
                            intro v152 w28 ho29 hb hg_ hnew_
                            clear hg_ hnew_
                            (first | rw [← Ny151.out] at ho29 | (simp only [Int.reduceToNat] at ho29; rw [← Ny151.out] at ho29))
                            have n0_ := Aside0.mk (Kd.R_elder' (by (with_reducible repeat (first | apply Kd.R_alloc | apply Kd.R_drewN | apply Kd.R_drew)); exact HO150.out) (Kd.R_base ho29) hb)
                            have n1_ := Aside0.mk (Kd.R_lower (Kd.R_new' ho29 (Kd.R_lt (by (with_reducible repeat (first | apply Kd.R_alloc | apply Kd.R_drewN | apply Kd.R_drew)); exact HO150.out))) (below_size (by repeat (first | (with_reducible first | exact HB.out | apply below_alloc | apply pw_below_drewN | apply below_drew1 | refine below_set ?_ GE147.out) | exact HB.out))))
                            have n2_ := Aside0.mk (blk_below (g := gb147) (o := .cells #[.int .u8 a0_0, .int .i64 a0_1, .int .u8 a0_2, .slice A0_3 l0_3.length c0_3, .int .i64 a0_4, .bool a0_5] 25 (0, 0)) (by (with_reducible repeat (first | refine blk_drewN ?_ _ | refine blk_drew ?_ | refine blk_alloc ?_ _)); exact BK147.out) hb)
                            have n3_ := Aside0.mk (below_step (by repeat (first | (with_reducible first | exact HB.out | apply below_alloc | apply pw_below_drewN | apply below_drew1 | refine below_set ?_ GE147.out) | exact HB.out)) hb)
                            clear HO150
                            clear BK147
                            clear HB
                            have HO150 := n0_
                            have HO153 := n1_
                            have BK147 := n2_
                            have HB := n3_
                            clear n0_ n1_ n2_ n3_
                            clear hb ho29
                            refine hK.out _ _ ⟨(blk_cell BK147.out 0).trans rfl, (blk_cell BK147.out 1).trans rfl, (blk_cell BK147.out 2).trans rfl, (blk_cell BK147.out 3).trans rfl, (blk_cell BK147.out 4).trans rfl, (blk_cell BK147.out 5).trans rfl⟩ (fun hHeld => ?_)
                            clear hK K
                            refine norm_ (a' := ?_) ?_ ?_
                            rotate_left
                            · show Act.put _ (some 42) _ = _
                              simp only [Act.put, List.setIfInBounds_toArray, List.set_cons_zero, List.set_cons_succ, i64_w, i32_w]
                              rfl
                            exact norm_ (by simp only [putAll, Act.put, List.setIfInBounds_toArray, List.set_cons_zero, List.set_cons_succ]) (hCont (v149, v152) _ ⟨hHeld, (by (with_reducible repeat (first | apply Kd.R_alloc | apply Kd.R_drewN | apply Kd.R_drew)); exact Kd.R_mono HO150.out (fun _ hk => hk.2)), (by (with_reducible repeat (first | apply Kd.R_alloc | apply Kd.R_drewN | apply Kd.R_drew)); exact Kd.R_mono HO153.out (fun _ hk => hk.2)), (by (with_reducible repeat (first | refine blk_drewN ?_ _ | refine blk_drew ?_ | refine blk_alloc ?_ _)); exact BK147.out), (by repeat (first | (with_reducible first | exact HB.out | apply below_alloc | apply pw_below_drewN | apply below_drew1 | refine below_set ?_ GE147.out) | exact HB.out))⟩)
                          · skip
                            refine Kd.R_lit_step (Kd.int .u8) _ 5 ?hg (N := 42) ?hd (xs := ([a0_0] : List Int)) (inner := [.int .u8 a0_0]) (ok := fun _ => True) (okp := fun _ => True) ?hr ?hp (fun _ hk => hk) trivial (Below.refl _ _) (Nat.le_refl _) (by simp) ?_; (case hd => rfl); (case hg => rfl); (case hr => first | (go_simp; done) | (go_simp; rfl)); (case hp => exact (Reps.one (show Kd.M (Kd.int .u8) _ _ _ a0_0 [.int .u8 a0_0] from rfl) (Reps.none _ _)))
                            intro v152 w27 ho28 hb hg_ hnew_
                            clear hg_ hnew_
                            (first | rw [← Ny151.out] at ho28 | (simp only [Int.reduceToNat] at ho28; rw [← Ny151.out] at ho28))
                            have n0_ := Aside0.mk (Kd.R_lower ho28 (below_size (by repeat (first | (with_reducible first | exact HB.out | apply below_alloc | apply pw_below_drewN | apply below_drew1 | refine below_set ?_ GE147.out) | exact HB.out))))
                            have n1_ := Aside0.mk (blk_below (g := gb147) (o := .cells #[.int .u8 a0_0, .int .i64 a0_1, .int .u8 a0_2, .slice A0_3 l0_3.length c0_3, .int .i64 a0_4, .bool a0_5] 25 (0, 0)) (by (with_reducible repeat (first | refine blk_drewN ?_ _ | refine blk_drew ?_ | refine blk_alloc ?_ _)); exact BK147.out) hb)
                            have n2_ := Aside0.mk (below_step (by repeat (first | (with_reducible first | exact HB.out | apply below_alloc | apply pw_below_drewN | apply below_drew1 | refine below_set ?_ GE147.out) | exact HB.out)) hb)
                            clear BK147
                            clear HB
                            have HO153 := n0_
                            have BK147 := n1_
                            have HB := n2_
                            clear n0_ n1_ n2_
                            clear hb ho28
                            refine hK.out _ _ ⟨(blk_cell BK147.out 0).trans rfl, (blk_cell BK147.out 1).trans rfl, (blk_cell BK147.out 2).trans rfl, (blk_cell BK147.out 3).trans rfl, (blk_cell BK147.out 4).trans rfl, (blk_cell BK147.out 5).trans rfl⟩ (fun hHeld => ?_)
                            clear hK K
                            refine norm_ (a' := ?_) ?_ ?_
                            rotate_left
                            · show Act.put _ (some 42) _ = _
                              simp only [Act.put, List.setIfInBounds_toArray, List.set_cons_zero, List.set_cons_succ, i64_w, i32_w]
                              rfl
                            refine one_ (i := 2) (N := some 39) #[true, true, true, true, true, true, false, false] rfl rfl (one_of HT_.out (by kernel_rfl)) (by decide) (fun K hK => ?_)
                            refine goes_ Tryd.func49 (by kernel_rfl) rfl #[.slice A0_3 l0_3.length c0_3] (by rfl) rfl rfl (by (try simp only [List.map_toArray, List.map_cons, List.map_nil]); first | done | rfl | (simp only [List.length_drop, List.length_take]; rfl)) ?_
                            with_reducible refine (bytes_Clone.calls _ _ l0_3 t148 _ ?side1 ?side2 A23.out).mono ?_
                            (case side1 => repeat (first | exact (Kd.C_below HR0_3.out HB.out) | (with_reducible refine Kd.C_alloc ?_ _) | (with_reducible refine Kd.C_drewN ?_ _) | (with_reducible refine Kd.C_drew ?_)))
                            (case side2 => exact HC0_3.out)
                            rintro e w29 ⟨v149, rfl, ho0, hb⟩
                            refine ⟨_, rfl, ?_⟩
                            have n0_ := Aside0.mk (Kd.R_elder' (by (with_reducible repeat (first | apply Kd.R_alloc | apply Kd.R_drewN | apply Kd.R_drew)); exact HO153.out) (Kd.R_base ho0) hb)
                            have n1_ := Aside0.mk (Kd.R_lower (Kd.R_new' ho0 (Kd.R_lt (by (with_reducible repeat (first | apply Kd.R_alloc | apply Kd.R_drewN | apply Kd.R_drew)); exact HO153.out))) (below_size (by repeat (first | (with_reducible first | exact HB.out | apply below_alloc | apply pw_below_drewN | apply below_drew1 | refine below_set ?_ GE147.out) | exact HB.out))))
                            have n2_ := Aside0.mk (blk_below (g := gb147) (o := .cells #[.int .u8 a0_0, .int .i64 a0_1, .int .u8 a0_2, .slice A0_3 l0_3.length c0_3, .int .i64 a0_4, .bool a0_5] 25 (0, 0)) (by (with_reducible repeat (first | refine blk_drewN ?_ _ | refine blk_drew ?_ | refine blk_alloc ?_ _)); exact BK147.out) hb)
                            have n3_ := Aside0.mk (below_step (by repeat (first | (with_reducible first | exact HB.out | apply below_alloc | apply pw_below_drewN | apply below_drew1 | refine below_set ?_ GE147.out) | exact HB.out)) hb)
                            clear HO153
                            clear BK147
                            clear HB
                            have HO153 := n0_
                            have HO150 := n1_
                            have BK147 := n2_
                            have HB := n3_
                            clear n0_ n1_ n2_ n3_
                            (try clear hb)
                            (try clear hb2)
                            (try clear hk)
                            (try clear hi)
                            (try clear ho0)
                            refine hK.out _ _ ⟨(blk_cell BK147.out 0).trans rfl, (blk_cell BK147.out 1).trans rfl, (blk_cell BK147.out 2).trans rfl, (blk_cell BK147.out 3).trans rfl, (blk_cell BK147.out 4).trans rfl, (blk_cell BK147.out 5).trans rfl⟩ (fun hHeld => ?_)
                            clear hK K
                            refine norm_ (a' := ?_) ?_ ?_
                            rotate_left
                            · show Act.put _ (some 39) _ = _
                              simp only [Act.put, List.setIfInBounds_toArray, List.set_cons_zero, List.set_cons_succ, i64_w, i32_w]
                              rfl
                            exact norm_ (by simp only [putAll, Act.put, List.setIfInBounds_toArray, List.set_cons_zero, List.set_cons_succ]) (hCont (v149, v152) _ ⟨hHeld, (by (with_reducible repeat (first | apply Kd.R_alloc | apply Kd.R_drewN | apply Kd.R_drew)); exact Kd.R_mono HO150.out (fun _ hk => hk.2)), (by (with_reducible repeat (first | apply Kd.R_alloc | apply Kd.R_drewN | apply Kd.R_drew)); exact Kd.R_mono HO153.out (fun _ hk => hk.2)), (by (with_reducible repeat (first | refine blk_drewN ?_ _ | refine blk_drew ?_ | refine blk_alloc ?_ _)); exact BK147.out), (by repeat (first | (with_reducible first | exact HB.out | apply below_alloc | apply pw_below_drewN | apply below_drew1 | refine below_set ?_ GE147.out) | exact HB.out))⟩)
                        rintro ⟨v149, v152⟩ w30 ⟨hS_, h0_, h1_, h2_, h3_⟩
                        have n0_ : Aside0 (Kd.R (Kd.int .u8) 5 w30 w.heap.size (fun k_ => some k_ ≠ (v152 : Value).ownBlock) v149 t148) := ⟨h0_⟩
                        have n1_ : Aside0 (Kd.R (Kd.int .u8) 5 w30 w.heap.size (fun k_ => some k_ ≠ (v149 : Value).ownBlock) v152 y151) := ⟨h1_⟩
                        have n2_ : Aside0 (w30.heap[gb147]? = some (.cells #[.int .u8 a0_0, .int .i64 a0_1, .int .u8 a0_2, .slice A0_3 l0_3.length c0_3, .int .i64 a0_4, .bool a0_5] 25 (0, 0))) := ⟨h2_⟩
                        have n3_ : Aside0 (Below w.heap.size w w30) := ⟨h3_⟩
                        clear BK147
                        clear HB
                        clear h0_ h1_ h2_ h3_
                        have HO150 := n0_
                        have HO153 := n1_
                        have BK147 := n2_
                        have HB := n3_
                        clear n0_ n1_ n2_ n3_
                        have hHeld : w30.cell? ⟨gb147, 0, none⟩ = some (.int .u8 a0_0) ∧ w30.cell? ⟨gb147, 1, none⟩ = some (.int .i64 a0_1) ∧ w30.cell? ⟨gb147, 2, none⟩ = some (.int .u8 a0_2) ∧ w30.cell? ⟨gb147, 3, none⟩ = some (.slice A0_3 l0_3.length c0_3) ∧ w30.cell? ⟨gb147, 4, none⟩ = some (.int .i64 a0_4) ∧ w30.cell? ⟨gb147, 5, none⟩ = some (.bool a0_5) := hS_
                        obtain ⟨Ao32, co32, eo32⟩ := Kd.R_slice HO153.out
                        (first | subst eo32 | (injection eo32 with f1_ f2_ f3_; have f4_ := f1_.symm; have f5_ := f3_.symm; clear f1_ f2_ f3_; subst f4_; subst f5_))
                        refine norm_ (a' := ?_) ?_ ?_
                        rotate_left
                        · simp only [putAll, Act.put, List.setIfInBounds_toArray, List.set_cons_zero, List.set_cons_succ]
                          rfl
                        refine one_ (i := 6) (N := some 43) #[true, true, true, true, true, true, true, false] rfl rfl (one_of HT_.out (by kernel_rfl)) (by decide) (fun K hK => ?_)
                        refine Kd.R_append_rows_step (Kd.int .u8) (w0 := w) w.heap.size (by rfl) (.tmp 39) (.tmp 42) 22 5 (.int .u8 0) 1 rfl Tryd.underlying22 info5 rfl (by decide) (by omega) v149 t148 y151 _ _ _ (fun k_ => some k_ ≠ (.slice Ao32 y151.length co32 : Value).ownBlock) (fun _ => False) rfl rfl ?aO ?aR (fun _ _ h => h) (fun _ h => h.elim) ?aF ?aB ?aS ?aL ?_
                        (case aR => repeat (first | exact (Kd.R_reads' HO153.out).2.2 | (with_reducible refine Kd.C_alloc ?_ _) | (with_reducible refine Kd.C_drewN ?_ _) | (with_reducible refine Kd.C_drew ?_)))
                        (case aB => exact (by repeat (first | (with_reducible first | exact HB.out | apply below_alloc | apply pw_below_drewN | apply below_drew1 | refine below_set ?_ GE147.out) | exact HB.out)))
                        (case aF => exact (fun k_ hk => Kd.fresh' (Kd.R_lt (by (with_reducible repeat (first | apply Kd.R_alloc | apply Kd.R_drewN | apply Kd.R_drew)); exact HO153.out)) k_ hk))
                        (case aO => exact (by (with_reducible repeat (first | apply Kd.R_alloc | apply Kd.R_drewN | apply Kd.R_drew)); exact HO150.out))
                        (case aS => exact (below_size (by repeat (first | (with_reducible first | exact HB.out | apply below_alloc | apply pw_below_drewN | apply below_drew1 | refine below_set ?_ GE147.out) | exact HB.out))))
                        (case aL => have := LMc24.out; omega)
                        intro v155 w31 ho hb hg hat
                        rw [← Ny154.out] at ho
                        have n0_ := Aside0.mk (blk_grown (g := gb147) (o := .cells #[.int .u8 a0_0, .int .i64 a0_1, .int .u8 a0_2, .slice A0_3 l0_3.length c0_3, .int .i64 a0_4, .bool a0_5] 25 (0, 0)) (by (with_reducible repeat (first | refine blk_drewN ?_ _ | refine blk_drew ?_ | refine blk_alloc ?_ _)); exact BK147.out) hg (Kd.R_ne HO150.out BK147.out (by decide)))
                        have n1_ := Aside0.mk (Kd.R_after (ok := (fun _ => True)) (by (with_reducible repeat (first | apply Kd.R_alloc | apply Kd.R_drewN | apply Kd.R_drew)); exact Kd.R_mono HO153.out (fun _ hk => ⟨trivial, hk⟩)) hg hat)
                        have n2_ := Aside0.mk (hb)
                        have n3_ := Aside0.mk (ho)
                        clear BK147
                        clear HO153
                        clear HB
                        clear HO150
                        have BK147 := n0_
                        have HO153 := n1_
                        have HB := n2_
                        have HO156 := n3_
                        clear n0_ n1_ n2_ n3_
                        clear ho hb hg hat
                        refine hK.out _ _ ⟨(blk_cell BK147.out 0).trans rfl, (blk_cell BK147.out 1).trans rfl, (blk_cell BK147.out 2).trans rfl, (blk_cell BK147.out 3).trans rfl, (blk_cell BK147.out 4).trans rfl, (blk_cell BK147.out 5).trans rfl⟩ (fun hHeld => ?_)
                        clear hK K
                        refine norm_ (a' := ?_) ?_ ?_
                        rotate_left
                        · show Act.put _ (some 43) _ = _
                          simp only [Act.put, List.setIfInBounds_toArray, List.set_cons_zero, List.set_cons_succ, i64_w, i32_w]
                          rfl
                        refine pure_ (i := 7) (N := some 3) (v := ?_) (a' := ?_) #[true, true, true, true, true, true, true, true] rfl rfl (any_of HT_.out (by kernel_rfl)) (fun _ _ _ h => h) (Or.inl ⟨by rfl, ?_⟩) ?_ ?_
                        rotate_left
                        · intro w'
                          go_simp
                          with_reducible rfl
                        rotate_left
                        · simp only [Act.put, List.setIfInBounds_toArray, List.set_cons_zero, List.set_cons_succ, i64_w, i32_w]
                          rfl
                        refine done_ (done_of HT_.out (by kernel_rfl)) ?_
                        try go_wp2
                        have n0_ := Aside0.mk (Kd.R_drew HO153.out)
                        have n1_ := Aside0.mk (Kd.R_drew HO156.out)
                        have n2_ := Aside0.mk (blk_drew BK147.out)
                        have n3_ := Aside0.mk (below_drew1 HB.out)
                        clear HO153
                        clear HO156
                        clear BK147
                        clear HB
                        have HO153 := n0_
                        have HO156 := n1_
                        have BK147 := n2_
                        have HB := n3_
                        clear n0_ n1_ n2_ n3_
                        obtain ⟨Ao34, co34, eo34⟩ := Kd.R_slice HO156.out
                        (first | subst eo34 | (injection eo34 with f1_ f2_ f3_; have f4_ := f1_.symm; have f5_ := f3_.symm; clear f1_ f2_ f3_; subst f4_; subst f5_))
                        refine start_ (n := 9) (S := fun w' => w'.cell? ⟨gb147, 0, none⟩ = some (.int .u8 a0_0) ∧ w'.cell? ⟨gb147, 1, none⟩ = some (.int .i64 a0_1) ∧ w'.cell? ⟨gb147, 2, none⟩ = some (.int .u8 a0_2) ∧ w'.cell? ⟨gb147, 3, none⟩ = some (.slice A0_3 l0_3.length c0_3) ∧ w'.cell? ⟨gb147, 4, none⟩ = some (.int .i64 a0_4) ∧ w'.cell? ⟨gb147, 5, none⟩ = some (.bool a0_5)) (ds := []) #[false, false, false, false, false, false, false, false, false] (by kernel_rfl) rfl rfl ⟨(blk_cell BK147.out 0).trans rfl, (blk_cell BK147.out 1).trans rfl, (blk_cell BK147.out 2).trans rfl, (blk_cell BK147.out 3).trans rfl, (blk_cell BK147.out 4).trans rfl, (blk_cell BK147.out 5).trans rfl⟩ (fun hHeld => ?_); refine with_tabW address_sound.tab14 address_sound.bits14 (fun HT_ HW_ => ?_)
                        generalize w31.drew = w33 at HO153 HO156 BK147 HB hHeld ⊢
                        refine pure_ (i := 0) (N := some 44) (v := ?_) (a' := ?_) #[true, false, false, false, false, false, false, false, false] rfl rfl (any_of HT_.out (by kernel_rfl)) (fun _ _ _ h => h) (Or.inl ⟨by rfl, ?_⟩) ?_ ?_
                        rotate_left
                        · intro w'
                          go_simp
                          with_reducible rfl
                        rotate_left
                        · simp only [Act.put, List.setIfInBounds_toArray, List.set_cons_zero, List.set_cons_succ, i64_w, i32_w]
                          rfl
                        refine pure_ (i := 1) (N := some 45) (v := ?_) (a' := ?_) #[true, true, false, false, false, false, false, false, false] rfl rfl (any_of HT_.out (by kernel_rfl)) (fun _ _ _ h => h) (Or.inl ⟨by rfl, ?_⟩) ?_ ?_
                        rotate_left
                        · intro w'
                          go_simp
                          with_reducible rfl
                        rotate_left
                        · simp only [Act.put, List.setIfInBounds_toArray, List.set_cons_zero, List.set_cons_succ, i64_w, i32_w]
                          rfl
                        refine pure_ (i := 4) (N := some 48) (v := ?_) (a' := ?_) #[true, true, false, false, true, false, false, false, false] rfl rfl (any_of HT_.out (by kernel_rfl)) (fun _ _ _ h => h) (Or.inl ⟨by rfl, ?_⟩) ?_ ?_
                        rotate_left
                        · intro w'
                          go_simp
                          with_reducible rfl
                        rotate_left
                        · simp only [Act.put, List.setIfInBounds_toArray, List.set_cons_zero, List.set_cons_succ, i64_w, i32_w]
                          rfl
                        refine take_ (i := 2) (N := some 46) (v := ?_) (a' := ?_) #[true, true, true, false, true, false, false, false, false] rfl rfl (take_ofW HT_.out HW_.out (by kernel_rfl)) (fun _ _ _ h => h) (Or.inl ⟨by rfl, ?_⟩) hHeld ?_ ?_
                        rotate_left
                        · rintro w' ⟨s0, s1, s2, s3, s4, s5⟩
                          go_simp
                          with_reducible rfl
                        rotate_left
                        · simp only [Act.put, List.setIfInBounds_toArray, List.set_cons_zero, List.set_cons_succ, i64_w, i32_w]
                          rfl
                        refine take_ (i := 5) (N := some 49) (v := ?_) (a' := ?_) #[true, true, true, false, true, true, false, false, false] rfl rfl (take_ofW HT_.out HW_.out (by kernel_rfl)) (fun _ _ _ h => h) (Or.inl ⟨by rfl, ?_⟩) hHeld ?_ ?_
                        rotate_left
                        · rintro w' ⟨s0, s1, s2, s3, s4, s5⟩
                          go_simp
                          with_reducible rfl
                        rotate_left
                        · simp only [Act.put, List.setIfInBounds_toArray, List.set_cons_zero, List.set_cons_succ, i64_w, i32_w]
                          rfl
                        refine pure_ (i := 6) (N := some 50) (v := ?_) (a' := ?_) #[true, true, true, false, true, true, true, false, false] rfl rfl (any_of HT_.out (by kernel_rfl)) (fun _ _ _ h => h) (Or.inl ⟨by rfl, ?_⟩) ?_ ?_
                        rotate_left
                        · intro w'
                          go_simp
                          with_reducible rfl
                        rotate_left
                        · simp only [Act.put, List.setIfInBounds_toArray, List.set_cons_zero, List.set_cons_succ, i64_w, i32_w]
                          rfl
                        refine one_ (i := 3) (N := some 47) #[true, true, true, true, true, true, true, false, false] rfl rfl (one_of HT_.out (by kernel_rfl)) (by decide) (fun K hK => ?_)
                        refine goes_ Tryd.func47 (by kernel_rfl) rfl #[.slice Ao34 y154.length co34, .int .u8 a0_0] (by rfl) rfl rfl (by (try simp only [List.map_toArray, List.map_cons, List.map_nil]); first | done | rfl | (simp only [List.length_drop, List.length_take]; rfl)) ?_
                        with_reducible refine (address_closing.calls kj19 _ _ y154 a0_0 t157 _ ?side1 ?side2 A25.out).mono ?_
                        (case side1 => repeat (first | exact (Kd.R_reads' HO156.out).2.2 | (with_reducible refine Kd.C_alloc ?_ _) | (with_reducible refine Kd.C_drewN ?_ _) | (with_reducible refine Kd.C_drew ?_)))
                        (case side2 => exact (Kd.R_reads' HO156.out).2.1)
                        rintro e w' ⟨rfl, ⟨nd, rfl⟩⟩
                        refine ⟨_, rfl, ?_⟩
                        refine hK.out _ _ ⟨(blk_cell BK147.out 0).trans rfl, (blk_cell BK147.out 1).trans rfl, (blk_cell BK147.out 2).trans rfl, (blk_cell BK147.out 3).trans rfl, (blk_cell BK147.out 4).trans rfl, (blk_cell BK147.out 5).trans rfl⟩ (fun hHeld => ?_)
                        clear hK K
                        refine norm_ (a' := ?_) ?_ ?_
                        rotate_left
                        · show Act.put _ (some 47) _ = _
                          simp only [Act.put, List.setIfInBounds_toArray, List.set_cons_zero, List.set_cons_succ, i64_w, i32_w]
                          rfl
                        refine pure_ (i := 7) (N := some 51) (v := ?_) (a' := ?_) #[true, true, true, true, true, true, true, true, false] rfl rfl (any_of HT_.out (by kernel_rfl)) (fun _ _ _ h => h) (Or.inl ⟨by rfl, ?_⟩) ?_ ?_
                        rotate_left
                        · intro w'
                          go_simp
                          with_reducible rfl
                        rotate_left
                        · simp only [Act.put, List.setIfInBounds_toArray, List.set_cons_zero, List.set_cons_succ, i64_w, i32_w]
                          rfl
                        refine pure_ (i := 8) (N := some 2) (v := ?_) (a' := ?_) #[true, true, true, true, true, true, true, true, true] rfl rfl (any_of HT_.out (by kernel_rfl)) (fun _ _ _ h => h) (Or.inl ⟨by rfl, ?_⟩) ?_ ?_
                        rotate_left
                        · intro w'
                          go_simp
                          with_reducible rfl
                        rotate_left
                        · simp only [Act.put, List.setIfInBounds_toArray, List.set_cons_zero, List.set_cons_succ, i64_w, i32_w]
                          rfl
                        refine done_ (done_of HT_.out (by kernel_rfl)) ?_
                        try go_wp2
                        go_ret
                        exact ⟨by first | rfl | (simp [errW_none, errW_some] <;> rfl) | (simp [*, errW_none, errW_some] <;> rfl), by repeat (first | (with_reducible first | exact HB.out | apply below_alloc | apply pw_below_drewN | apply below_drew1 | refine below_set ?_ GE147.out) | exact HB.out)⟩
                      · rw [if_neg c24] at H
                        exact absurd H (by simp)
                    · replace c22 := Bool.eq_false_iff.mpr c22
                      subst c22
                      have H1 : (some false) = some r := by rw [if_neg (show ¬ (false = true) by decide)] at H; exact H
                      clear H
                      have H := H1
                      clear H1
                      obtain rfl := Option.some.inj H
                      go_wp2
                      go_ret
                      exact ⟨by first | rfl | (simp [errW_none, errW_some] <;> rfl) | (simp [*, errW_none, errW_some] <;> rfl), by repeat (first | (with_reducible first | exact HB.out | apply below_alloc | apply pw_below_drewN | apply below_drew1 | refine below_set ?_ GE147.out) | exact HB.out)⟩

end Go.Proofs.YtdhdngoeaneanaaDoor.X
