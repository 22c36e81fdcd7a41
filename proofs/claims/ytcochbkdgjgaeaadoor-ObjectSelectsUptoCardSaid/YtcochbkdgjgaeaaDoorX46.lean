-- Written by wip/xprint.py over the kit's print.py: the Lean function of each Go function, and the proof that the Go text comes to it.
import Derived.Test.YtcochbkdgjgaeaaDoorX0
import Derived.Test.YtcochbkdgjgaeaaDoorX45
namespace Go.Proofs.YtcochbkdgjgaeaaDoor.X
open Go.RowKit Go.Proofs.YtcochbkdgjgaeaaDoorW.PrintWords Go.Proofs.YtcochbkdgjgaeaaDoorW.PrintLast Go.Proofs.YtcochbkdgjgaeaaDoorW.PrintMore
attribute [local go_sem] max2_int min2_int max_two min_two max_three min_three max_four min_four   -- for this text's walks alone
set_option linter.unusedVariables false
set_option linter.unusedSimpArgs false

/-! ### quoinref13_bracketed: function 25 -/
mutual
def quoinref13_bracketed.l0 : Nat → Int → Int → Bool → List (S48) → Int → Option (Int × Int × Bool × Int)
 | 0, _, _, _, _, _ => none
 | k + 1, x1, x2, x5, x14, x15 => if x15 < (x14.length : Int) then (if 0 ≤ x15 then (if ((rd_T48 x14 x15).f0) > x1 then (quoinref13_bracketed.j1 k x1 x2 x5 x14 x15 true) else (quoinref13_bracketed.j1 k x1 x2 x5 x14 x15 (decide (x1 > ((rd_T48 x14 x15).f1))))) else (none)) else (some (0, 0, false, 130))
def quoinref13_bracketed.j1 : Nat → Int → Int → Bool → List (S48) → Int → Bool → Option (Int × Int × Bool × Int)
 | 0, _, _, _, _, _, _ => none
 | k + 1, x1, x2, x5, x14, x15, x41 => if x41 = true then (quoinref13_bracketed.l0 k x1 x2 x5 x14 (wrap64 (x15 + 1))) else (if (wrap64 (x2 - 1)) > 0 then (quoinref13_bracketed.l0 k x1 (wrap64 (x2 - 1)) x5 x14 (wrap64 (x15 + 1))) else (if x5 = true then (if 0 ≤ x15 then (if x15 < (x14.length : Int) then (some ((rd_T48 x14 x15).f0, wrap64 (((rd_T48 x14 x15).f1) + 1), false, 0)) else (none)) else (none)) else (if 0 ≤ x15 then (if x15 < (x14.length : Int) then (some (wrap64 (((rd_T48 x14 x15).f0) + 1), (rd_T48 x14 x15).f1, false, 0)) else (none)) else (none))))
end
def quoinref13_bracketed.f (k : Nat) (l0 : List Int) (a1 : Int) (a2 : Int) (a3 : Int) (a4 : Int) (a5 : Bool) : Option (Int × Int × Bool × Int) := (quoinref13_pairs.f k l0 a3 a4).bind fun t388 => (quoinref13_bracketed.l0 k a1 a2 a5 t388 0)
theorem quoinref13_bracketed.mono_l : ∀ k, (∀ y0 y1 y2 y3 y4, LeO (quoinref13_bracketed.l0 k y0 y1 y2 y3 y4) (quoinref13_bracketed.l0 (k + 1) y0 y1 y2 y3 y4)) ∧ (∀ y0 y1 y2 y3 y4 y5, LeO (quoinref13_bracketed.j1 k y0 y1 y2 y3 y4 y5) (quoinref13_bracketed.j1 (k + 1) y0 y1 y2 y3 y4 y5))
 | 0 => ⟨fun _ _ _ _ _ r h => by simp [quoinref13_bracketed.l0] at h, fun _ _ _ _ _ _ r h => by simp [quoinref13_bracketed.j1] at h⟩
 | k + 1 => by
  obtain ⟨ih0, ih1⟩ := quoinref13_bracketed.mono_l k
  refine ⟨?_, ?_⟩
  ·intro y0 y1 y2 y3 y4
   unfold quoinref13_bracketed.l0
   repeat' first
   | (with_reducible exact ih0 _ _ _ _ _)
   | (with_reducible exact ih1 _ _ _ _ _ _)
   | (with_reducible exact quoinref13_pairs.mono _ _ _ _)
   | (with_reducible exact LeO.refl _)
   | (with_reducible exact LeO.none _)
   | (with_reducible refine LeO.ite ?_ ?_)
   | (with_reducible refine LeO.bind ?_ (fun _ => ?_))
   | exact ih0 _ _ _ _ _
   | exact ih1 _ _ _ _ _ _
   | exact quoinref13_pairs.mono _ _ _ _
   | exact LeO.none _
   | refine LeO.ite ?_ ?_
   | refine LeO.bind ?_ (fun _ => ?_)
  ·intro y0 y1 y2 y3 y4 y5
   unfold quoinref13_bracketed.j1
   repeat' first
   | (with_reducible exact ih0 _ _ _ _ _)
   | (with_reducible exact ih1 _ _ _ _ _ _)
   | (with_reducible exact quoinref13_pairs.mono _ _ _ _)
   | (with_reducible exact LeO.refl _)
   | (with_reducible exact LeO.none _)
   | (with_reducible refine LeO.ite ?_ ?_)
   | (with_reducible refine LeO.bind ?_ (fun _ => ?_))
   | exact ih0 _ _ _ _ _
   | exact ih1 _ _ _ _ _ _
   | exact quoinref13_pairs.mono _ _ _ _
   | exact LeO.none _
   | refine LeO.ite ?_ ?_
   | refine LeO.bind ?_ (fun _ => ?_)
theorem quoinref13_bracketed.mono : ∀ a0 a1 a2 a3 a4 a5 k, LeO (quoinref13_bracketed.f k a0 a1 a2 a3 a4 a5) (quoinref13_bracketed.f (k + 1) a0 a1 a2 a3 a4 a5) := by
 intro a0 a1 a2 a3 a4 a5 k
 obtain ⟨ih0, ih1⟩ := quoinref13_bracketed.mono_l k
 unfold quoinref13_bracketed.f
 repeat' first
   | (with_reducible exact ih0 _ _ _ _ _)
   | (with_reducible exact ih1 _ _ _ _ _ _)
   | (with_reducible exact quoinref13_pairs.mono _ _ _ _)
   | (with_reducible exact LeO.refl _)
   | (with_reducible exact LeO.none _)
   | (with_reducible refine LeO.ite ?_ ?_)
   | (with_reducible refine LeO.bind ?_ (fun _ => ?_))
   | exact ih0 _ _ _ _ _
   | exact ih1 _ _ _ _ _ _
   | exact quoinref13_pairs.mono _ _ _ _
   | exact LeO.none _
   | refine LeO.ite ?_ ?_
   | refine LeO.bind ?_ (fun _ => ?_)
def quoinref13_bracketed.T9 : Bool × List (List Nat × List Nat) := (true, [([], []), ([], []), ([0, 1], [0, 1]), ([2], [2]), ([3], [3]), ([], []), ([], []), ([5, 6], [5, 6]), ([7], [7]), ([8], [8]), ([9], [9]), ([4, 10], [4, 10]), ([11, 0, 1, 2, 3, 4, 5, 6, 7, 8, 9, 10, 11], [11]), ([12, 0, 1, 2, 3, 4, 5, 6, 7, 8, 9, 10, 11, 12], [])])
def quoinref13_bracketed.B9 : List Nat := [0, 0, 3, 7, 15, 0, 0, 96, 224, 480, 992, 2047, 4095, 8191]
theorem quoinref13_bracketed.tab9 : rtab .any (opsOf Tryd.f25 9) = quoinref13_bracketed.T9 := by kernel_rfl
theorem quoinref13_bracketed.bits9 : waitsOk quoinref13_bracketed.T9.2 quoinref13_bracketed.B9 = true := by kernel_rfl
def quoinref13_bracketed.T10 : Bool × List (List Nat × List Nat) := (true, [([], []), ([], []), ([0, 1], [0, 1]), ([2], [2]), ([3], [3]), ([4], [4]), ([], []), ([], []), ([6, 7], [6, 7]), ([8], [8]), ([9], [9]), ([5, 10], [5, 10]), ([11, 0, 1, 2, 3, 4, 5, 6, 7, 8, 9, 10, 11], [11]), ([12, 0, 1, 2, 3, 4, 5, 6, 7, 8, 9, 10, 11, 12], [])])
def quoinref13_bracketed.B10 : List Nat := [0, 0, 3, 7, 15, 31, 0, 0, 192, 448, 960, 2047, 4095, 8191]
theorem quoinref13_bracketed.tab10 : rtab .any (opsOf Tryd.f25 10) = quoinref13_bracketed.T10 := by kernel_rfl
theorem quoinref13_bracketed.bits10 : waitsOk quoinref13_bracketed.T10.2 quoinref13_bracketed.B10 = true := by kernel_rfl
set_option maxHeartbeats 8000000 in
set_option maxRecDepth 100000 in
theorem quoinref13_bracketed.calls (k : Nat) (A0 : Option Addr) (c0 : Nat) (l0 : List Int) (a1 : Int) (a2 : Int) (a3 : Int) (a4 : Int) (a5 : Bool) (r1 : Int) (r2 : Int) (r3 : Bool) (r4 : Int) (w : World) (hr0 : Kd.C (Kd.int .u8) w A0 l0.length l0) (hc0 : l0.length ≤ c0) (h : quoinref13_bracketed.f k l0 a1 a2 a3 a4 a5 = some (r1, r2, r3, r4)) :
  Calls Tryd.prog 25 #[.slice A0 l0.length c0, .int .i64 a1, .int .i64 a2, .int .u8 a3, .int .u8 a4, .bool a5] w fun e w' => e = .returned (.tuple #[.agg #[.int .i64 r1, .int .i64 r2, .bool r3], .int .i64 r4]) ∧ Below w.heap.size w w' := by
 have hu48 := Tryd.underlying48
 have HR0 := Aside0.mk hr0
 have HC0 := Aside0.mk hc0
 clear hr0 hc0
 have HB := Aside0.mk (Below.refl w.heap.size w)
 have H : ((quoinref13_pairs.f k l0 a3 a4).bind fun t388 => (quoinref13_bracketed.l0 k a1 a2 a5 t388 0)) = some (r1, r2, r3, r4) := h
 clear h
 replace H := Option.bind_eq_some_iff.mp H
 obtain ⟨t388, A70, H⟩ := H
 replace H : (quoinref13_bracketed.l0 k a1 a2 a5 t388 0) = some (r1, r2, r3, r4) := H
 have A7 := Aside0.mk A70
 clear A70
 have H' := Aside0.mk H
 clear H
 go_enter Tryd.func25, Tryd.ntmps25
 go_wp2_with (first | ((with_reducible refine gate_dst (N := 12) rfl ?_); refine box_event ?hg (N := 12) ?hd (cs := #[.int .i64 0, .int .i64 0, .bool false]) (t := 48) ?hr ?_; (case hd => rfl); (case hg => rfl); (case hr => first | (go_simp; done) | (go_simp; rfl)); intro gb387 hg w8 hbox hb; have n0_ := Aside0.mk (below_step (by repeat (first | (with_reducible first | exact HB.out | apply below_alloc | apply pw_below_drewN | apply below_drew1) | exact HB.out)) hb); have n1_ := Aside0.mk (hbox); have n2_ := Aside0.mk ((by rw [hg]; exact (below_size (by repeat (first | (with_reducible first | exact HB.out | apply below_alloc | apply pw_below_drewN | apply below_drew1) | exact HB.out))) : w.heap.size ≤ gb387)); have n3_ := Aside0.mk ((by rw [hg]; exact (below_size (by repeat (first | (with_reducible first | exact HB.out | apply below_alloc | apply pw_below_drewN | apply below_drew1) | exact HB.out))) : w.heap.size ≤ gb387)); clear HB; have HB := n0_; have BK387 := n1_; have GW387 := n2_; have GE387 := n3_; clear n0_ n1_ n2_ n3_; clear hb hbox hg) | ((with_reducible refine gate_callee (f := 41) rfl ?_); refine goesL_ (some 19) rfl rfl Tryd.func41 (by kernel_rfl) rfl #[.slice A0 l0.length c0, .int .u8 a3, .int .u8 a4] rfl (by (try simp only [List.map_toArray, List.map_cons, List.map_nil]); first | done | rfl | (simp only [List.length_drop, List.length_take]; rfl)) ?_; (with_reducible refine (quoinref13_pairs.calls k _ _ l0 a3 a4 t388 _ ?side1 ?side2 A7.out).mono ?_); (case side1 => repeat (first | exact (Kd.C_below HR0.out HB.out) | (with_reducible refine Kd.C_alloc ?_ _) | (with_reducible refine Kd.C_drewN ?_ _) | (with_reducible refine Kd.C_drew ?_))); (case side2 => exact HC0.out); rintro e w9 ⟨v389, rfl, ho0, hb⟩; refine ⟨_, rfl, ?_⟩; have n0_ := Aside0.mk (Kd.R_lower (Kd.R_newB ho0 (g := gb387) (o := .cells #[.int .i64 0, .int .i64 0, .bool false] 48 (0, 0)) (by (with_reducible repeat (first | refine blk_drewN ?_ _ | refine blk_drew ?_ | refine blk_alloc ?_ _)); exact BK387.out)) (below_size (by repeat (first | (with_reducible first | exact HB.out | apply below_alloc | apply pw_below_drewN | apply below_drew1 | refine below_set ?_ GE387.out) | exact HB.out)))); have n1_ := Aside0.mk (blk_below (g := gb387) (o := .cells #[.int .i64 0, .int .i64 0, .bool false] 48 (0, 0)) (by (with_reducible repeat (first | refine blk_drewN ?_ _ | refine blk_drew ?_ | refine blk_alloc ?_ _)); exact BK387.out) hb); have n2_ := Aside0.mk (below_step (by repeat (first | (with_reducible first | exact HB.out | apply below_alloc | apply pw_below_drewN | apply below_drew1 | refine below_set ?_ GE387.out) | exact HB.out)) hb); clear BK387; clear HB; have HO390 := n0_; have BK387 := n1_; have HB := n2_; clear n0_ n1_ n2_; (try clear hb); (try clear hb2); (try clear hk); (try clear hi); (try clear ho0)))
 go_loopg [2, 15] k (fun kq v2 v15 w' => ∃ (x2_1 : Int) (x15_1 : Int) (x388000_1 : Int) (x388001_1 : Int) (x388002_1 : Bool), v2 = .int .i64 x2_1 ∧ v15 = .int .i64 x15_1 ∧ Aside0 (quoinref13_bracketed.l0 kq a1 x2_1 a5 t388 x15_1 = some (r1, r2, r3, r4)) ∧ Aside0 (kq ≤ k) ∧ Aside0 (Kd.R k48 48 w' w.heap.size (fun k_ => k_ ≠ gb387) v389 t388) ∧ Aside0 (w'.heap[gb387]? = some (.cells #[.int .i64 x388000_1, .int .i64 x388001_1, .bool x388002_1] 48 (0, 0))) ∧ Aside0 (Below w.heap.size w w'))
 case atStart => exact ⟨(a2), (0), (0), (0), (false), (by first | rfl | (simp; done) | (simp [*]; done)), (by first | rfl | (simp; done) | (simp [*]; done)), H', ⟨Nat.le_refl _⟩, ⟨by (with_reducible repeat (first | apply Kd.R_alloc | apply Kd.R_drewN | apply Kd.R_drew)); exact Kd.R_mono HO390.out (fun _ hk => hk.2)⟩, ⟨by (with_reducible repeat (first | refine blk_drewN ?_ _ | refine blk_drew ?_ | refine blk_alloc ?_ _)); exact BK387.out⟩, ⟨by repeat (first | (with_reducible first | exact HB.out | apply below_alloc | apply pw_below_drewN | apply below_drew1 | refine below_set ?_ GE387.out) | exact HB.out)⟩⟩
 case round =>
  clear H'
  try clear c2
  try clear p2
  try clear c4
  obtain ⟨x2_1, x15_1, x388000_1, x388001_1, x388002_1, rfl, rfl, HA, HK1, HO_14, BK387, HB⟩ := hrel
  cases gk with
  | zero => exact absurd HA.out (by simp [quoinref13_bracketed.l0])
  | succ k1 =>
   have H := HA.out
   clear HA
   simp only [quoinref13_bracketed.l0] at H
   by_cases c10 : x15_1 < (t388.length : Int)
   ·rw [if_pos c10] at H
    have c10b0 : decide (x15_1 < (t388.length : Int)) = true := decide_eq_true c10
    clear c10
    have HC11 := Aside0.mk H
    clear H
    obtain ⟨Ao12, co12, eo12⟩ := Kd.R_slice HO_14.out
    subst eo12
    go_upto_region 5 with (fail)
    go_cut [41] (fun v41 wc => ∃ (kq : Nat) (x41_10 : Bool), v41 = .bool x41_10 ∧ Aside0 (quoinref13_bracketed.j1 kq a1 x2_1 a5 t388 x15_1 x41_10 = some (r1, r2, r3, r4)) ∧ Aside0 (kq ≤ k1) ∧ Aside0 (Kd.R k48 48 wc w.heap.size (fun k_ => k_ ≠ gb387) (.slice Ao12 t388.length co12) t388) ∧ Aside0 (wc.heap[gb387]? = some (.cells #[.int .i64 x388000_1, .int .i64 x388001_1, .bool x388002_1] 48 (0, 0))) ∧ Aside0 (Below w.heap.size w wc))
    case first =>
     have H := HC11.out
     clear HC11
     by_cases c13 : 0 ≤ x15_1
     ·rw [if_pos c13] at H
      have c13b0 : decide (0 ≤ x15_1) = true := decide_eq_true c13
      clear c13
      (first | rw [c13b0] | (simp only [i64_w, i32_w]; rw [c13b0]) | skip)
      by_cases c14 : ((rd_T48 t388 x15_1).f0) > a1
      ·rw [if_pos c14] at H
       have c14b0 : decide (a1 < ((rd_T48 t388 x15_1).f0)) = true := decide_eq_true c14
       clear c14
       have H' := Aside0.mk H
       clear H
       have p391 : 0 ≤ (x15_1 : Int) := of_decide_eq_true (by first | (with_reducible assumption) | assumption)
       have q391 : x15_1 < (t388.length : Int) := of_decide_eq_true (by first | (with_reducible assumption) | assumption)
       obtain ⟨ad391, e391, hx391_0, hx391_1, hx391_2⟩ := at_T48 (Kd.R_reads' HO_14.out).2.2 x15_1 p391 q391
       cases e391
       replace p391 := eq_true p391
       replace q391 := eq_true q391
       go_wp2
       go_meet
       case rel => exact ⟨_, (true), (by first | rfl | (simp; done) | (simp [*]; done)), H', ⟨by have := HK1.out; first | omega | exact Nat.le_refl _⟩, ⟨by (with_reducible repeat (first | apply Kd.R_alloc | apply Kd.R_drewN | apply Kd.R_drew)); exact HO_14.out⟩, ⟨by (with_reducible repeat (first | refine blk_drewN ?_ _ | refine blk_drew ?_ | refine blk_alloc ?_ _)); exact BK387.out⟩, ⟨by repeat (first | (with_reducible first | exact HB.out | apply below_alloc | apply pw_below_drewN | apply below_drew1 | refine below_set ?_ GE387.out) | exact HB.out)⟩⟩
      ·rw [if_neg c14] at H
       have c14b0 : decide (a1 < ((rd_T48 t388 x15_1).f0)) = false := decide_eq_false c14
       clear c14
       have H' := Aside0.mk H
       clear H
       have p391 : 0 ≤ (x15_1 : Int) := of_decide_eq_true (by first | (with_reducible assumption) | assumption)
       have q391 : x15_1 < (t388.length : Int) := of_decide_eq_true (by first | (with_reducible assumption) | assumption)
       obtain ⟨ad391, e391, hx391_0, hx391_1, hx391_2⟩ := at_T48 (Kd.R_reads' HO_14.out).2.2 x15_1 p391 q391
       cases e391
       replace p391 := eq_true p391
       replace q391 := eq_true q391
       have p392 : 0 ≤ (x15_1 : Int) := of_decide_eq_true (by first | (with_reducible assumption) | assumption)
       have q392 : x15_1 < (t388.length : Int) := of_decide_eq_true (by first | (with_reducible assumption) | assumption)
       obtain ⟨ad392, e392, hx392_0, hx392_1, hx392_2⟩ := at_T48 (Kd.R_reads' HO_14.out).2.2 x15_1 p392 q392
       obtain rfl : ad391 = ad392 := (by injection e392)
       replace p392 := eq_true p392
       replace q392 := eq_true q392
       go_wp2
       go_meet
       case rel => exact ⟨_, (decide (a1 > ((rd_T48 t388 x15_1).f1))), (by first | rfl | (simp; done) | (simp [*]; done)), H', ⟨by have := HK1.out; first | omega | exact Nat.le_refl _⟩, ⟨by (with_reducible repeat (first | apply Kd.R_alloc | apply Kd.R_drewN | apply Kd.R_drew)); exact HO_14.out⟩, ⟨by (with_reducible repeat (first | refine blk_drewN ?_ _ | refine blk_drew ?_ | refine blk_alloc ?_ _)); exact BK387.out⟩, ⟨by repeat (first | (with_reducible first | exact HB.out | apply below_alloc | apply pw_below_drewN | apply below_drew1 | refine below_set ?_ GE387.out) | exact HB.out)⟩⟩
     ·rw [if_neg c13] at H
      exact absurd H (by simp)
    case rest =>
     clear HC11
     try clear c1
     try clear c2
     try clear p2
     try clear p3
     try clear q3
     try clear hx3
     try clear c4
     try clear c10
     try clear c10b0
     try clear c13
     try clear c13b0
     try clear c14
     try clear c14b0
     try clear hx391_0
     try clear hx391_1
     try clear hx391_2
     try clear hx392_0
     try clear hx392_1
     try clear hx392_2
     try clear p2
     try clear p391
     try clear p392
     try clear q391
     try clear q392
     obtain ⟨kq, x41_10, rfl, HA, HJ10, HO_14, BK387, HB⟩ := hcut
     cases kq with
     | zero => exact absurd HA.out (by simp [quoinref13_bracketed.j1])
     | succ kj10 =>
      have H := HA.out
      clear HA
      simp only [quoinref13_bracketed.j1] at H
      by_cases c15 : x41_10 = true
      ·subst c15
       have H1 : (quoinref13_bracketed.l0 kj10 a1 x2_1 a5 t388 (wrap64 (x15_1 + 1))) = some (r1, r2, r3, r4) := by rw [if_pos rfl] at H; exact H
       clear H
       have H := H1
       clear H1
       have H' := Aside0.mk H
       clear H
       go_wp2
       go_roundg kj10
       case measure => have := HK1.out; have := HJ10.out; omega
       case rel => exact ⟨(x2_1), (wrap64 (x15_1 + 1)), (x388000_1), (x388001_1), (x388002_1), (by first | rfl | (simp; done) | (simp [*]; done)), (by first | rfl | (simp; done) | (simp [*]; done)), H', ⟨by have := HK1.out; have := HJ10.out; omega⟩, ⟨by (with_reducible repeat (first | apply Kd.R_alloc | apply Kd.R_drewN | apply Kd.R_drew)); exact HO_14.out⟩, ⟨by (with_reducible repeat (first | refine blk_drewN ?_ _ | refine blk_drew ?_ | refine blk_alloc ?_ _)); exact BK387.out⟩, ⟨by repeat (first | (with_reducible first | exact HB.out | apply below_alloc | apply pw_below_drewN | apply below_drew1 | refine below_set ?_ GE387.out) | exact HB.out)⟩⟩
      ·replace c15 := Bool.eq_false_iff.mpr c15
       subst c15
       have H1 : (if (wrap64 (x2_1 - 1)) > 0 then (quoinref13_bracketed.l0 kj10 a1 (wrap64 (x2_1 - 1)) a5 t388 (wrap64 (x15_1 + 1))) else (if a5 = true then (if 0 ≤ x15_1 then (if x15_1 < (t388.length : Int) then (some ((rd_T48 t388 x15_1).f0, wrap64 (((rd_T48 t388 x15_1).f1) + 1), false, 0)) else (none)) else (none)) else (if 0 ≤ x15_1 then (if x15_1 < (t388.length : Int) then (some (wrap64 (((rd_T48 t388 x15_1).f0) + 1), (rd_T48 t388 x15_1).f1, false, 0)) else (none)) else (none)))) = some (r1, r2, r3, r4) := by rw [if_neg (show ¬ (false = true) by decide)] at H; exact H
       clear H
       have H := H1
       clear H1
       by_cases c16 : (wrap64 (x2_1 - 1)) > 0
       ·rw [if_pos c16] at H
        have c16b0 : decide (0 < (wrap64 (x2_1 - 1))) = true := decide_eq_true c16
        clear c16
        have H' := Aside0.mk H
        clear H
        go_wp2
        go_roundg kj10
        case measure => have := HK1.out; have := HJ10.out; omega
        case rel => exact ⟨(wrap64 (x2_1 - 1)), (wrap64 (x15_1 + 1)), (x388000_1), (x388001_1), (x388002_1), (by first | rfl | (simp; done) | (simp [*]; done)), (by first | rfl | (simp; done) | (simp [*]; done)), H', ⟨by have := HK1.out; have := HJ10.out; omega⟩, ⟨by (with_reducible repeat (first | apply Kd.R_alloc | apply Kd.R_drewN | apply Kd.R_drew)); exact HO_14.out⟩, ⟨by (with_reducible repeat (first | refine blk_drewN ?_ _ | refine blk_drew ?_ | refine blk_alloc ?_ _)); exact BK387.out⟩, ⟨by repeat (first | (with_reducible first | exact HB.out | apply below_alloc | apply pw_below_drewN | apply below_drew1 | refine below_set ?_ GE387.out) | exact HB.out)⟩⟩
       ·rw [if_neg c16] at H
        have c16b0 : decide (0 < (wrap64 (x2_1 - 1))) = false := decide_eq_false c16
        clear c16
        by_cases c17 : a5 = true
        ·subst c17
         have H1 : (if 0 ≤ x15_1 then (if x15_1 < (t388.length : Int) then (some ((rd_T48 t388 x15_1).f0, wrap64 (((rd_T48 t388 x15_1).f1) + 1), false, 0)) else (none)) else (none)) = some (r1, r2, r3, r4) := by rw [if_pos rfl] at H; exact H
         clear H
         have H := H1
         clear H1
         by_cases c18 : 0 ≤ x15_1
         ·rw [if_pos c18] at H
          have c18b0 : decide (0 ≤ x15_1) = true := decide_eq_true c18
          clear c18
          by_cases c19 : x15_1 < (t388.length : Int)
          ·rw [if_pos c19] at H
           have c19b0 : decide (x15_1 < (t388.length : Int)) = true := decide_eq_true c19
           clear c19
           simp only [Option.some.injEq, Prod.mk.injEq] at H
           obtain ⟨rfl, rfl, rfl, rfl⟩ := H
           try go_wp2
           have n0_ := Aside0.mk (Kd.R_drew HO_14.out)
           have n1_ := Aside0.mk (blk_drew BK387.out)
           have n2_ := Aside0.mk (below_drew1 HB.out)
           clear HO_14
           clear BK387
           clear HB
           have HO_14 := n0_
           have BK387 := n1_
           have HB := n2_
           clear n0_ n1_ n2_
           have p393 : 0 ≤ (x15_1 : Int) := of_decide_eq_true (by first | (with_reducible assumption) | assumption)
           have q393 : x15_1 < (t388.length : Int) := of_decide_eq_true (by first | (with_reducible assumption) | assumption)
           obtain ⟨ad393, e393, hx393_0, hx393_1, hx393_2⟩ := at_T48 (Kd.R_reads' HO_14.out).2.2 x15_1 p393 q393
           cases e393
           replace p393 := eq_true p393
           replace q393 := eq_true q393
           have p394 : 0 ≤ (x15_1 : Int) := of_decide_eq_true (by first | (with_reducible assumption) | assumption)
           have q394 : x15_1 < (t388.length : Int) := of_decide_eq_true (by first | (with_reducible assumption) | assumption)
           obtain ⟨ad394, e394, hx394_0, hx394_1, hx394_2⟩ := at_T48 (Kd.R_reads' HO_14.out).2.2 x15_1 p394 q394
           obtain rfl : ad393 = ad394 := (by injection e394)
           replace p394 := eq_true p394
           replace q394 := eq_true q394
           refine start_ (n := 14) (S := fun w' => w'.cell? (ad393.add ((x15_1).toNat * 3)) = some (.int .i64 ((rd_T48 t388 x15_1).f0)) ∧ w'.cell? ⟨(ad393.add ((x15_1).toNat * 3)).block, (ad393.add ((x15_1).toNat * 3)).off + 1, none⟩ = some (.int .i64 ((rd_T48 t388 x15_1).f1)) ∧ w'.cell? ⟨(ad393.add ((x15_1).toNat * 3)).block, (ad393.add ((x15_1).toNat * 3)).off + 2, none⟩ = some (.bool ((rd_T48 t388 x15_1).f2)) ∧ w'.cell? (ad393.add ((x15_1).toNat * 3)) = some (.int .i64 ((rd_T48 t388 x15_1).f0)) ∧ w'.cell? ⟨(ad393.add ((x15_1).toNat * 3)).block, (ad393.add ((x15_1).toNat * 3)).off + 1, none⟩ = some (.int .i64 ((rd_T48 t388 x15_1).f1)) ∧ w'.cell? ⟨(ad393.add ((x15_1).toNat * 3)).block, (ad393.add ((x15_1).toNat * 3)).off + 2, none⟩ = some (.bool ((rd_T48 t388 x15_1).f2))) (ds := []) #[false, false, false, false, false, false, false, false, false, false, false, false, false, false] (by kernel_rfl) rfl rfl ⟨hx393_0, hx393_1, hx393_2, hx394_0, hx394_1, hx394_2⟩ (fun hHeld => ?_); refine with_tabW quoinref13_bracketed.tab9 quoinref13_bracketed.bits9 (fun HT_ HW_ => ?_)
           generalize wc.drew = w20 at HO_14 BK387 HB hx393_0 hx393_1 hx393_2 hx394_0 hx394_1 hx394_2 hHeld ⊢
           refine pure_ (i := 0) (N := some 47) (v := ?_) (a' := ?_) #[true, false, false, false, false, false, false, false, false, false, false, false, false, false] rfl rfl (any_of HT_.out (by kernel_rfl)) (fun _ _ _ h => h) (Or.inl ⟨by rfl, ?_⟩) ?_ ?_
           rotate_left
           ·intro w'
            go_simp
            with_reducible rfl
           rotate_left
           ·simp only [Act.put, List.setIfInBounds_toArray, List.set_cons_zero, List.set_cons_succ, i64_w, i32_w]
            rfl
           refine pure_ (i := 1) (N := some 48) (v := ?_) (a' := ?_) #[true, true, false, false, false, false, false, false, false, false, false, false, false, false] rfl rfl (any_of HT_.out (by kernel_rfl)) (fun _ _ _ h => h) (Or.inl ⟨by rfl, ?_⟩) ?_ ?_
           rotate_left
           ·intro w'
            go_simp
            with_reducible rfl
           rotate_left
           ·simp only [Act.put, List.setIfInBounds_toArray, List.set_cons_zero, List.set_cons_succ, i64_w, i32_w]
            rfl
           refine pure_ (i := 2) (N := some 49) (v := ?_) (a' := ?_) #[true, true, true, false, false, false, false, false, false, false, false, false, false, false] rfl rfl (any_of HT_.out (by kernel_rfl)) (fun _ _ _ h => h) (Or.inl ⟨by rfl, ?_⟩) ?_ ?_
           rotate_left
           ·intro w'
            go_simp
            with_reducible rfl
           rotate_left
           ·simp only [Act.put, List.setIfInBounds_toArray, List.set_cons_zero, List.set_cons_succ, i64_w, i32_w]
            rfl
           refine pure_ (i := 3) (N := some 50) (v := ?_) (a' := ?_) #[true, true, true, true, false, false, false, false, false, false, false, false, false, false] rfl rfl (any_of HT_.out (by kernel_rfl)) (fun _ _ _ h => h) (Or.inl ⟨by rfl, ?_⟩) ?_ ?_
           rotate_left
           ·intro w'
            go_simp
            with_reducible rfl
           rotate_left
           ·simp only [Act.put, List.setIfInBounds_toArray, List.set_cons_zero, List.set_cons_succ, i64_w, i32_w]
            rfl
           refine pure_ (i := 5) (N := some 52) (v := ?_) (a' := ?_) #[true, true, true, true, false, true, false, false, false, false, false, false, false, false] rfl rfl (any_of HT_.out (by kernel_rfl)) (fun _ _ _ h => h) (Or.inl ⟨by rfl, ?_⟩) ?_ ?_
           rotate_left
           ·intro w'
            go_simp
            with_reducible rfl
           rotate_left
           ·simp only [Act.put, List.setIfInBounds_toArray, List.set_cons_zero, List.set_cons_succ, i64_w, i32_w]
            rfl
           refine pure_ (i := 6) (N := some 53) (v := ?_) (a' := ?_) #[true, true, true, true, false, true, true, false, false, false, false, false, false, false] rfl rfl (any_of HT_.out (by kernel_rfl)) (fun _ _ _ h => h) (Or.inl ⟨by rfl, ?_⟩) ?_ ?_
           rotate_left
           ·intro w'
            go_simp
            with_reducible rfl
           rotate_left
           ·simp only [Act.put, List.setIfInBounds_toArray, List.set_cons_zero, List.set_cons_succ, i64_w, i32_w]
            rfl
           refine pure_ (i := 7) (N := some 54) (v := ?_) (a' := ?_) #[true, true, true, true, false, true, true, true, false, false, false, false, false, false] rfl rfl (any_of HT_.out (by kernel_rfl)) (fun _ _ _ h => h) (Or.inl ⟨by rfl, ?_⟩) ?_ ?_
           rotate_left
           ·intro w'
            go_simp
            with_reducible rfl
           rotate_left
           ·simp only [Act.put, List.setIfInBounds_toArray, List.set_cons_zero, List.set_cons_succ, i64_w, i32_w]
            rfl
           refine pure_ (i := 8) (N := some 55) (v := ?_) (a' := ?_) #[true, true, true, true, false, true, true, true, true, false, false, false, false, false] rfl rfl (any_of HT_.out (by kernel_rfl)) (fun _ _ _ h => h) (Or.inl ⟨by rfl, ?_⟩) ?_ ?_
           rotate_left
           ·intro w'
            go_simp
            with_reducible rfl
           rotate_left
           ·simp only [Act.put, List.setIfInBounds_toArray, List.set_cons_zero, List.set_cons_succ, i64_w, i32_w]
            rfl
           refine take_ (i := 4) (N := some 51) (v := ?_) (a' := ?_) #[true, true, true, true, true, true, true, true, true, false, false, false, false, false] rfl rfl (take_ofW HT_.out HW_.out (by kernel_rfl)) (fun _ _ _ h => h) (Or.inl ⟨by rfl, ?_⟩) hHeld ?_ ?_
           rotate_left
           ·rintro w' ⟨s0, s1, s2, s3, s4, s5⟩
            go_simp
            with_reducible rfl
           rotate_left
           ·simp only [Act.put, List.setIfInBounds_toArray, List.set_cons_zero, List.set_cons_succ, i64_w, i32_w]
            rfl
           refine take_ (i := 9) (N := some 56) (v := ?_) (a' := ?_) #[true, true, true, true, true, true, true, true, true, true, false, false, false, false] rfl rfl (take_ofW HT_.out HW_.out (by kernel_rfl)) (fun _ _ _ h => h) (Or.inl ⟨by rfl, ?_⟩) hHeld ?_ ?_
           rotate_left
           ·rintro w' ⟨s0, s1, s2, s3, s4, s5⟩
            go_simp
            with_reducible rfl
           rotate_left
           ·simp only [Act.put, List.setIfInBounds_toArray, List.set_cons_zero, List.set_cons_succ, i64_w, i32_w]
            rfl
           refine pure_ (i := 10) (N := some 57) (v := ?_) (a' := ?_) #[true, true, true, true, true, true, true, true, true, true, true, false, false, false] rfl rfl (any_of HT_.out (by kernel_rfl)) (fun _ _ _ h => h) (Or.inl ⟨by rfl, ?_⟩) ?_ ?_
           rotate_left
           ·intro w'
            go_simp
            with_reducible rfl
           rotate_left
           ·simp only [Act.put, List.setIfInBounds_toArray, List.set_cons_zero, List.set_cons_succ, i64_w, i32_w]
            rfl
           refine pure_ (i := 11) (N := some 58) (v := ?_) (a' := ?_) #[true, true, true, true, true, true, true, true, true, true, true, true, false, false] rfl rfl (any_of HT_.out (by kernel_rfl)) (fun _ _ _ h => h) (Or.inl ⟨by rfl, ?_⟩) ?_ ?_
           rotate_left
           ·intro w'
            go_simp
            with_reducible rfl
           rotate_left
           ·simp only [Act.put, List.setIfInBounds_toArray, List.set_cons_zero, List.set_cons_succ, i64_w, i32_w]
            rfl
           refine one_ (i := 12) (N := none) #[true, true, true, true, true, true, true, true, true, true, true, true, true, false] rfl rfl (one_of HT_.out (by kernel_rfl)) (by decide) (fun K hK => ?_)
           have hs21 : w20.cell? ⟨gb387, 0, none⟩ = some (.int .i64 x388000_1) := (blk_cell BK387.out 0).trans rfl
           have hfs21 := blk_frozen BK387.out 0
           have hs22 : w20.cell? ⟨gb387, 1, none⟩ = some (.int .i64 x388001_1) := (blk_cell BK387.out 1).trans rfl
           have hfs22 := blk_frozen BK387.out 1
           have hs23 : w20.cell? ⟨gb387, 2, none⟩ = some (.bool x388002_1) := (blk_cell BK387.out 2).trans rfl
           have hfs23 := blk_frozen BK387.out 2
           refine skip_ (w1 := ?_) (by rfl) rfl ?_ ?_
           rotate_left
           ·go_simp
            rfl
           refine hK.out _ _ ⟨((cell_far (p := ⟨gb387, _, none⟩) (by first | exact Kd.own_blk (Kd.R_away HO_14.out (fun _ hk => hk)) | (rw [add_block]; exact Kd.own_blk (Kd.R_away HO_14.out (fun _ hk => hk))) | (show (Addr.add _ _).block ≠ _; rw [add_block]; exact Kd.own_blk (Kd.R_away HO_14.out (fun _ hk => hk))) | (dsimp only; exact Kd.own_blk (Kd.R_away HO_14.out (fun _ hk => hk)))) _).trans (((cell_far (p := ⟨gb387, _, none⟩) (by first | exact Kd.own_blk (Kd.R_away HO_14.out (fun _ hk => hk)) | (rw [add_block]; exact Kd.own_blk (Kd.R_away HO_14.out (fun _ hk => hk))) | (show (Addr.add _ _).block ≠ _; rw [add_block]; exact Kd.own_blk (Kd.R_away HO_14.out (fun _ hk => hk))) | (dsimp only; exact Kd.own_blk (Kd.R_away HO_14.out (fun _ hk => hk)))) _).trans (((cell_far (p := ⟨gb387, _, none⟩) (by first | exact Kd.own_blk (Kd.R_away HO_14.out (fun _ hk => hk)) | (rw [add_block]; exact Kd.own_blk (Kd.R_away HO_14.out (fun _ hk => hk))) | (show (Addr.add _ _).block ≠ _; rw [add_block]; exact Kd.own_blk (Kd.R_away HO_14.out (fun _ hk => hk))) | (dsimp only; exact Kd.own_blk (Kd.R_away HO_14.out (fun _ hk => hk)))) _).trans (hHeld.1)))))), ((cell_far (p := ⟨gb387, _, none⟩) (by first | exact Kd.own_blk (Kd.R_away HO_14.out (fun _ hk => hk)) | (rw [add_block]; exact Kd.own_blk (Kd.R_away HO_14.out (fun _ hk => hk))) | (show (Addr.add _ _).block ≠ _; rw [add_block]; exact Kd.own_blk (Kd.R_away HO_14.out (fun _ hk => hk))) | (dsimp only; exact Kd.own_blk (Kd.R_away HO_14.out (fun _ hk => hk)))) _).trans (((cell_far (p := ⟨gb387, _, none⟩) (by first | exact Kd.own_blk (Kd.R_away HO_14.out (fun _ hk => hk)) | (rw [add_block]; exact Kd.own_blk (Kd.R_away HO_14.out (fun _ hk => hk))) | (show (Addr.add _ _).block ≠ _; rw [add_block]; exact Kd.own_blk (Kd.R_away HO_14.out (fun _ hk => hk))) | (dsimp only; exact Kd.own_blk (Kd.R_away HO_14.out (fun _ hk => hk)))) _).trans (((cell_far (p := ⟨gb387, _, none⟩) (by first | exact Kd.own_blk (Kd.R_away HO_14.out (fun _ hk => hk)) | (rw [add_block]; exact Kd.own_blk (Kd.R_away HO_14.out (fun _ hk => hk))) | (show (Addr.add _ _).block ≠ _; rw [add_block]; exact Kd.own_blk (Kd.R_away HO_14.out (fun _ hk => hk))) | (dsimp only; exact Kd.own_blk (Kd.R_away HO_14.out (fun _ hk => hk)))) _).trans (hHeld.2.1)))))), ((cell_far (p := ⟨gb387, _, none⟩) (by first | exact Kd.own_blk (Kd.R_away HO_14.out (fun _ hk => hk)) | (rw [add_block]; exact Kd.own_blk (Kd.R_away HO_14.out (fun _ hk => hk))) | (show (Addr.add _ _).block ≠ _; rw [add_block]; exact Kd.own_blk (Kd.R_away HO_14.out (fun _ hk => hk))) | (dsimp only; exact Kd.own_blk (Kd.R_away HO_14.out (fun _ hk => hk)))) _).trans (((cell_far (p := ⟨gb387, _, none⟩) (by first | exact Kd.own_blk (Kd.R_away HO_14.out (fun _ hk => hk)) | (rw [add_block]; exact Kd.own_blk (Kd.R_away HO_14.out (fun _ hk => hk))) | (show (Addr.add _ _).block ≠ _; rw [add_block]; exact Kd.own_blk (Kd.R_away HO_14.out (fun _ hk => hk))) | (dsimp only; exact Kd.own_blk (Kd.R_away HO_14.out (fun _ hk => hk)))) _).trans (((cell_far (p := ⟨gb387, _, none⟩) (by first | exact Kd.own_blk (Kd.R_away HO_14.out (fun _ hk => hk)) | (rw [add_block]; exact Kd.own_blk (Kd.R_away HO_14.out (fun _ hk => hk))) | (show (Addr.add _ _).block ≠ _; rw [add_block]; exact Kd.own_blk (Kd.R_away HO_14.out (fun _ hk => hk))) | (dsimp only; exact Kd.own_blk (Kd.R_away HO_14.out (fun _ hk => hk)))) _).trans (hHeld.2.2.1)))))), ((cell_far (p := ⟨gb387, _, none⟩) (by first | exact Kd.own_blk (Kd.R_away HO_14.out (fun _ hk => hk)) | (rw [add_block]; exact Kd.own_blk (Kd.R_away HO_14.out (fun _ hk => hk))) | (show (Addr.add _ _).block ≠ _; rw [add_block]; exact Kd.own_blk (Kd.R_away HO_14.out (fun _ hk => hk))) | (dsimp only; exact Kd.own_blk (Kd.R_away HO_14.out (fun _ hk => hk)))) _).trans (((cell_far (p := ⟨gb387, _, none⟩) (by first | exact Kd.own_blk (Kd.R_away HO_14.out (fun _ hk => hk)) | (rw [add_block]; exact Kd.own_blk (Kd.R_away HO_14.out (fun _ hk => hk))) | (show (Addr.add _ _).block ≠ _; rw [add_block]; exact Kd.own_blk (Kd.R_away HO_14.out (fun _ hk => hk))) | (dsimp only; exact Kd.own_blk (Kd.R_away HO_14.out (fun _ hk => hk)))) _).trans (((cell_far (p := ⟨gb387, _, none⟩) (by first | exact Kd.own_blk (Kd.R_away HO_14.out (fun _ hk => hk)) | (rw [add_block]; exact Kd.own_blk (Kd.R_away HO_14.out (fun _ hk => hk))) | (show (Addr.add _ _).block ≠ _; rw [add_block]; exact Kd.own_blk (Kd.R_away HO_14.out (fun _ hk => hk))) | (dsimp only; exact Kd.own_blk (Kd.R_away HO_14.out (fun _ hk => hk)))) _).trans (hHeld.2.2.2.1)))))), ((cell_far (p := ⟨gb387, _, none⟩) (by first | exact Kd.own_blk (Kd.R_away HO_14.out (fun _ hk => hk)) | (rw [add_block]; exact Kd.own_blk (Kd.R_away HO_14.out (fun _ hk => hk))) | (show (Addr.add _ _).block ≠ _; rw [add_block]; exact Kd.own_blk (Kd.R_away HO_14.out (fun _ hk => hk))) | (dsimp only; exact Kd.own_blk (Kd.R_away HO_14.out (fun _ hk => hk)))) _).trans (((cell_far (p := ⟨gb387, _, none⟩) (by first | exact Kd.own_blk (Kd.R_away HO_14.out (fun _ hk => hk)) | (rw [add_block]; exact Kd.own_blk (Kd.R_away HO_14.out (fun _ hk => hk))) | (show (Addr.add _ _).block ≠ _; rw [add_block]; exact Kd.own_blk (Kd.R_away HO_14.out (fun _ hk => hk))) | (dsimp only; exact Kd.own_blk (Kd.R_away HO_14.out (fun _ hk => hk)))) _).trans (((cell_far (p := ⟨gb387, _, none⟩) (by first | exact Kd.own_blk (Kd.R_away HO_14.out (fun _ hk => hk)) | (rw [add_block]; exact Kd.own_blk (Kd.R_away HO_14.out (fun _ hk => hk))) | (show (Addr.add _ _).block ≠ _; rw [add_block]; exact Kd.own_blk (Kd.R_away HO_14.out (fun _ hk => hk))) | (dsimp only; exact Kd.own_blk (Kd.R_away HO_14.out (fun _ hk => hk)))) _).trans (hHeld.2.2.2.2.1)))))), ((cell_far (p := ⟨gb387, _, none⟩) (by first | exact Kd.own_blk (Kd.R_away HO_14.out (fun _ hk => hk)) | (rw [add_block]; exact Kd.own_blk (Kd.R_away HO_14.out (fun _ hk => hk))) | (show (Addr.add _ _).block ≠ _; rw [add_block]; exact Kd.own_blk (Kd.R_away HO_14.out (fun _ hk => hk))) | (dsimp only; exact Kd.own_blk (Kd.R_away HO_14.out (fun _ hk => hk)))) _).trans (((cell_far (p := ⟨gb387, _, none⟩) (by first | exact Kd.own_blk (Kd.R_away HO_14.out (fun _ hk => hk)) | (rw [add_block]; exact Kd.own_blk (Kd.R_away HO_14.out (fun _ hk => hk))) | (show (Addr.add _ _).block ≠ _; rw [add_block]; exact Kd.own_blk (Kd.R_away HO_14.out (fun _ hk => hk))) | (dsimp only; exact Kd.own_blk (Kd.R_away HO_14.out (fun _ hk => hk)))) _).trans (((cell_far (p := ⟨gb387, _, none⟩) (by first | exact Kd.own_blk (Kd.R_away HO_14.out (fun _ hk => hk)) | (rw [add_block]; exact Kd.own_blk (Kd.R_away HO_14.out (fun _ hk => hk))) | (show (Addr.add _ _).block ≠ _; rw [add_block]; exact Kd.own_blk (Kd.R_away HO_14.out (fun _ hk => hk))) | (dsimp only; exact Kd.own_blk (Kd.R_away HO_14.out (fun _ hk => hk)))) _).trans (hHeld.2.2.2.2.2))))))⟩ (fun hHeld => ?_)
           clear hK K
           refine pure_ (i := 13) (N := some 13) (v := ?_) (a' := ?_) #[true, true, true, true, true, true, true, true, true, true, true, true, true, true] rfl rfl (any_of HT_.out (by kernel_rfl)) (fun _ _ _ h => h) (Or.inl ⟨by rfl, ?_⟩) ?_ ?_
           rotate_left
           ·intro w'
            go_simp
            with_reducible rfl
           rotate_left
           ·simp only [Act.put, List.setIfInBounds_toArray, List.set_cons_zero, List.set_cons_succ, i64_w, i32_w]
            rfl
           refine done_ (done_of HT_.out (by kernel_rfl)) ?_
           try go_wp2
           refine bodyPost_ret (results_ct rfl _ _ gb387 48 #[.int .i64 ((rd_T48 t388 x15_1).f0), .int .i64 (wrap64 (((rd_T48 t388 x15_1).f1) + 1)), .bool false] (0, 0) _ rfl (by (with_reducible repeat (first | refine blk_drewN ?_ _ | refine blk_drew ?_ | refine blk_alloc ?_ _)); refine blk_put (cs := #[.int .i64 ((rd_T48 t388 x15_1).f0), .int .i64 (wrap64 (((rd_T48 t388 x15_1).f1) + 1)), .bool x388002_1]) ?_ 2 _ rfl; (with_reducible repeat (first | refine blk_drewN ?_ _ | refine blk_drew ?_ | refine blk_alloc ?_ _)); refine blk_put (cs := #[.int .i64 ((rd_T48 t388 x15_1).f0), .int .i64 x388001_1, .bool x388002_1]) ?_ 1 _ rfl; (with_reducible repeat (first | refine blk_drewN ?_ _ | refine blk_drew ?_ | refine blk_alloc ?_ _)); refine blk_put (cs := #[.int .i64 x388000_1, .int .i64 x388001_1, .bool x388002_1]) ?_ 0 _ rfl; (with_reducible repeat (first | refine blk_drewN ?_ _ | refine blk_drew ?_ | refine blk_alloc ?_ _)); exact BK387.out) Tryd.underlying48 rfl (by kernel_rfl)) rfl ?_
           exact ⟨by first | rfl | (simp [errW_none, errW_some] <;> rfl) | (simp [*, errW_none, errW_some] <;> rfl), by repeat (first | (with_reducible first | exact HB.out | apply below_alloc | apply pw_below_drewN | apply below_drew1 | refine below_set ?_ GE387.out) | exact HB.out)⟩
          ·rw [if_neg c19] at H
           exact absurd H (by simp)
         ·rw [if_neg c18] at H
          exact absurd H (by simp)
        ·replace c17 := Bool.eq_false_iff.mpr c17
         subst c17
         have H1 : (if 0 ≤ x15_1 then (if x15_1 < (t388.length : Int) then (some (wrap64 (((rd_T48 t388 x15_1).f0) + 1), (rd_T48 t388 x15_1).f1, false, 0)) else (none)) else (none)) = some (r1, r2, r3, r4) := by rw [if_neg (show ¬ (false = true) by decide)] at H; exact H
         clear H
         have H := H1
         clear H1
         by_cases c24 : 0 ≤ x15_1
         ·rw [if_pos c24] at H
          have c24b0 : decide (0 ≤ x15_1) = true := decide_eq_true c24
          clear c24
          by_cases c25 : x15_1 < (t388.length : Int)
          ·rw [if_pos c25] at H
           have c25b0 : decide (x15_1 < (t388.length : Int)) = true := decide_eq_true c25
           clear c25
           simp only [Option.some.injEq, Prod.mk.injEq] at H
           obtain ⟨rfl, rfl, rfl, rfl⟩ := H
           try go_wp2
           have n0_ := Aside0.mk (Kd.R_drew HO_14.out)
           have n1_ := Aside0.mk (blk_drew BK387.out)
           have n2_ := Aside0.mk (below_drew1 HB.out)
           clear HO_14
           clear BK387
           clear HB
           have HO_14 := n0_
           have BK387 := n1_
           have HB := n2_
           clear n0_ n1_ n2_
           have p395 : 0 ≤ (x15_1 : Int) := of_decide_eq_true (by first | (with_reducible assumption) | assumption)
           have q395 : x15_1 < (t388.length : Int) := of_decide_eq_true (by first | (with_reducible assumption) | assumption)
           obtain ⟨ad395, e395, hx395_0, hx395_1, hx395_2⟩ := at_T48 (Kd.R_reads' HO_14.out).2.2 x15_1 p395 q395
           cases e395
           replace p395 := eq_true p395
           replace q395 := eq_true q395
           have p396 : 0 ≤ (x15_1 : Int) := of_decide_eq_true (by first | (with_reducible assumption) | assumption)
           have q396 : x15_1 < (t388.length : Int) := of_decide_eq_true (by first | (with_reducible assumption) | assumption)
           obtain ⟨ad396, e396, hx396_0, hx396_1, hx396_2⟩ := at_T48 (Kd.R_reads' HO_14.out).2.2 x15_1 p396 q396
           obtain rfl : ad395 = ad396 := (by injection e396)
           replace p396 := eq_true p396
           replace q396 := eq_true q396
           refine start_ (n := 14) (S := fun w' => w'.cell? (ad395.add ((x15_1).toNat * 3)) = some (.int .i64 ((rd_T48 t388 x15_1).f0)) ∧ w'.cell? ⟨(ad395.add ((x15_1).toNat * 3)).block, (ad395.add ((x15_1).toNat * 3)).off + 1, none⟩ = some (.int .i64 ((rd_T48 t388 x15_1).f1)) ∧ w'.cell? ⟨(ad395.add ((x15_1).toNat * 3)).block, (ad395.add ((x15_1).toNat * 3)).off + 2, none⟩ = some (.bool ((rd_T48 t388 x15_1).f2)) ∧ w'.cell? (ad395.add ((x15_1).toNat * 3)) = some (.int .i64 ((rd_T48 t388 x15_1).f0)) ∧ w'.cell? ⟨(ad395.add ((x15_1).toNat * 3)).block, (ad395.add ((x15_1).toNat * 3)).off + 1, none⟩ = some (.int .i64 ((rd_T48 t388 x15_1).f1)) ∧ w'.cell? ⟨(ad395.add ((x15_1).toNat * 3)).block, (ad395.add ((x15_1).toNat * 3)).off + 2, none⟩ = some (.bool ((rd_T48 t388 x15_1).f2))) (ds := []) #[false, false, false, false, false, false, false, false, false, false, false, false, false, false] (by kernel_rfl) rfl rfl ⟨hx395_0, hx395_1, hx395_2, hx396_0, hx396_1, hx396_2⟩ (fun hHeld => ?_); refine with_tabW quoinref13_bracketed.tab10 quoinref13_bracketed.bits10 (fun HT_ HW_ => ?_)
           generalize wc.drew = w26 at HO_14 BK387 HB hx395_0 hx395_1 hx395_2 hx396_0 hx396_1 hx396_2 hHeld ⊢
           refine pure_ (i := 0) (N := some 59) (v := ?_) (a' := ?_) #[true, false, false, false, false, false, false, false, false, false, false, false, false, false] rfl rfl (any_of HT_.out (by kernel_rfl)) (fun _ _ _ h => h) (Or.inl ⟨by rfl, ?_⟩) ?_ ?_
           rotate_left
           ·intro w'
            go_simp
            with_reducible rfl
           rotate_left
           ·simp only [Act.put, List.setIfInBounds_toArray, List.set_cons_zero, List.set_cons_succ, i64_w, i32_w]
            rfl
           refine pure_ (i := 1) (N := some 60) (v := ?_) (a' := ?_) #[true, true, false, false, false, false, false, false, false, false, false, false, false, false] rfl rfl (any_of HT_.out (by kernel_rfl)) (fun _ _ _ h => h) (Or.inl ⟨by rfl, ?_⟩) ?_ ?_
           rotate_left
           ·intro w'
            go_simp
            with_reducible rfl
           rotate_left
           ·simp only [Act.put, List.setIfInBounds_toArray, List.set_cons_zero, List.set_cons_succ, i64_w, i32_w]
            rfl
           refine pure_ (i := 2) (N := some 61) (v := ?_) (a' := ?_) #[true, true, true, false, false, false, false, false, false, false, false, false, false, false] rfl rfl (any_of HT_.out (by kernel_rfl)) (fun _ _ _ h => h) (Or.inl ⟨by rfl, ?_⟩) ?_ ?_
           rotate_left
           ·intro w'
            go_simp
            with_reducible rfl
           rotate_left
           ·simp only [Act.put, List.setIfInBounds_toArray, List.set_cons_zero, List.set_cons_succ, i64_w, i32_w]
            rfl
           refine pure_ (i := 3) (N := some 62) (v := ?_) (a' := ?_) #[true, true, true, true, false, false, false, false, false, false, false, false, false, false] rfl rfl (any_of HT_.out (by kernel_rfl)) (fun _ _ _ h => h) (Or.inl ⟨by rfl, ?_⟩) ?_ ?_
           rotate_left
           ·intro w'
            go_simp
            with_reducible rfl
           rotate_left
           ·simp only [Act.put, List.setIfInBounds_toArray, List.set_cons_zero, List.set_cons_succ, i64_w, i32_w]
            rfl
           refine pure_ (i := 6) (N := some 65) (v := ?_) (a' := ?_) #[true, true, true, true, false, false, true, false, false, false, false, false, false, false] rfl rfl (any_of HT_.out (by kernel_rfl)) (fun _ _ _ h => h) (Or.inl ⟨by rfl, ?_⟩) ?_ ?_
           rotate_left
           ·intro w'
            go_simp
            with_reducible rfl
           rotate_left
           ·simp only [Act.put, List.setIfInBounds_toArray, List.set_cons_zero, List.set_cons_succ, i64_w, i32_w]
            rfl
           refine pure_ (i := 7) (N := some 66) (v := ?_) (a' := ?_) #[true, true, true, true, false, false, true, true, false, false, false, false, false, false] rfl rfl (any_of HT_.out (by kernel_rfl)) (fun _ _ _ h => h) (Or.inl ⟨by rfl, ?_⟩) ?_ ?_
           rotate_left
           ·intro w'
            go_simp
            with_reducible rfl
           rotate_left
           ·simp only [Act.put, List.setIfInBounds_toArray, List.set_cons_zero, List.set_cons_succ, i64_w, i32_w]
            rfl
           refine pure_ (i := 8) (N := some 67) (v := ?_) (a' := ?_) #[true, true, true, true, false, false, true, true, true, false, false, false, false, false] rfl rfl (any_of HT_.out (by kernel_rfl)) (fun _ _ _ h => h) (Or.inl ⟨by rfl, ?_⟩) ?_ ?_
           rotate_left
           ·intro w'
            go_simp
            with_reducible rfl
           rotate_left
           ·simp only [Act.put, List.setIfInBounds_toArray, List.set_cons_zero, List.set_cons_succ, i64_w, i32_w]
            rfl
           refine pure_ (i := 9) (N := some 68) (v := ?_) (a' := ?_) #[true, true, true, true, false, false, true, true, true, true, false, false, false, false] rfl rfl (any_of HT_.out (by kernel_rfl)) (fun _ _ _ h => h) (Or.inl ⟨by rfl, ?_⟩) ?_ ?_
           rotate_left
           ·intro w'
            go_simp
            with_reducible rfl
           rotate_left
           ·simp only [Act.put, List.setIfInBounds_toArray, List.set_cons_zero, List.set_cons_succ, i64_w, i32_w]
            rfl
           refine take_ (i := 4) (N := some 63) (v := ?_) (a' := ?_) #[true, true, true, true, true, false, true, true, true, true, false, false, false, false] rfl rfl (take_ofW HT_.out HW_.out (by kernel_rfl)) (fun _ _ _ h => h) (Or.inl ⟨by rfl, ?_⟩) hHeld ?_ ?_
           rotate_left
           ·rintro w' ⟨s0, s1, s2, s3, s4, s5⟩
            go_simp
            with_reducible rfl
           rotate_left
           ·simp only [Act.put, List.setIfInBounds_toArray, List.set_cons_zero, List.set_cons_succ, i64_w, i32_w]
            rfl
           refine pure_ (i := 5) (N := some 64) (v := ?_) (a' := ?_) #[true, true, true, true, true, true, true, true, true, true, false, false, false, false] rfl rfl (any_of HT_.out (by kernel_rfl)) (fun _ _ _ h => h) (Or.inl ⟨by rfl, ?_⟩) ?_ ?_
           rotate_left
           ·intro w'
            go_simp
            with_reducible rfl
           rotate_left
           ·simp only [Act.put, List.setIfInBounds_toArray, List.set_cons_zero, List.set_cons_succ, i64_w, i32_w]
            rfl
           refine take_ (i := 10) (N := some 69) (v := ?_) (a' := ?_) #[true, true, true, true, true, true, true, true, true, true, true, false, false, false] rfl rfl (take_ofW HT_.out HW_.out (by kernel_rfl)) (fun _ _ _ h => h) (Or.inl ⟨by rfl, ?_⟩) hHeld ?_ ?_
           rotate_left
           ·rintro w' ⟨s0, s1, s2, s3, s4, s5⟩
            go_simp
            with_reducible rfl
           rotate_left
           ·simp only [Act.put, List.setIfInBounds_toArray, List.set_cons_zero, List.set_cons_succ, i64_w, i32_w]
            rfl
           refine pure_ (i := 11) (N := some 70) (v := ?_) (a' := ?_) #[true, true, true, true, true, true, true, true, true, true, true, true, false, false] rfl rfl (any_of HT_.out (by kernel_rfl)) (fun _ _ _ h => h) (Or.inl ⟨by rfl, ?_⟩) ?_ ?_
           rotate_left
           ·intro w'
            go_simp
            with_reducible rfl
           rotate_left
           ·simp only [Act.put, List.setIfInBounds_toArray, List.set_cons_zero, List.set_cons_succ, i64_w, i32_w]
            rfl
           refine one_ (i := 12) (N := none) #[true, true, true, true, true, true, true, true, true, true, true, true, true, false] rfl rfl (one_of HT_.out (by kernel_rfl)) (by decide) (fun K hK => ?_)
           have hs27 : w26.cell? ⟨gb387, 0, none⟩ = some (.int .i64 x388000_1) := (blk_cell BK387.out 0).trans rfl
           have hfs27 := blk_frozen BK387.out 0
           have hs28 : w26.cell? ⟨gb387, 1, none⟩ = some (.int .i64 x388001_1) := (blk_cell BK387.out 1).trans rfl
           have hfs28 := blk_frozen BK387.out 1
           have hs29 : w26.cell? ⟨gb387, 2, none⟩ = some (.bool x388002_1) := (blk_cell BK387.out 2).trans rfl
           have hfs29 := blk_frozen BK387.out 2
           refine skip_ (w1 := ?_) (by rfl) rfl ?_ ?_
           rotate_left
           ·go_simp
            rfl
           refine hK.out _ _ ⟨((cell_far (p := ⟨gb387, _, none⟩) (by first | exact Kd.own_blk (Kd.R_away HO_14.out (fun _ hk => hk)) | (rw [add_block]; exact Kd.own_blk (Kd.R_away HO_14.out (fun _ hk => hk))) | (show (Addr.add _ _).block ≠ _; rw [add_block]; exact Kd.own_blk (Kd.R_away HO_14.out (fun _ hk => hk))) | (dsimp only; exact Kd.own_blk (Kd.R_away HO_14.out (fun _ hk => hk)))) _).trans (((cell_far (p := ⟨gb387, _, none⟩) (by first | exact Kd.own_blk (Kd.R_away HO_14.out (fun _ hk => hk)) | (rw [add_block]; exact Kd.own_blk (Kd.R_away HO_14.out (fun _ hk => hk))) | (show (Addr.add _ _).block ≠ _; rw [add_block]; exact Kd.own_blk (Kd.R_away HO_14.out (fun _ hk => hk))) | (dsimp only; exact Kd.own_blk (Kd.R_away HO_14.out (fun _ hk => hk)))) _).trans (((cell_far (p := ⟨gb387, _, none⟩) (by first | exact Kd.own_blk (Kd.R_away HO_14.out (fun _ hk => hk)) | (rw [add_block]; exact Kd.own_blk (Kd.R_away HO_14.out (fun _ hk => hk))) | (show (Addr.add _ _).block ≠ _; rw [add_block]; exact Kd.own_blk (Kd.R_away HO_14.out (fun _ hk => hk))) | (dsimp only; exact Kd.own_blk (Kd.R_away HO_14.out (fun _ hk => hk)))) _).trans (hHeld.1)))))), ((cell_far (p := ⟨gb387, _, none⟩) (by first | exact Kd.own_blk (Kd.R_away HO_14.out (fun _ hk => hk)) | (rw [add_block]; exact Kd.own_blk (Kd.R_away HO_14.out (fun _ hk => hk))) | (show (Addr.add _ _).block ≠ _; rw [add_block]; exact Kd.own_blk (Kd.R_away HO_14.out (fun _ hk => hk))) | (dsimp only; exact Kd.own_blk (Kd.R_away HO_14.out (fun _ hk => hk)))) _).trans (((cell_far (p := ⟨gb387, _, none⟩) (by first | exact Kd.own_blk (Kd.R_away HO_14.out (fun _ hk => hk)) | (rw [add_block]; exact Kd.own_blk (Kd.R_away HO_14.out (fun _ hk => hk))) | (show (Addr.add _ _).block ≠ _; rw [add_block]; exact Kd.own_blk (Kd.R_away HO_14.out (fun _ hk => hk))) | (dsimp only; exact Kd.own_blk (Kd.R_away HO_14.out (fun _ hk => hk)))) _).trans (((cell_far (p := ⟨gb387, _, none⟩) (by first | exact Kd.own_blk (Kd.R_away HO_14.out (fun _ hk => hk)) | (rw [add_block]; exact Kd.own_blk (Kd.R_away HO_14.out (fun _ hk => hk))) | (show (Addr.add _ _).block ≠ _; rw [add_block]; exact Kd.own_blk (Kd.R_away HO_14.out (fun _ hk => hk))) | (dsimp only; exact Kd.own_blk (Kd.R_away HO_14.out (fun _ hk => hk)))) _).trans (hHeld.2.1)))))), ((cell_far (p := ⟨gb387, _, none⟩) (by first | exact Kd.own_blk (Kd.R_away HO_14.out (fun _ hk => hk)) | (rw [add_block]; exact Kd.own_blk (Kd.R_away HO_14.out (fun _ hk => hk))) | (show (Addr.add _ _).block ≠ _; rw [add_block]; exact Kd.own_blk (Kd.R_away HO_14.out (fun _ hk => hk))) | (dsimp only; exact Kd.own_blk (Kd.R_away HO_14.out (fun _ hk => hk)))) _).trans (((cell_far (p := ⟨gb387, _, none⟩) (by first | exact Kd.own_blk (Kd.R_away HO_14.out (fun _ hk => hk)) | (rw [add_block]; exact Kd.own_blk (Kd.R_away HO_14.out (fun _ hk => hk))) | (show (Addr.add _ _).block ≠ _; rw [add_block]; exact Kd.own_blk (Kd.R_away HO_14.out (fun _ hk => hk))) | (dsimp only; exact Kd.own_blk (Kd.R_away HO_14.out (fun _ hk => hk)))) _).trans (((cell_far (p := ⟨gb387, _, none⟩) (by first | exact Kd.own_blk (Kd.R_away HO_14.out (fun _ hk => hk)) | (rw [add_block]; exact Kd.own_blk (Kd.R_away HO_14.out (fun _ hk => hk))) | (show (Addr.add _ _).block ≠ _; rw [add_block]; exact Kd.own_blk (Kd.R_away HO_14.out (fun _ hk => hk))) | (dsimp only; exact Kd.own_blk (Kd.R_away HO_14.out (fun _ hk => hk)))) _).trans (hHeld.2.2.1)))))), ((cell_far (p := ⟨gb387, _, none⟩) (by first | exact Kd.own_blk (Kd.R_away HO_14.out (fun _ hk => hk)) | (rw [add_block]; exact Kd.own_blk (Kd.R_away HO_14.out (fun _ hk => hk))) | (show (Addr.add _ _).block ≠ _; rw [add_block]; exact Kd.own_blk (Kd.R_away HO_14.out (fun _ hk => hk))) | (dsimp only; exact Kd.own_blk (Kd.R_away HO_14.out (fun _ hk => hk)))) _).trans (((cell_far (p := ⟨gb387, _, none⟩) (by first | exact Kd.own_blk (Kd.R_away HO_14.out (fun _ hk => hk)) | (rw [add_block]; exact Kd.own_blk (Kd.R_away HO_14.out (fun _ hk => hk))) | (show (Addr.add _ _).block ≠ _; rw [add_block]; exact Kd.own_blk (Kd.R_away HO_14.out (fun _ hk => hk))) | (dsimp only; exact Kd.own_blk (Kd.R_away HO_14.out (fun _ hk => hk)))) _).trans (((cell_far (p := ⟨gb387, _, none⟩) (by first | exact Kd.own_blk (Kd.R_away HO_14.out (fun _ hk => hk)) | (rw [add_block]; exact Kd.own_blk (Kd.R_away HO_14.out (fun _ hk => hk))) | (show (Addr.add _ _).block ≠ _; rw [add_block]; exact Kd.own_blk (Kd.R_away HO_14.out (fun _ hk => hk))) | (dsimp only; exact Kd.own_blk (Kd.R_away HO_14.out (fun _ hk => hk)))) _).trans (hHeld.2.2.2.1)))))), ((cell_far (p := ⟨gb387, _, none⟩) (by first | exact Kd.own_blk (Kd.R_away HO_14.out (fun _ hk => hk)) | (rw [add_block]; exact Kd.own_blk (Kd.R_away HO_14.out (fun _ hk => hk))) | (show (Addr.add _ _).block ≠ _; rw [add_block]; exact Kd.own_blk (Kd.R_away HO_14.out (fun _ hk => hk))) | (dsimp only; exact Kd.own_blk (Kd.R_away HO_14.out (fun _ hk => hk)))) _).trans (((cell_far (p := ⟨gb387, _, none⟩) (by first | exact Kd.own_blk (Kd.R_away HO_14.out (fun _ hk => hk)) | (rw [add_block]; exact Kd.own_blk (Kd.R_away HO_14.out (fun _ hk => hk))) | (show (Addr.add _ _).block ≠ _; rw [add_block]; exact Kd.own_blk (Kd.R_away HO_14.out (fun _ hk => hk))) | (dsimp only; exact Kd.own_blk (Kd.R_away HO_14.out (fun _ hk => hk)))) _).trans (((cell_far (p := ⟨gb387, _, none⟩) (by first | exact Kd.own_blk (Kd.R_away HO_14.out (fun _ hk => hk)) | (rw [add_block]; exact Kd.own_blk (Kd.R_away HO_14.out (fun _ hk => hk))) | (show (Addr.add _ _).block ≠ _; rw [add_block]; exact Kd.own_blk (Kd.R_away HO_14.out (fun _ hk => hk))) | (dsimp only; exact Kd.own_blk (Kd.R_away HO_14.out (fun _ hk => hk)))) _).trans (hHeld.2.2.2.2.1)))))), ((cell_far (p := ⟨gb387, _, none⟩) (by first | exact Kd.own_blk (Kd.R_away HO_14.out (fun _ hk => hk)) | (rw [add_block]; exact Kd.own_blk (Kd.R_away HO_14.out (fun _ hk => hk))) | (show (Addr.add _ _).block ≠ _; rw [add_block]; exact Kd.own_blk (Kd.R_away HO_14.out (fun _ hk => hk))) | (dsimp only; exact Kd.own_blk (Kd.R_away HO_14.out (fun _ hk => hk)))) _).trans (((cell_far (p := ⟨gb387, _, none⟩) (by first | exact Kd.own_blk (Kd.R_away HO_14.out (fun _ hk => hk)) | (rw [add_block]; exact Kd.own_blk (Kd.R_away HO_14.out (fun _ hk => hk))) | (show (Addr.add _ _).block ≠ _; rw [add_block]; exact Kd.own_blk (Kd.R_away HO_14.out (fun _ hk => hk))) | (dsimp only; exact Kd.own_blk (Kd.R_away HO_14.out (fun _ hk => hk)))) _).trans (((cell_far (p := ⟨gb387, _, none⟩) (by first | exact Kd.own_blk (Kd.R_away HO_14.out (fun _ hk => hk)) | (rw [add_block]; exact Kd.own_blk (Kd.R_away HO_14.out (fun _ hk => hk))) | (show (Addr.add _ _).block ≠ _; rw [add_block]; exact Kd.own_blk (Kd.R_away HO_14.out (fun _ hk => hk))) | (dsimp only; exact Kd.own_blk (Kd.R_away HO_14.out (fun _ hk => hk)))) _).trans (hHeld.2.2.2.2.2))))))⟩ (fun hHeld => ?_)
           clear hK K
           refine pure_ (i := 13) (N := some 13) (v := ?_) (a' := ?_) #[true, true, true, true, true, true, true, true, true, true, true, true, true, true] rfl rfl (any_of HT_.out (by kernel_rfl)) (fun _ _ _ h => h) (Or.inl ⟨by rfl, ?_⟩) ?_ ?_
           rotate_left
           ·intro w'
            go_simp
            with_reducible rfl
           rotate_left
           ·simp only [Act.put, List.setIfInBounds_toArray, List.set_cons_zero, List.set_cons_succ, i64_w, i32_w]
            rfl
           refine done_ (done_of HT_.out (by kernel_rfl)) ?_
           try go_wp2
           refine bodyPost_ret (results_ct rfl _ _ gb387 48 #[.int .i64 (wrap64 (((rd_T48 t388 x15_1).f0) + 1)), .int .i64 ((rd_T48 t388 x15_1).f1), .bool false] (0, 0) _ rfl (by (with_reducible repeat (first | refine blk_drewN ?_ _ | refine blk_drew ?_ | refine blk_alloc ?_ _)); refine blk_put (cs := #[.int .i64 (wrap64 (((rd_T48 t388 x15_1).f0) + 1)), .int .i64 ((rd_T48 t388 x15_1).f1), .bool x388002_1]) ?_ 2 _ rfl; (with_reducible repeat (first | refine blk_drewN ?_ _ | refine blk_drew ?_ | refine blk_alloc ?_ _)); refine blk_put (cs := #[.int .i64 (wrap64 (((rd_T48 t388 x15_1).f0) + 1)), .int .i64 x388001_1, .bool x388002_1]) ?_ 1 _ rfl; (with_reducible repeat (first | refine blk_drewN ?_ _ | refine blk_drew ?_ | refine blk_alloc ?_ _)); refine blk_put (cs := #[.int .i64 x388000_1, .int .i64 x388001_1, .bool x388002_1]) ?_ 0 _ rfl; (with_reducible repeat (first | refine blk_drewN ?_ _ | refine blk_drew ?_ | refine blk_alloc ?_ _)); exact BK387.out) Tryd.underlying48 rfl (by kernel_rfl)) rfl ?_
           exact ⟨by first | rfl | (simp [errW_none, errW_some] <;> rfl) | (simp [*, errW_none, errW_some] <;> rfl), by repeat (first | (with_reducible first | exact HB.out | apply below_alloc | apply pw_below_drewN | apply below_drew1 | refine below_set ?_ GE387.out) | exact HB.out)⟩
          ·rw [if_neg c25] at H
           exact absurd H (by simp)
         ·rw [if_neg c24] at H
          exact absurd H (by simp)
   ·rw [if_neg c10] at H
    have c10b0 : decide (x15_1 < (t388.length : Int)) = false := decide_eq_false c10
    clear c10
    simp only [Option.some.injEq, Prod.mk.injEq] at H
    obtain ⟨rfl, rfl, rfl, rfl⟩ := H
    obtain ⟨Ao30, co30, eo30⟩ := Kd.R_slice HO_14.out
    subst eo30
    have hcz31_0 : wr.cell? ⟨gb387, 0, none⟩ = some (.int .i64 x388000_1) := (blk_cell BK387.out 0).trans rfl
    have hcz31_1 : wr.cell? ⟨gb387, 1, none⟩ = some (.int .i64 x388001_1) := (blk_cell BK387.out 1).trans rfl
    have hcz31_2 : wr.cell? ⟨gb387, 2, none⟩ = some (.bool x388002_1) := (blk_cell BK387.out 2).trans rfl
    have hfz31_0 := blk_frozen BK387.out 0
    have hfz31_1 := blk_frozen BK387.out 1
    have hfz31_2 := blk_frozen BK387.out 2
    go_wp2
    refine bodyPost_ret (results_ct rfl _ _ gb387 48 #[.int .i64 0, .int .i64 0, .bool false] (0, 0) _ rfl (by (with_reducible repeat (first | refine blk_drewN ?_ _ | refine blk_drew ?_ | refine blk_alloc ?_ _)); refine blk_put (cs := #[.int .i64 0, .int .i64 0, .bool x388002_1]) ?_ 2 _ rfl; (with_reducible repeat (first | refine blk_drewN ?_ _ | refine blk_drew ?_ | refine blk_alloc ?_ _)); refine blk_put (cs := #[.int .i64 0, .int .i64 x388001_1, .bool x388002_1]) ?_ 1 _ rfl; (with_reducible repeat (first | refine blk_drewN ?_ _ | refine blk_drew ?_ | refine blk_alloc ?_ _)); refine blk_put (cs := #[.int .i64 x388000_1, .int .i64 x388001_1, .bool x388002_1]) ?_ 0 _ rfl; (with_reducible repeat (first | refine blk_drewN ?_ _ | refine blk_drew ?_ | refine blk_alloc ?_ _)); exact BK387.out) Tryd.underlying48 rfl (by kernel_rfl)) rfl ?_
    exact ⟨by first | rfl | (simp [errW_none, errW_some] <;> rfl) | (simp [*, errW_none, errW_some] <;> rfl), by repeat (first | (with_reducible first | exact HB.out | apply below_alloc | apply pw_below_drewN | apply below_drew1 | refine below_set ?_ GE387.out) | exact HB.out)⟩

end Go.Proofs.YtcochbkdgjgaeaaDoor.X
