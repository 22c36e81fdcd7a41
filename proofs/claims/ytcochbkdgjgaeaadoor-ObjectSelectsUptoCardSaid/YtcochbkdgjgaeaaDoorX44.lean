-- Written by wip/xprint.py over the kit's print.py: the Lean function of each Go function, and the proof that the Go text comes to it.
import Derived.Test.YtcochbkdgjgaeaaDoorX0
import Derived.Test.YtcochbkdgjgaeaaDoorX42
import Derived.Test.YtcochbkdgjgaeaaDoorX43
namespace Go.Proofs.YtcochbkdgjgaeaaDoor.X
open Go.RowKit Go.Proofs.YtcochbkdgjgaeaaDoorW.PrintWords Go.Proofs.YtcochbkdgjgaeaaDoorW.PrintLast Go.Proofs.YtcochbkdgjgaeaaDoorW.PrintMore
attribute [local go_sem] max2_int min2_int max_two min_two max_three min_three max_four min_four   -- for this text's walks alone
set_option linter.unusedVariables false
set_option linter.unusedSimpArgs false

/-! ### quoinref13_quoted: function 24 -/
mutual
def quoinref13_quoted.l0 : Nat → List Int → Int → Int → Int → Bool → List Int → Int → Option (Int × Int × Bool × Int)
 | 0, _, _, _, _, _, _, _ => none
 | k + 1, x0, x1, x2, x3, x5, x14, x15 => if (wrap64 (x15 + 1)) < (x14.length : Int) then (if 0 ≤ (wrap64 (x15 + 1)) then (if (rd x14 (wrap64 (x15 + 1))) < x1 then (quoinref13_quoted.l0 k x0 x1 x2 x3 x5 x14 (wrap64 (x15 + 2))) else (if x5 = true then (if 0 ≤ x15 then (if x15 < (x14.length : Int) then (quoinref13_quoted.l1 k x0 x2 x3 x14 x15 (rd x14 x15) (wrap64 ((rd x14 (wrap64 (x15 + 1))) + 1))) else (none)) else (none)) else (if 0 ≤ x15 then (if x15 < (x14.length : Int) then (some (wrap64 ((rd x14 x15) + 1), rd x14 (wrap64 (x15 + 1)), false, 0)) else (none)) else (none)))) else (none)) else (some (0, 0, false, 130))
def quoinref13_quoted.j2 : Nat → List Int → Int → List Int → Int → Int → Int → Option (Int × Int × Bool × Int)
 | 0, _, _, _, _, _, _ => none
 | k + 1, x0, x2, x14, x15, x16, x17 => if 0 ≤ (wrap64 (x15 + 1)) then (if (wrap64 (x15 + 1)) < (x14.length : Int) then (if x17 = (wrap64 ((rd x14 (wrap64 (x15 + 1))) + 1)) then (quoinref13_quoted.l2 k x0 x2 x16 x17) else (some (x16, x17, false, 0))) else (none)) else (none)
def quoinref13_quoted.l2 : Nat → List Int → Int → Int → Int → Option (Int × Int × Bool × Int)
 | 0, _, _, _, _ => none
 | k + 1, x0, x2, x16, x17 => if x16 > x2 then (if 0 ≤ (wrap64 (x16 - 1)) then (if (wrap64 (x16 - 1)) < (x0.length : Int) then ((quoinref13_blank.f (rd x0 (wrap64 (x16 - 1)))).bind fun t366 => (if t366 = true then (quoinref13_quoted.l2 k x0 x2 (wrap64 (x16 - 1)) x17) else (some (x16, x17, false, 0)))) else (none)) else (none)) else (some (x16, x17, false, 0))
def quoinref13_quoted.l1 : Nat → List Int → Int → Int → List Int → Int → Int → Int → Option (Int × Int × Bool × Int)
 | 0, _, _, _, _, _, _, _ => none
 | k + 1, x0, x2, x3, x14, x15, x16, x17 => if x17 < x3 then (if 0 ≤ x17 then (if x17 < (x0.length : Int) then ((quoinref13_blank.f (rd x0 x17)).bind fun t363 => (if t363 = true then (quoinref13_quoted.l1 k x0 x2 x3 x14 x15 x16 (wrap64 (x17 + 1))) else (quoinref13_quoted.j2 k x0 x2 x14 x15 x16 x17))) else (none)) else (none)) else (quoinref13_quoted.j2 k x0 x2 x14 x15 x16 x17)
end
def quoinref13_quoted.f (k : Nat) (l0 : List Int) (a1 : Int) (a2 : Int) (a3 : Int) (a4 : Int) (a5 : Bool) : Option (Int × Int × Bool × Int) := (quoinref13_quotes.f k l0 a2 a3 a4).bind fun t354 => (quoinref13_quoted.l0 k l0 a1 a2 a3 a5 t354 0)
theorem quoinref13_quoted.mono_l : ∀ k, (∀ y0 y1 y2 y3 y4 y5 y6, LeO (quoinref13_quoted.l0 k y0 y1 y2 y3 y4 y5 y6) (quoinref13_quoted.l0 (k + 1) y0 y1 y2 y3 y4 y5 y6)) ∧ (∀ y0 y1 y2 y3 y4 y5, LeO (quoinref13_quoted.j2 k y0 y1 y2 y3 y4 y5) (quoinref13_quoted.j2 (k + 1) y0 y1 y2 y3 y4 y5)) ∧ (∀ y0 y1 y2 y3, LeO (quoinref13_quoted.l2 k y0 y1 y2 y3) (quoinref13_quoted.l2 (k + 1) y0 y1 y2 y3)) ∧ (∀ y0 y1 y2 y3 y4 y5 y6, LeO (quoinref13_quoted.l1 k y0 y1 y2 y3 y4 y5 y6) (quoinref13_quoted.l1 (k + 1) y0 y1 y2 y3 y4 y5 y6))
 | 0 => ⟨fun _ _ _ _ _ _ _ r h => by simp [quoinref13_quoted.l0] at h, fun _ _ _ _ _ _ r h => by simp [quoinref13_quoted.j2] at h, fun _ _ _ _ r h => by simp [quoinref13_quoted.l2] at h, fun _ _ _ _ _ _ _ r h => by simp [quoinref13_quoted.l1] at h⟩
 | k + 1 => by
  obtain ⟨ih0, ih1, ih2, ih3⟩ := quoinref13_quoted.mono_l k
  refine ⟨?_, ?_, ?_, ?_⟩
  ·intro y0 y1 y2 y3 y4 y5 y6
   unfold quoinref13_quoted.l0
   repeat' first
   | (with_reducible exact ih0 _ _ _ _ _ _ _)
   | (with_reducible exact ih1 _ _ _ _ _ _)
   | (with_reducible exact ih2 _ _ _ _)
   | (with_reducible exact ih3 _ _ _ _ _ _ _)
   | (with_reducible exact quoinref13_quotes.mono _ _ _ _ _)
   | (with_reducible exact LeO.refl _)
   | (with_reducible exact LeO.none _)
   | (with_reducible refine LeO.ite ?_ ?_)
   | (with_reducible refine LeO.bind ?_ (fun _ => ?_))
   | exact ih0 _ _ _ _ _ _ _
   | exact ih1 _ _ _ _ _ _
   | exact ih2 _ _ _ _
   | exact ih3 _ _ _ _ _ _ _
   | exact quoinref13_quotes.mono _ _ _ _ _
   | exact LeO.none _
   | refine LeO.ite ?_ ?_
   | refine LeO.bind ?_ (fun _ => ?_)
  ·intro y0 y1 y2 y3 y4 y5
   unfold quoinref13_quoted.j2
   repeat' first
   | (with_reducible exact ih0 _ _ _ _ _ _ _)
   | (with_reducible exact ih1 _ _ _ _ _ _)
   | (with_reducible exact ih2 _ _ _ _)
   | (with_reducible exact ih3 _ _ _ _ _ _ _)
   | (with_reducible exact quoinref13_quotes.mono _ _ _ _ _)
   | (with_reducible exact LeO.refl _)
   | (with_reducible exact LeO.none _)
   | (with_reducible refine LeO.ite ?_ ?_)
   | (with_reducible refine LeO.bind ?_ (fun _ => ?_))
   | exact ih0 _ _ _ _ _ _ _
   | exact ih1 _ _ _ _ _ _
   | exact ih2 _ _ _ _
   | exact ih3 _ _ _ _ _ _ _
   | exact quoinref13_quotes.mono _ _ _ _ _
   | exact LeO.none _
   | refine LeO.ite ?_ ?_
   | refine LeO.bind ?_ (fun _ => ?_)
  ·intro y0 y1 y2 y3
   unfold quoinref13_quoted.l2
   repeat' first
   | (with_reducible exact ih0 _ _ _ _ _ _ _)
   | (with_reducible exact ih1 _ _ _ _ _ _)
   | (with_reducible exact ih2 _ _ _ _)
   | (with_reducible exact ih3 _ _ _ _ _ _ _)
   | (with_reducible exact quoinref13_quotes.mono _ _ _ _ _)
   | (with_reducible exact LeO.refl _)
   | (with_reducible exact LeO.none _)
   | (with_reducible refine LeO.ite ?_ ?_)
   | (with_reducible refine LeO.bind ?_ (fun _ => ?_))
   | exact ih0 _ _ _ _ _ _ _
   | exact ih1 _ _ _ _ _ _
   | exact ih2 _ _ _ _
   | exact ih3 _ _ _ _ _ _ _
   | exact quoinref13_quotes.mono _ _ _ _ _
   | exact LeO.none _
   | refine LeO.ite ?_ ?_
   | refine LeO.bind ?_ (fun _ => ?_)
  ·intro y0 y1 y2 y3 y4 y5 y6
   unfold quoinref13_quoted.l1
   repeat' first
   | (with_reducible exact ih0 _ _ _ _ _ _ _)
   | (with_reducible exact ih1 _ _ _ _ _ _)
   | (with_reducible exact ih2 _ _ _ _)
   | (with_reducible exact ih3 _ _ _ _ _ _ _)
   | (with_reducible exact quoinref13_quotes.mono _ _ _ _ _)
   | (with_reducible exact LeO.refl _)
   | (with_reducible exact LeO.none _)
   | (with_reducible refine LeO.ite ?_ ?_)
   | (with_reducible refine LeO.bind ?_ (fun _ => ?_))
   | exact ih0 _ _ _ _ _ _ _
   | exact ih1 _ _ _ _ _ _
   | exact ih2 _ _ _ _
   | exact ih3 _ _ _ _ _ _ _
   | exact quoinref13_quotes.mono _ _ _ _ _
   | exact LeO.none _
   | refine LeO.ite ?_ ?_
   | refine LeO.bind ?_ (fun _ => ?_)
theorem quoinref13_quoted.mono : ∀ a0 a1 a2 a3 a4 a5 k, LeO (quoinref13_quoted.f k a0 a1 a2 a3 a4 a5) (quoinref13_quoted.f (k + 1) a0 a1 a2 a3 a4 a5) := by
 intro a0 a1 a2 a3 a4 a5 k
 obtain ⟨ih0, ih1, ih2, ih3⟩ := quoinref13_quoted.mono_l k
 unfold quoinref13_quoted.f
 repeat' first
   | (with_reducible exact ih0 _ _ _ _ _ _ _)
   | (with_reducible exact ih1 _ _ _ _ _ _)
   | (with_reducible exact ih2 _ _ _ _)
   | (with_reducible exact ih3 _ _ _ _ _ _ _)
   | (with_reducible exact quoinref13_quotes.mono _ _ _ _ _)
   | (with_reducible exact LeO.refl _)
   | (with_reducible exact LeO.none _)
   | (with_reducible refine LeO.ite ?_ ?_)
   | (with_reducible refine LeO.bind ?_ (fun _ => ?_))
   | exact ih0 _ _ _ _ _ _ _
   | exact ih1 _ _ _ _ _ _
   | exact ih2 _ _ _ _
   | exact ih3 _ _ _ _ _ _ _
   | exact quoinref13_quotes.mono _ _ _ _ _
   | exact LeO.none _
   | refine LeO.ite ?_ ?_
   | refine LeO.bind ?_ (fun _ => ?_)
def quoinref13_quoted.T7 : Bool × List (List Nat × List Nat) := (true, [([], []), ([], []), ([0, 1], [0, 1]), ([2], [2]), ([3], [3]), ([], []), ([], []), ([6], [6]), ([5, 7], [5, 7]), ([8], [8]), ([4, 9], [4, 9]), ([10, 0, 1, 2, 3, 4, 5, 6, 7, 8, 9, 10], [10]), ([11, 0, 1, 2, 3, 4, 5, 6, 7, 8, 9, 10, 11], [])])
def quoinref13_quoted.B7 : List Nat := [0, 0, 3, 7, 15, 0, 0, 64, 224, 480, 1023, 2047, 4095]
theorem quoinref13_quoted.tab7 : rtab .any (opsOf Tryd.f24 7) = quoinref13_quoted.T7 := by kernel_rfl
theorem quoinref13_quoted.bits7 : waitsOk quoinref13_quoted.T7.2 quoinref13_quoted.B7 = true := by kernel_rfl
def quoinref13_quoted.T8 : Bool × List (List Nat × List Nat) := (true, [([], []), ([], []), ([0, 1], [0, 1]), ([2], [2]), ([], []), ([], []), ([5], [5]), ([4, 6], [4, 6]), ([7], [7]), ([8], [8]), ([3, 0, 1, 2, 3], [3]), ([9, 10, 0, 1, 2, 3, 4, 5, 6, 7, 8, 9, 10], [9])])
def quoinref13_quoted.B8 : List Nat := [0, 0, 3, 7, 0, 0, 32, 112, 240, 496, 15, 2047]
theorem quoinref13_quoted.tab8 : rtab .any (opsOf Tryd.f24 8) = quoinref13_quoted.T8 := by kernel_rfl
theorem quoinref13_quoted.bits8 : waitsOk quoinref13_quoted.T8.2 quoinref13_quoted.B8 = true := by kernel_rfl
set_option maxHeartbeats 8000000 in
set_option maxRecDepth 100000 in
theorem quoinref13_quoted.calls (k : Nat) (A0 : Option Addr) (c0 : Nat) (l0 : List Int) (a1 : Int) (a2 : Int) (a3 : Int) (a4 : Int) (a5 : Bool) (r1 : Int) (r2 : Int) (r3 : Bool) (r4 : Int) (w : World) (hr0 : Kd.C (Kd.int .u8) w A0 l0.length l0) (hc0 : l0.length ≤ c0) (h : quoinref13_quoted.f k l0 a1 a2 a3 a4 a5 = some (r1, r2, r3, r4)) :
  Calls Tryd.prog 24 #[.slice A0 l0.length c0, .int .i64 a1, .int .i64 a2, .int .i64 a3, .int .u8 a4, .bool a5] w fun e w' => e = .returned (.tuple #[.agg #[.int .i64 r1, .int .i64 r2, .bool r3], .int .i64 r4]) ∧ Below w.heap.size w w' := by
 have hu48 := Tryd.underlying48
 have HR0 := Aside0.mk hr0
 have HC0 := Aside0.mk hc0
 clear hr0 hc0
 have HB := Aside0.mk (Below.refl w.heap.size w)
 have H : ((quoinref13_quotes.f k l0 a2 a3 a4).bind fun t354 => (quoinref13_quoted.l0 k l0 a1 a2 a3 a5 t354 0)) = some (r1, r2, r3, r4) := h
 clear h
 replace H := Option.bind_eq_some_iff.mp H
 obtain ⟨t354, A70, H⟩ := H
 replace H : (quoinref13_quoted.l0 k l0 a1 a2 a3 a5 t354 0) = some (r1, r2, r3, r4) := H
 have A7 := Aside0.mk A70
 clear A70
 have H' := Aside0.mk H
 clear H
 go_enter Tryd.func24, Tryd.ntmps24
 go_wp2_with (first | ((with_reducible refine gate_dst (N := 12) rfl ?_); refine box_event ?hg (N := 12) ?hd (cs := #[.int .i64 0, .int .i64 0, .bool false]) (t := 48) ?hr ?_; (case hd => rfl); (case hg => rfl); (case hr => first | (go_simp; done) | (go_simp; rfl)); intro gb353 hg w8 hbox hb; have n0_ := Aside0.mk (below_step (by repeat (first | (with_reducible first | exact HB.out | apply below_alloc | apply pw_below_drewN | apply below_drew1) | exact HB.out)) hb); have n1_ := Aside0.mk (hbox); have n2_ := Aside0.mk ((by rw [hg]; exact (below_size (by repeat (first | (with_reducible first | exact HB.out | apply below_alloc | apply pw_below_drewN | apply below_drew1) | exact HB.out))) : w.heap.size ≤ gb353)); have n3_ := Aside0.mk ((by rw [hg]; exact (below_size (by repeat (first | (with_reducible first | exact HB.out | apply below_alloc | apply pw_below_drewN | apply below_drew1) | exact HB.out))) : w.heap.size ≤ gb353)); clear HB; have HB := n0_; have BK353 := n1_; have GW353 := n2_; have GE353 := n3_; clear n0_ n1_ n2_ n3_; clear hb hbox hg) | ((with_reducible refine gate_callee (f := 39) rfl ?_); refine goesL_ (some 22) rfl rfl Tryd.func39 (by kernel_rfl) rfl #[.slice A0 l0.length c0, .int .i64 a2, .int .i64 a3, .int .u8 a4] rfl (by (try simp only [List.map_toArray, List.map_cons, List.map_nil]); first | done | rfl | (simp only [List.length_drop, List.length_take]; rfl)) ?_; (with_reducible refine (quoinref13_quotes.calls k _ _ l0 a2 a3 a4 t354 _ ?side1 ?side2 A7.out).mono ?_); (case side1 => repeat (first | exact (Kd.C_below HR0.out HB.out) | (with_reducible refine Kd.C_alloc ?_ _) | (with_reducible refine Kd.C_drewN ?_ _) | (with_reducible refine Kd.C_drew ?_))); (case side2 => exact HC0.out); rintro e w9 ⟨v355, rfl, ho0, hb⟩; refine ⟨_, rfl, ?_⟩; have n0_ := Aside0.mk (Kd.R_lower ho0 (below_size (by repeat (first | (with_reducible first | exact HB.out | apply below_alloc | apply pw_below_drewN | apply below_drew1 | refine below_set ?_ GE353.out) | exact HB.out)))); have n1_ := Aside0.mk (blk_below (g := gb353) (o := .cells #[.int .i64 0, .int .i64 0, .bool false] 48 (0, 0)) (by (with_reducible repeat (first | refine blk_drewN ?_ _ | refine blk_drew ?_ | refine blk_alloc ?_ _)); exact BK353.out) hb); have n2_ := Aside0.mk (below_step (by repeat (first | (with_reducible first | exact HB.out | apply below_alloc | apply pw_below_drewN | apply below_drew1 | refine below_set ?_ GE353.out) | exact HB.out)) hb); clear BK353; clear HB; have HO356 := n0_; have BK353 := n1_; have HB := n2_; clear n0_ n1_ n2_; (try clear hb); (try clear hb2); (try clear hk); (try clear hi); (try clear ho0)))
 go_loopg [15] k (fun kq v15 w' => ∃ (x15_1 : Int) (x354000_1 : Int) (x354001_1 : Int) (x354002_1 : Bool), v15 = .int .i64 x15_1 ∧ Aside0 (quoinref13_quoted.l0 kq l0 a1 a2 a3 a5 t354 x15_1 = some (r1, r2, r3, r4)) ∧ Aside0 (kq ≤ k) ∧ Aside0 (Kd.R (Kd.int .i64) 3 w' w.heap.size (fun _ => True) v355 t354) ∧ Aside0 (w'.heap[gb353]? = some (.cells #[.int .i64 x354000_1, .int .i64 x354001_1, .bool x354002_1] 48 (0, 0))) ∧ Aside0 (Below w.heap.size w w'))
 case atStart => exact ⟨(0), (0), (0), (false), (by first | rfl | (simp; done) | (simp [*]; done)), H', ⟨Nat.le_refl _⟩, ⟨by (with_reducible repeat (first | apply Kd.R_alloc | apply Kd.R_drewN | apply Kd.R_drew)); exact HO356.out⟩, ⟨by (with_reducible repeat (first | refine blk_drewN ?_ _ | refine blk_drew ?_ | refine blk_alloc ?_ _)); exact BK353.out⟩, ⟨by repeat (first | (with_reducible first | exact HB.out | apply below_alloc | apply pw_below_drewN | apply below_drew1 | refine below_set ?_ GE353.out) | exact HB.out)⟩⟩
 case round =>
  clear H'
  try clear c2
  try clear p2
  try clear c3
  obtain ⟨x15_1, x354000_1, x354001_1, x354002_1, rfl, HA, HK1, HO_14, BK353, HB⟩ := hrel
  cases gk with
  | zero => exact absurd HA.out (by simp [quoinref13_quoted.l0])
  | succ k1 =>
   have H := HA.out
   clear HA
   simp only [quoinref13_quoted.l0] at H
   by_cases c10 : (wrap64 (x15_1 + 1)) < (t354.length : Int)
   ·rw [if_pos c10] at H
    have c10b0 : decide ((wrap64 (x15_1 + 1)) < (t354.length : Int)) = true := decide_eq_true c10
    clear c10
    obtain ⟨ji11, hji11⟩ : ∃ j_ : Int, (wrap64 (x15_1 + 1)) = j_ := ⟨_, rfl⟩
    replace H : (if 0 ≤ (ji11) then (if (rd t354 (ji11)) < a1 then (quoinref13_quoted.l0 k1 l0 a1 a2 a3 a5 t354 (wrap64 (x15_1 + 2))) else (if a5 = true then (if 0 ≤ x15_1 then (if x15_1 < (t354.length : Int) then (quoinref13_quoted.l1 k1 l0 a2 a3 t354 x15_1 (rd t354 x15_1) (wrap64 ((rd t354 (ji11)) + 1))) else (none)) else (none)) else (if 0 ≤ x15_1 then (if x15_1 < (t354.length : Int) then (some (wrap64 ((rd t354 x15_1) + 1), rd t354 (ji11), false, 0)) else (none)) else (none)))) else (none)) = some (r1, r2, r3, r4) := by first | (rw [hji11] at H; exact H) | (simp only [hji11] at H ⊢; exact H)
    (try rw [hji11] at c10b0)
    have hji11w : (IntKind.i64.wrap (x15_1 + 1)) = ji11 := (i64_w _).trans hji11
    by_cases c12 : 0 ≤ (ji11)
    ·rw [if_pos c12] at H
     have c12b0 : decide (0 ≤ (ji11)) = true := decide_eq_true c12
     clear c12
     by_cases c13 : (rd t354 (ji11)) < a1
     ·rw [if_pos c13] at H
      have c13b0 : decide ((rd t354 (ji11)) < a1) = true := decide_eq_true c13
      clear c13
      have H' := Aside0.mk H
      clear H
      obtain ⟨Ao14, co14, eo14⟩ := Kd.R_slice HO_14.out
      subst eo14
      have p357 : 0 ≤ ((ji11) : Int) := of_decide_eq_true (by first | (with_reducible assumption) | assumption)
      have q357 : (ji11) < (t354.length : Int) := of_decide_eq_true (by first | (with_reducible assumption) | assumption)
      obtain ⟨ad357, e357, hx357_0⟩ := Kd.at_int (Kd.R_reads' HO_14.out).2.2 (ji11) p357 q357
      cases e357
      replace p357 := eq_true p357
      replace q357 := eq_true q357
      go_wp2
      go_roundg k1
      case measure => have := HK1.out; omega
      case rel => exact ⟨(wrap64 (x15_1 + 2)), (x354000_1), (x354001_1), (x354002_1), (by first | rfl | (simp; done) | (simp [*]; done)), H', ⟨by have := HK1.out; omega⟩, ⟨by (with_reducible repeat (first | apply Kd.R_alloc | apply Kd.R_drewN | apply Kd.R_drew)); exact HO_14.out⟩, ⟨by (with_reducible repeat (first | refine blk_drewN ?_ _ | refine blk_drew ?_ | refine blk_alloc ?_ _)); exact BK353.out⟩, ⟨by repeat (first | (with_reducible first | exact HB.out | apply below_alloc | apply pw_below_drewN | apply below_drew1 | refine below_set ?_ GE353.out) | exact HB.out)⟩⟩
     ·rw [if_neg c13] at H
      have c13b0 : decide ((rd t354 (ji11)) < a1) = false := decide_eq_false c13
      clear c13
      by_cases c15 : a5 = true
      ·subst c15
       have H1 : (if 0 ≤ x15_1 then (if x15_1 < (t354.length : Int) then (quoinref13_quoted.l1 k1 l0 a2 a3 t354 x15_1 (rd t354 x15_1) (wrap64 ((rd t354 (ji11)) + 1))) else (none)) else (none)) = some (r1, r2, r3, r4) := by rw [if_pos rfl] at H; exact H
       clear H
       have H := H1
       clear H1
       by_cases c16 : 0 ≤ x15_1
       ·rw [if_pos c16] at H
        have c16b0 : decide (0 ≤ x15_1) = true := decide_eq_true c16
        clear c16
        by_cases c17 : x15_1 < (t354.length : Int)
        ·rw [if_pos c17] at H
         have c17b0 : decide (x15_1 < (t354.length : Int)) = true := decide_eq_true c17
         clear c17
         have HC18 := Aside0.mk H
         clear H
         obtain ⟨Ao19, co19, eo19⟩ := Kd.R_slice HO_14.out
         subst eo19
         have p357 : 0 ≤ ((ji11) : Int) := of_decide_eq_true (by first | (with_reducible assumption) | assumption)
         have q357 : (ji11) < (t354.length : Int) := of_decide_eq_true (by first | (with_reducible assumption) | assumption)
         obtain ⟨ad357, e357, hx357_0⟩ := Kd.at_int (Kd.R_reads' HO_14.out).2.2 (ji11) p357 q357
         cases e357
         replace p357 := eq_true p357
         replace q357 := eq_true q357
         try go_wp2
         have n0_ := Aside0.mk (Kd.R_drew HO_14.out)
         have n1_ := Aside0.mk (blk_drew BK353.out)
         have n2_ := Aside0.mk (below_drew1 HB.out)
         clear HO_14
         clear BK353
         clear HB
         have HO_14 := n0_
         have BK353 := n1_
         have HB := n2_
         clear n0_ n1_ n2_
         have p360 : 0 ≤ (x15_1 : Int) := of_decide_eq_true (by first | (with_reducible assumption) | assumption)
         have q360 : x15_1 < (t354.length : Int) := of_decide_eq_true (by first | (with_reducible assumption) | assumption)
         obtain ⟨ad360, e360, hx360_0⟩ := Kd.at_int (Kd.R_reads' HO_14.out).2.2 x15_1 p360 q360
         obtain rfl : ad357 = ad360 := (by injection e360)
         replace p360 := eq_true p360
         replace q360 := eq_true q360
         have p361 : 0 ≤ ((ji11) : Int) := of_decide_eq_true (by first | (with_reducible assumption) | assumption)
         have q361 : (ji11) < (t354.length : Int) := of_decide_eq_true (by first | (with_reducible assumption) | assumption)
         obtain ⟨ad361, e361, hx361_0⟩ := Kd.at_int (Kd.R_reads' HO_14.out).2.2 (ji11) p361 q361
         obtain rfl : ad357 = ad361 := (by injection e361)
         replace p361 := eq_true p361
         replace q361 := eq_true q361
         refine start_ (n := 12) (S := fun w' => w'.cell? (ad357.add (x15_1).toNat) = some (.int .i64 (rd t354 x15_1)) ∧ w'.cell? (ad357.add ((ji11)).toNat) = some (.int .i64 (rd t354 (ji11)))) (ds := []) #[false, false, false, false, false, false, false, false, false, false, false, false] (by kernel_rfl) rfl rfl ⟨hx360_0, hx361_0⟩ (fun hHeld => ?_); refine with_tabW quoinref13_quoted.tab8 quoinref13_quoted.bits8 (fun HT_ HW_ => ?_)
         generalize wr.drew = w20 at HO_14 BK353 HB hx360_0 hx361_0 hHeld ⊢
         refine pure_ (i := 0) (N := some 50) (v := ?_) (a' := ?_) #[true, false, false, false, false, false, false, false, false, false, false, false] rfl rfl (any_of HT_.out (by kernel_rfl)) (fun _ _ _ h => h) (Or.inl ⟨by rfl, ?_⟩) ?_ ?_
         rotate_left
         ·intro w'
          go_simp
          with_reducible rfl
         rotate_left
         ·simp only [Act.put, List.setIfInBounds_toArray, List.set_cons_zero, List.set_cons_succ, i64_w, i32_w]
          rfl
         refine pure_ (i := 1) (N := some 51) (v := ?_) (a' := ?_) #[true, true, false, false, false, false, false, false, false, false, false, false] rfl rfl (any_of HT_.out (by kernel_rfl)) (fun _ _ _ h => h) (Or.inl ⟨by rfl, ?_⟩) ?_ ?_
         rotate_left
         ·intro w'
          go_simp
          with_reducible rfl
         rotate_left
         ·simp only [Act.put, List.setIfInBounds_toArray, List.set_cons_zero, List.set_cons_succ, i64_w, i32_w]
          rfl
         refine pure_ (i := 2) (N := some 52) (v := ?_) (a' := ?_) #[true, true, true, false, false, false, false, false, false, false, false, false] rfl rfl (any_of HT_.out (by kernel_rfl)) (fun _ _ _ h => h) (Or.inl ⟨by rfl, ?_⟩) ?_ ?_
         rotate_left
         ·intro w'
          go_simp
          with_reducible rfl
         rotate_left
         ·simp only [Act.put, List.setIfInBounds_toArray, List.set_cons_zero, List.set_cons_succ, i64_w, i32_w]
          rfl
         refine pure_ (i := 4) (N := some 54) (v := ?_) (a' := ?_) #[true, true, true, false, true, false, false, false, false, false, false, false] rfl rfl (any_of HT_.out (by kernel_rfl)) (fun _ _ _ h => h) (Or.inl ⟨by rfl, ?_⟩) ?_ ?_
         rotate_left
         ·intro w'
          go_simp
          with_reducible rfl
         rotate_left
         ·simp only [Act.put, List.setIfInBounds_toArray, List.set_cons_zero, List.set_cons_succ, i64_w, i32_w]
          rfl
         refine pure_ (i := 5) (N := some 55) (v := ?_) (a' := ?_) #[true, true, true, false, true, true, false, false, false, false, false, false] rfl rfl (any_of HT_.out (by kernel_rfl)) (fun _ _ _ h => h) (Or.inl ⟨by rfl, ?_⟩) ?_ ?_
         rotate_left
         ·intro w'
          go_simp
          with_reducible rfl
         rotate_left
         ·simp only [Act.put, List.setIfInBounds_toArray, List.set_cons_zero, List.set_cons_succ, i64_w, i32_w]
          rfl
         refine pure_ (i := 6) (N := some 56) (v := ?_) (a' := ?_) #[true, true, true, false, true, true, true, false, false, false, false, false] rfl rfl (any_of HT_.out (by kernel_rfl)) (fun _ _ _ h => h) (Or.inl ⟨by rfl, ?_⟩) ?_ ?_
         rotate_left
         ·intro w'
          go_simp
          with_reducible rfl
         rotate_left
         ·simp only [Act.put, List.setIfInBounds_toArray, List.set_cons_zero, List.set_cons_succ, i64_w, i32_w]
          rfl
         refine pure_ (i := 7) (N := some 57) (v := ?_) (a' := ?_) #[true, true, true, false, true, true, true, true, false, false, false, false] rfl rfl (any_of HT_.out (by kernel_rfl)) (fun _ _ _ h => h) (Or.inl ⟨by rfl, ?_⟩) ?_ ?_
         rotate_left
         ·intro w'
          go_simp
          with_reducible rfl
         rotate_left
         ·simp only [Act.put, List.setIfInBounds_toArray, List.set_cons_zero, List.set_cons_succ, i64_w, i32_w]
          rfl
         refine take_ (i := 3) (N := some 53) (v := ?_) (a' := ?_) #[true, true, true, true, true, true, true, true, false, false, false, false] rfl rfl (take_ofW HT_.out HW_.out (by kernel_rfl)) (fun _ _ _ h => h) (Or.inl ⟨by rfl, ?_⟩) hHeld ?_ ?_
         rotate_left
         ·rintro w' ⟨s0, s1⟩
          go_simp
          with_reducible rfl
         rotate_left
         ·simp only [Act.put, List.setIfInBounds_toArray, List.set_cons_zero, List.set_cons_succ, i64_w, i32_w]
          rfl
         refine pure_ (i := 10) (N := some 16) (v := ?_) (a' := ?_) #[true, true, true, true, true, true, true, true, false, false, true, false] rfl rfl (any_of HT_.out (by kernel_rfl)) (fun _ _ _ h => h) (Or.inl ⟨by rfl, ?_⟩) ?_ ?_
         rotate_left
         ·intro w'
          go_simp
          with_reducible rfl
         rotate_left
         ·simp only [Act.put, List.setIfInBounds_toArray, List.set_cons_zero, List.set_cons_succ, i64_w, i32_w]
          rfl
         refine take_ (i := 8) (N := some 58) (v := ?_) (a' := ?_) #[true, true, true, true, true, true, true, true, true, false, true, false] rfl rfl (take_ofW HT_.out HW_.out (by kernel_rfl)) (fun _ _ _ h => h) (Or.inl ⟨by rfl, ?_⟩) hHeld ?_ ?_
         rotate_left
         ·rintro w' ⟨s0, s1⟩
          go_simp
          with_reducible rfl
         rotate_left
         ·simp only [Act.put, List.setIfInBounds_toArray, List.set_cons_zero, List.set_cons_succ, i64_w, i32_w]
          rfl
         refine pure_ (i := 9) (N := some 59) (v := ?_) (a' := ?_) #[true, true, true, true, true, true, true, true, true, true, true, false] rfl rfl (any_of HT_.out (by kernel_rfl)) (fun _ _ _ h => h) (Or.inl ⟨by rfl, ?_⟩) ?_ ?_
         rotate_left
         ·intro w'
          go_simp
          with_reducible rfl
         rotate_left
         ·simp only [Act.put, List.setIfInBounds_toArray, List.set_cons_zero, List.set_cons_succ, i64_w, i32_w]
          rfl
         refine pure_ (i := 11) (N := some 17) (v := ?_) (a' := ?_) #[true, true, true, true, true, true, true, true, true, true, true, true] rfl rfl (any_of HT_.out (by kernel_rfl)) (fun _ _ _ h => h) (Or.inl ⟨by rfl, ?_⟩) ?_ ?_
         rotate_left
         ·intro w'
          go_simp
          with_reducible rfl
         rotate_left
         ·simp only [Act.put, List.setIfInBounds_toArray, List.set_cons_zero, List.set_cons_succ, i64_w, i32_w]
          rfl
         refine done_ (done_of HT_.out (by kernel_rfl)) ?_
         go_upto_block 2 with (fail)
         go_cut [17] (fun v17 wc => ∃ (kq : Nat) (x17_17 : Int), v17 = .int .i64 x17_17 ∧ Aside0 (quoinref13_quoted.j2 kq l0 a2 t354 x15_1 (rd t354 x15_1) x17_17 = some (r1, r2, r3, r4)) ∧ Aside0 (kq ≤ k1) ∧ Aside0 (Kd.R (Kd.int .i64) 3 wc w.heap.size (fun _ => True) (.slice (some ad357) t354.length co19) t354) ∧ Aside0 (wc.heap[gb353]? = some (.cells #[.int .i64 x354000_1, .int .i64 x354001_1, .bool x354002_1] 48 (0, 0))) ∧ Aside0 (Below w.heap.size w wc))
         case first =>
          have H := HC18.out
          clear HC18
          have H' := Aside0.mk H
          clear H
          go_wp2
          go_loopg [17] k1 (fun kq v17 w' => ∃ (x17_2 : Int), v17 = .int .i64 x17_2 ∧ Aside0 (quoinref13_quoted.l1 kq l0 a2 a3 t354 x15_1 (rd t354 x15_1) x17_2 = some (r1, r2, r3, r4)) ∧ Aside0 (kq ≤ k1) ∧ Aside0 (Kd.R (Kd.int .i64) 3 w' w.heap.size (fun _ => True) (.slice (some ad357) t354.length co19) t354) ∧ Aside0 (w'.heap[gb353]? = some (.cells #[.int .i64 x354000_1, .int .i64 x354001_1, .bool x354002_1] 48 (0, 0))) ∧ Aside0 (Below w.heap.size w w'))
          case atStart => exact ⟨(wrap64 ((rd t354 (ji11)) + 1)), (by first | rfl | (simp; done) | (simp only [← hji11] <;> (first | rfl | simp)) | (simp [*]; done)), H', ⟨Nat.le_refl _⟩, ⟨by (with_reducible repeat (first | apply Kd.R_alloc | apply Kd.R_drewN | apply Kd.R_drew)); exact HO_14.out⟩, ⟨by (with_reducible repeat (first | refine blk_drewN ?_ _ | refine blk_drew ?_ | refine blk_alloc ?_ _)); exact BK353.out⟩, ⟨by repeat (first | (with_reducible first | exact HB.out | apply below_alloc | apply pw_below_drewN | apply below_drew1 | refine below_set ?_ GE353.out) | exact HB.out)⟩⟩
          case round =>
           clear H'
           try clear c1
           try clear c2
           try clear p2
           try clear c3
           try clear p3
           try clear q3
           try clear hx3
           try clear p6
           try clear c10
           try clear c10b0
           try clear c12
           try clear c12b0
           try clear c13
           try clear c13b0
           try clear c15
           try clear c16
           try clear c16b0
           try clear c17
           try clear c17b0
           try clear hx357_0
           try clear hx360_0
           try clear hx361_0
           try clear p2
           try clear p357
           try clear p360
           try clear p361
           try clear q357
           try clear q360
           try clear q361
           obtain ⟨x17_2, rfl, HA, HK2, HO_14, BK353, HB⟩ := hrel
           cases gk with
           | zero => exact absurd HA.out (by simp [quoinref13_quoted.l1])
           | succ k2 =>
            have H := HA.out
            clear HA
            simp only [quoinref13_quoted.l1] at H
            by_cases c21 : x17_2 < a3
            ·rw [if_pos c21] at H
             have c21b0 : decide (x17_2 < a3) = true := decide_eq_true c21
             clear c21
             (first | rw [c21b0] | (simp only [i64_w, i32_w]; rw [c21b0]) | skip)
             by_cases c22 : 0 ≤ x17_2
             ·rw [if_pos c22] at H
              have c22b0 : decide (0 ≤ x17_2) = true := decide_eq_true c22
              clear c22
              by_cases c23 : x17_2 < (l0.length : Int)
              ·rw [if_pos c23] at H
               have c23b0 : decide (x17_2 < (l0.length : Int)) = true := decide_eq_true c23
               clear c23
               replace H := Option.bind_eq_some_iff.mp H
               obtain ⟨t363, A240, H⟩ := H
               replace H : (if t363 = true then (quoinref13_quoted.l1 k2 l0 a2 a3 t354 x15_1 (rd t354 x15_1) (wrap64 (x17_2 + 1))) else (quoinref13_quoted.j2 k2 l0 a2 t354 x15_1 (rd t354 x15_1) x17_2)) = some (r1, r2, r3, r4) := H
               have A24 := Aside0.mk A240
               clear A240
               by_cases c25 : t363 = true
               ·subst c25
                have H1 : (quoinref13_quoted.l1 k2 l0 a2 a3 t354 x15_1 (rd t354 x15_1) (wrap64 (x17_2 + 1))) = some (r1, r2, r3, r4) := by rw [if_pos rfl] at H; exact H
                clear H
                have H := H1
                clear H1
                have H' := Aside0.mk H
                clear H
                have p362 : 0 ≤ (x17_2 : Int) := of_decide_eq_true (by first | (with_reducible assumption) | assumption)
                have q362 : x17_2 < (l0.length : Int) := of_decide_eq_true (by first | (with_reducible assumption) | assumption)
                obtain ⟨ad362, e362, hx362_0⟩ := Kd.at_int HR0.out x17_2 p362 q362
                cases e362
                replace hx362_0 := (HB.out.cell (World.block_lt_of_cell? w _ hx362_0)).trans hx362_0
                replace p362 := eq_true p362
                replace q362 := eq_true q362
                go_wp2_with (first | (go_at_call 40; (with_reducible refine (quoinref13_blank.calls (rd l0 x17_2) true _ A24.out).mono ?_); rintro e w' ⟨rfl, ⟨nd, rfl⟩⟩))
                go_roundg k2
                case measure => have := HK1.out; have := HK2.out; omega
                case rel => exact ⟨(wrap64 (x17_2 + 1)), (by first | rfl | (simp; done) | (simp [*]; done)), H', ⟨by have := HK1.out; have := HK2.out; omega⟩, ⟨by (with_reducible repeat (first | apply Kd.R_alloc | apply Kd.R_drewN | apply Kd.R_drew)); exact HO_14.out⟩, ⟨by (with_reducible repeat (first | refine blk_drewN ?_ _ | refine blk_drew ?_ | refine blk_alloc ?_ _)); exact BK353.out⟩, ⟨by repeat (first | (with_reducible first | exact HB.out | apply below_alloc | apply pw_below_drewN | apply below_drew1 | refine below_set ?_ GE353.out) | exact HB.out)⟩⟩
               ·replace c25 := Bool.eq_false_iff.mpr c25
                subst c25
                have H1 : (quoinref13_quoted.j2 k2 l0 a2 t354 x15_1 (rd t354 x15_1) x17_2) = some (r1, r2, r3, r4) := by rw [if_neg (show ¬ (false = true) by decide)] at H; exact H
                clear H
                have H := H1
                clear H1
                have H' := Aside0.mk H
                clear H
                have p362 : 0 ≤ (x17_2 : Int) := of_decide_eq_true (by first | (with_reducible assumption) | assumption)
                have q362 : x17_2 < (l0.length : Int) := of_decide_eq_true (by first | (with_reducible assumption) | assumption)
                obtain ⟨ad362, e362, hx362_0⟩ := Kd.at_int HR0.out x17_2 p362 q362
                cases e362
                replace hx362_0 := (HB.out.cell (World.block_lt_of_cell? w _ hx362_0)).trans hx362_0
                replace p362 := eq_true p362
                replace q362 := eq_true q362
                go_wp2_with (first | (go_at_call 40; (with_reducible refine (quoinref13_blank.calls (rd l0 x17_2) false _ A24.out).mono ?_); rintro e w' ⟨rfl, ⟨nd, rfl⟩⟩))
                go_meet
                case rel => exact ⟨_, (x17_2), (by first | rfl | (simp; done) | (simp [*]; done)), H', ⟨by have := HK1.out; have := HK2.out; first | omega | exact Nat.le_refl _⟩, ⟨by (with_reducible repeat (first | apply Kd.R_alloc | apply Kd.R_drewN | apply Kd.R_drew)); exact HO_14.out⟩, ⟨by (with_reducible repeat (first | refine blk_drewN ?_ _ | refine blk_drew ?_ | refine blk_alloc ?_ _)); exact BK353.out⟩, ⟨by repeat (first | (with_reducible first | exact HB.out | apply below_alloc | apply pw_below_drewN | apply below_drew1 | refine below_set ?_ GE353.out) | exact HB.out)⟩⟩
              ·rw [if_neg c23] at H
               exact absurd H (by simp)
             ·rw [if_neg c22] at H
              exact absurd H (by simp)
            ·rw [if_neg c21] at H
             have c21b0 : decide (x17_2 < a3) = false := decide_eq_false c21
             clear c21
             (first | rw [c21b0] | (simp only [i64_w, i32_w]; rw [c21b0]) | skip)
             have H' := Aside0.mk H
             clear H
             go_wp2
             go_meet
             case rel => exact ⟨_, (x17_2), (by first | rfl | (simp; done) | (simp [*]; done)), H', ⟨by have := HK1.out; have := HK2.out; first | omega | exact Nat.le_refl _⟩, ⟨by (with_reducible repeat (first | apply Kd.R_alloc | apply Kd.R_drewN | apply Kd.R_drew)); exact HO_14.out⟩, ⟨by (with_reducible repeat (first | refine blk_drewN ?_ _ | refine blk_drew ?_ | refine blk_alloc ?_ _)); exact BK353.out⟩, ⟨by repeat (first | (with_reducible first | exact HB.out | apply below_alloc | apply pw_below_drewN | apply below_drew1 | refine below_set ?_ GE353.out) | exact HB.out)⟩⟩
         case rest =>
          clear HC18
          try clear c1
          try clear c2
          try clear p2
          try clear c3
          try clear p3
          try clear q3
          try clear hx3
          try clear p6
          try clear c10
          try clear c10b0
          try clear c12
          try clear c12b0
          try clear c13
          try clear c13b0
          try clear c15
          try clear c16
          try clear c16b0
          try clear c17
          try clear c17b0
          try clear c21
          try clear c21b0
          try clear c22
          try clear c22b0
          try clear c23
          try clear c23b0
          try clear c24
          try clear c25
          try clear hx357_0
          try clear hx360_0
          try clear hx361_0
          try clear hx362_0
          try clear p2
          try clear p3
          try clear p357
          try clear p360
          try clear p361
          try clear p362
          try clear p6
          try clear q3
          try clear q357
          try clear q360
          try clear q361
          try clear q362
          obtain ⟨kq, x17_17, rfl, HA, HJ17, HO_14, BK353, HB⟩ := hcut
          cases kq with
          | zero => exact absurd HA.out (by simp [quoinref13_quoted.j2])
          | succ kj17 =>
           have H := HA.out
           clear HA
           simp only [quoinref13_quoted.j2] at H
           have hji26 := hji11
           replace H : (if 0 ≤ (ji11) then (if (ji11) < (t354.length : Int) then (if x17_17 = (wrap64 ((rd t354 (ji11)) + 1)) then (quoinref13_quoted.l2 kj17 l0 a2 (rd t354 x15_1) x17_17) else (some ((rd t354 x15_1), x17_17, false, 0))) else (none)) else (none)) = some (r1, r2, r3, r4) := by first | (rw [hji26] at H; exact H) | (simp only [hji26] at H ⊢; exact H)
           (try rw [hji26] at c10b0)
           have hji26w : (IntKind.i64.wrap (x15_1 + 1)) = ji11 := (i64_w _).trans hji26
           by_cases c27 : 0 ≤ (ji11)
           ·rw [if_pos c27] at H
            have c27b0 : decide (0 ≤ (ji11)) = true := decide_eq_true c27
            clear c27
            by_cases c28 : (ji11) < (t354.length : Int)
            ·rw [if_pos c28] at H
             have c28b0 : decide ((ji11) < (t354.length : Int)) = true := decide_eq_true c28
             clear c28
             by_cases c29 : x17_17 = (wrap64 ((rd t354 (ji11)) + 1))
             ·rw [if_pos c29] at H
              have c29b0 : (x17_17 == (wrap64 ((rd t354 (ji11)) + 1))) = true := beq_iff_eq.mpr c29
              have c29b1 : (x17_17 != (wrap64 ((rd t354 (ji11)) + 1))) = false := bne_eq_false_iff_eq.mpr c29
              clear c29
              have H' := Aside0.mk H
              clear H
              have p364 : 0 ≤ ((ji11) : Int) := of_decide_eq_true (by first | (with_reducible assumption) | assumption)
              have q364 : (ji11) < (t354.length : Int) := of_decide_eq_true (by first | (with_reducible assumption) | assumption)
              obtain ⟨ad364, e364, hx364_0⟩ := Kd.at_int (Kd.R_reads' HO_14.out).2.2 (ji11) p364 q364
              obtain rfl : ad357 = ad364 := (by injection e364)
              replace p364 := eq_true p364
              replace q364 := eq_true q364
              go_wp2
              go_loopg [16] kj17 (fun kq v16 w' => ∃ (x16_3 : Int), v16 = .int .i64 x16_3 ∧ Aside0 (quoinref13_quoted.l2 kq l0 a2 x16_3 x17_17 = some (r1, r2, r3, r4)) ∧ Aside0 (kq ≤ kj17) ∧ Aside0 (w'.heap[gb353]? = some (.cells #[.int .i64 x354000_1, .int .i64 x354001_1, .bool x354002_1] 48 (0, 0))) ∧ Aside0 (Below w.heap.size w w'))
              case atStart => exact ⟨((rd t354 x15_1)), (by first | rfl | (simp; done) | (simp [*]; done)), H', ⟨Nat.le_refl _⟩, ⟨by (with_reducible repeat (first | refine blk_drewN ?_ _ | refine blk_drew ?_ | refine blk_alloc ?_ _)); exact BK353.out⟩, ⟨by repeat (first | (with_reducible first | exact HB.out | apply below_alloc | apply pw_below_drewN | apply below_drew1 | refine below_set ?_ GE353.out) | exact HB.out)⟩⟩
              case round =>
               clear H'
               try clear c1
               try clear c2
               try clear p2
               try clear c3
               try clear p3
               try clear q3
               try clear hx3
               try clear p6
               try clear c10
               try clear c10b0
               try clear c12
               try clear c12b0
               try clear c13
               try clear c13b0
               try clear c15
               try clear c16
               try clear c16b0
               try clear c17
               try clear c17b0
               try clear c21
               try clear c21b0
               try clear c22
               try clear c22b0
               try clear c23
               try clear c23b0
               try clear c24
               try clear c25
               try clear c27
               try clear c27b0
               try clear c28
               try clear c28b0
               try clear c29
               try clear c29b0
               try clear c29b1
               try clear hx357_0
               try clear hx360_0
               try clear hx361_0
               try clear hx362_0
               try clear hx364_0
               try clear p2
               try clear p3
               try clear p357
               try clear p360
               try clear p361
               try clear p362
               try clear p364
               try clear p6
               try clear q3
               try clear q357
               try clear q360
               try clear q361
               try clear q362
               try clear q364
               obtain ⟨x16_3, rfl, HA, HK3, BK353, HB⟩ := hrel
               cases gk with
               | zero => exact absurd HA.out (by simp [quoinref13_quoted.l2])
               | succ k3 =>
                have H := HA.out
                clear HA
                simp only [quoinref13_quoted.l2] at H
                by_cases c30 : x16_3 > a2
                ·rw [if_pos c30] at H
                 have c30b0 : decide (a2 < x16_3) = true := decide_eq_true c30
                 clear c30
                 obtain ⟨ji31, hji31⟩ : ∃ j_ : Int, (wrap64 (x16_3 - 1)) = j_ := ⟨_, rfl⟩
                 replace H : (if 0 ≤ (ji31) then (if (ji31) < (l0.length : Int) then ((quoinref13_blank.f (rd l0 (ji31))).bind fun t366 => (if t366 = true then (quoinref13_quoted.l2 k3 l0 a2 ji31 x17_17) else (some (x16_3, x17_17, false, 0)))) else (none)) else (none)) = some (r1, r2, r3, r4) := by first | (rw [hji31] at H; exact H) | (simp only [hji31] at H ⊢; exact H)
                 have hji31w : (IntKind.i64.wrap (x16_3 - 1)) = ji31 := (i64_w _).trans hji31
                 by_cases c32 : 0 ≤ (ji31)
                 ·rw [if_pos c32] at H
                  have c32b0 : decide (0 ≤ (ji31)) = true := decide_eq_true c32
                  clear c32
                  by_cases c33 : (ji31) < (l0.length : Int)
                  ·rw [if_pos c33] at H
                   have c33b0 : decide ((ji31) < (l0.length : Int)) = true := decide_eq_true c33
                   clear c33
                   replace H := Option.bind_eq_some_iff.mp H
                   obtain ⟨t366, A340, H⟩ := H
                   replace H : (if t366 = true then (quoinref13_quoted.l2 k3 l0 a2 ji31 x17_17) else (some (x16_3, x17_17, false, 0))) = some (r1, r2, r3, r4) := H
                   have A34 := Aside0.mk A340
                   clear A340
                   by_cases c35 : t366 = true
                   ·subst c35
                    have H1 : (quoinref13_quoted.l2 k3 l0 a2 ji31 x17_17) = some (r1, r2, r3, r4) := by rw [if_pos rfl] at H; exact H
                    clear H
                    have H := H1
                    clear H1
                    have H' := Aside0.mk H
                    clear H
                    have p365 : 0 ≤ ((ji31) : Int) := of_decide_eq_true (by first | (with_reducible assumption) | assumption)
                    have q365 : (ji31) < (l0.length : Int) := of_decide_eq_true (by first | (with_reducible assumption) | assumption)
                    obtain ⟨ad365, e365, hx365_0⟩ := Kd.at_int HR0.out (ji31) p365 q365
                    cases e365
                    replace hx365_0 := (HB.out.cell (World.block_lt_of_cell? w _ hx365_0)).trans hx365_0
                    replace p365 := eq_true p365
                    replace q365 := eq_true q365
                    go_wp2_with (first | (go_at_call 40; (with_reducible refine (quoinref13_blank.calls (rd l0 (ji31)) true _ A34.out).mono ?_); rintro e w' ⟨rfl, ⟨nd, rfl⟩⟩))
                    go_roundg k3
                    case measure => have := HK1.out; have := HJ17.out; have := HK3.out; omega
                    case rel => exact ⟨(ji31), (by first | rfl | (simp; done) | (simp only [← hji31] <;> (first | rfl | simp)) | (simp [*]; done)), H', ⟨by have := HK1.out; have := HJ17.out; have := HK3.out; omega⟩, ⟨by (with_reducible repeat (first | refine blk_drewN ?_ _ | refine blk_drew ?_ | refine blk_alloc ?_ _)); exact BK353.out⟩, ⟨by repeat (first | (with_reducible first | exact HB.out | apply below_alloc | apply pw_below_drewN | apply below_drew1 | refine below_set ?_ GE353.out) | exact HB.out)⟩⟩
                   ·replace c35 := Bool.eq_false_iff.mpr c35
                    subst c35
                    have H1 : (some (x16_3, x17_17, false, 0)) = some (r1, r2, r3, r4) := by rw [if_neg (show ¬ (false = true) by decide)] at H; exact H
                    clear H
                    have H := H1
                    clear H1
                    simp only [Option.some.injEq, Prod.mk.injEq] at H
                    obtain ⟨rfl, rfl, rfl, rfl⟩ := H
                    have p365 : 0 ≤ ((ji31) : Int) := of_decide_eq_true (by first | (with_reducible assumption) | assumption)
                    have q365 : (ji31) < (l0.length : Int) := of_decide_eq_true (by first | (with_reducible assumption) | assumption)
                    obtain ⟨ad365, e365, hx365_0⟩ := Kd.at_int HR0.out (ji31) p365 q365
                    cases e365
                    replace hx365_0 := (HB.out.cell (World.block_lt_of_cell? w _ hx365_0)).trans hx365_0
                    replace p365 := eq_true p365
                    replace q365 := eq_true q365
                    go_wp2_with (first | (go_at_call 40; (with_reducible refine (quoinref13_blank.calls (rd l0 (ji31)) false _ A34.out).mono ?_); rintro e w' ⟨rfl, ⟨nd, rfl⟩⟩; (try (rw [drewN_self wr]; generalize hq_ : World.drewN wr _ = wr; have n0_ : Aside0 (wr.heap[gb353]? = some (.cells #[.int .i64 x354000_1, .int .i64 x354001_1, .bool x354002_1] 48 (0, 0))) := ⟨by rw [← hq_]; exact (by (with_reducible repeat (first | refine blk_drewN ?_ _ | refine blk_drew ?_ | refine blk_alloc ?_ _)); exact BK353.out)⟩; have n1_ : Aside0 (Below w.heap.size w wr) := ⟨by rw [← hq_]; exact (by repeat (first | (with_reducible first | exact HB.out | apply below_alloc | apply pw_below_drewN | apply below_drew1 | refine below_set ?_ GE353.out) | exact HB.out))⟩; clear BK353 HB hq_; have BK353 := n0_; have HB := n1_; clear n0_ n1_)); (try have hcy353_0 : wr.cell? ⟨gb353, 0, none⟩ = some (.int .i64 x354000_1) := (blk_cell BK353.out 0).trans rfl); (try have hfy353_0 := blk_frozen BK353.out 0); (try have hcy353_1 : wr.cell? ⟨gb353, 1, none⟩ = some (.int .i64 x354001_1) := (blk_cell BK353.out 1).trans rfl); (try have hfy353_1 := blk_frozen BK353.out 1); (try have hcy353_2 : wr.cell? ⟨gb353, 2, none⟩ = some (.bool x354002_1) := (blk_cell BK353.out 2).trans rfl); (try have hfy353_2 := blk_frozen BK353.out 2); have hcz36_0 : wr.cell? ⟨gb353, 0, none⟩ = some (.int .i64 x354000_1) := (blk_cell BK353.out 0).trans rfl; have hcz36_1 : wr.cell? ⟨gb353, 1, none⟩ = some (.int .i64 x354001_1) := (blk_cell BK353.out 1).trans rfl; have hcz36_2 : wr.cell? ⟨gb353, 2, none⟩ = some (.bool x354002_1) := (blk_cell BK353.out 2).trans rfl; have hfz36_0 := blk_frozen BK353.out 0; have hfz36_1 := blk_frozen BK353.out 1; have hfz36_2 := blk_frozen BK353.out 2))
                    refine bodyPost_ret (results_ct rfl _ _ gb353 48 #[.int .i64 x16_3, .int .i64 x17_17, .bool false] (0, 0) _ rfl (by (with_reducible repeat (first | refine blk_drewN ?_ _ | refine blk_drew ?_ | refine blk_alloc ?_ _)); refine blk_put (cs := #[.int .i64 x16_3, .int .i64 x17_17, .bool x354002_1]) ?_ 2 _ rfl; (with_reducible repeat (first | refine blk_drewN ?_ _ | refine blk_drew ?_ | refine blk_alloc ?_ _)); refine blk_put (cs := #[.int .i64 x16_3, .int .i64 x354001_1, .bool x354002_1]) ?_ 1 _ rfl; (with_reducible repeat (first | refine blk_drewN ?_ _ | refine blk_drew ?_ | refine blk_alloc ?_ _)); refine blk_put (cs := #[.int .i64 x354000_1, .int .i64 x354001_1, .bool x354002_1]) ?_ 0 _ rfl; (with_reducible repeat (first | refine blk_drewN ?_ _ | refine blk_drew ?_ | refine blk_alloc ?_ _)); exact BK353.out) Tryd.underlying48 rfl (by kernel_rfl)) rfl ?_
                    exact ⟨by first | rfl | (simp [errW_none, errW_some] <;> rfl) | (simp only [← hji11, ← hji26, ← hji31]; first | rfl | (simp [errW_none, errW_some] <;> rfl)) | (simp [*, errW_none, errW_some] <;> rfl), by repeat (first | (with_reducible first | exact HB.out | apply below_alloc | apply pw_below_drewN | apply below_drew1 | refine below_set ?_ GE353.out) | exact HB.out)⟩
                  ·rw [if_neg c33] at H
                   exact absurd H (by simp)
                 ·rw [if_neg c32] at H
                  exact absurd H (by simp)
                ·rw [if_neg c30] at H
                 have c30b0 : decide (a2 < x16_3) = false := decide_eq_false c30
                 clear c30
                 simp only [Option.some.injEq, Prod.mk.injEq] at H
                 obtain ⟨rfl, rfl, rfl, rfl⟩ := H
                 have hcz37_0 : wr.cell? ⟨gb353, 0, none⟩ = some (.int .i64 x354000_1) := (blk_cell BK353.out 0).trans rfl
                 have hcz37_1 : wr.cell? ⟨gb353, 1, none⟩ = some (.int .i64 x354001_1) := (blk_cell BK353.out 1).trans rfl
                 have hcz37_2 : wr.cell? ⟨gb353, 2, none⟩ = some (.bool x354002_1) := (blk_cell BK353.out 2).trans rfl
                 have hfz37_0 := blk_frozen BK353.out 0
                 have hfz37_1 := blk_frozen BK353.out 1
                 have hfz37_2 := blk_frozen BK353.out 2
                 go_wp2
                 refine bodyPost_ret (results_ct rfl _ _ gb353 48 #[.int .i64 x16_3, .int .i64 x17_17, .bool false] (0, 0) _ rfl (by (with_reducible repeat (first | refine blk_drewN ?_ _ | refine blk_drew ?_ | refine blk_alloc ?_ _)); refine blk_put (cs := #[.int .i64 x16_3, .int .i64 x17_17, .bool x354002_1]) ?_ 2 _ rfl; (with_reducible repeat (first | refine blk_drewN ?_ _ | refine blk_drew ?_ | refine blk_alloc ?_ _)); refine blk_put (cs := #[.int .i64 x16_3, .int .i64 x354001_1, .bool x354002_1]) ?_ 1 _ rfl; (with_reducible repeat (first | refine blk_drewN ?_ _ | refine blk_drew ?_ | refine blk_alloc ?_ _)); refine blk_put (cs := #[.int .i64 x354000_1, .int .i64 x354001_1, .bool x354002_1]) ?_ 0 _ rfl; (with_reducible repeat (first | refine blk_drewN ?_ _ | refine blk_drew ?_ | refine blk_alloc ?_ _)); exact BK353.out) Tryd.underlying48 rfl (by kernel_rfl)) rfl ?_
                 exact ⟨by first | rfl | (simp [errW_none, errW_some] <;> rfl) | (simp only [← hji11, ← hji26]; first | rfl | (simp [errW_none, errW_some] <;> rfl)) | (simp [*, errW_none, errW_some] <;> rfl), by repeat (first | (with_reducible first | exact HB.out | apply below_alloc | apply pw_below_drewN | apply below_drew1 | refine below_set ?_ GE353.out) | exact HB.out)⟩
             ·rw [if_neg c29] at H
              have c29b0 : (x17_17 == (wrap64 ((rd t354 (ji11)) + 1))) = false := beq_eq_false_iff_ne.mpr c29
              have c29b1 : (x17_17 != (wrap64 ((rd t354 (ji11)) + 1))) = true := bne_iff_ne.mpr c29
              simp only [Option.some.injEq, Prod.mk.injEq] at H
              obtain ⟨rfl, rfl, rfl, rfl⟩ := H
              have p364 : 0 ≤ ((ji11) : Int) := of_decide_eq_true (by first | (with_reducible assumption) | assumption)
              have q364 : (ji11) < (t354.length : Int) := of_decide_eq_true (by first | (with_reducible assumption) | assumption)
              obtain ⟨ad364, e364, hx364_0⟩ := Kd.at_int (Kd.R_reads' HO_14.out).2.2 (ji11) p364 q364
              obtain rfl : ad357 = ad364 := (by injection e364)
              replace p364 := eq_true p364
              replace q364 := eq_true q364
              have hcz38_0 : wc.cell? ⟨gb353, 0, none⟩ = some (.int .i64 x354000_1) := (blk_cell BK353.out 0).trans rfl
              have hcz38_1 : wc.cell? ⟨gb353, 1, none⟩ = some (.int .i64 x354001_1) := (blk_cell BK353.out 1).trans rfl
              have hcz38_2 : wc.cell? ⟨gb353, 2, none⟩ = some (.bool x354002_1) := (blk_cell BK353.out 2).trans rfl
              have hfz38_0 := blk_frozen BK353.out 0
              have hfz38_1 := blk_frozen BK353.out 1
              have hfz38_2 := blk_frozen BK353.out 2
              go_wp2
              refine bodyPost_ret (results_ct rfl _ _ gb353 48 #[.int .i64 (rd t354 x15_1), .int .i64 x17_17, .bool false] (0, 0) _ rfl (by (with_reducible repeat (first | refine blk_drewN ?_ _ | refine blk_drew ?_ | refine blk_alloc ?_ _)); refine blk_put (cs := #[.int .i64 (rd t354 x15_1), .int .i64 x17_17, .bool x354002_1]) ?_ 2 _ rfl; (with_reducible repeat (first | refine blk_drewN ?_ _ | refine blk_drew ?_ | refine blk_alloc ?_ _)); refine blk_put (cs := #[.int .i64 (rd t354 x15_1), .int .i64 x354001_1, .bool x354002_1]) ?_ 1 _ rfl; (with_reducible repeat (first | refine blk_drewN ?_ _ | refine blk_drew ?_ | refine blk_alloc ?_ _)); refine blk_put (cs := #[.int .i64 x354000_1, .int .i64 x354001_1, .bool x354002_1]) ?_ 0 _ rfl; (with_reducible repeat (first | refine blk_drewN ?_ _ | refine blk_drew ?_ | refine blk_alloc ?_ _)); exact BK353.out) Tryd.underlying48 rfl (by kernel_rfl)) rfl ?_
              exact ⟨by first | rfl | (simp [errW_none, errW_some] <;> rfl) | (simp only [← hji11, ← hji26]; first | rfl | (simp [errW_none, errW_some] <;> rfl)) | (simp [*, errW_none, errW_some] <;> rfl), by repeat (first | (with_reducible first | exact HB.out | apply below_alloc | apply pw_below_drewN | apply below_drew1 | refine below_set ?_ GE353.out) | exact HB.out)⟩
            ·rw [if_neg c28] at H
             exact absurd H (by simp)
           ·rw [if_neg c27] at H
            exact absurd H (by simp)
        ·rw [if_neg c17] at H
         exact absurd H (by simp)
       ·rw [if_neg c16] at H
        exact absurd H (by simp)
      ·replace c15 := Bool.eq_false_iff.mpr c15
       subst c15
       have H1 : (if 0 ≤ x15_1 then (if x15_1 < (t354.length : Int) then (some (wrap64 ((rd t354 x15_1) + 1), rd t354 (ji11), false, 0)) else (none)) else (none)) = some (r1, r2, r3, r4) := by rw [if_neg (show ¬ (false = true) by decide)] at H; exact H
       clear H
       have H := H1
       clear H1
       by_cases c39 : 0 ≤ x15_1
       ·rw [if_pos c39] at H
        have c39b0 : decide (0 ≤ x15_1) = true := decide_eq_true c39
        clear c39
        by_cases c40 : x15_1 < (t354.length : Int)
        ·rw [if_pos c40] at H
         have c40b0 : decide (x15_1 < (t354.length : Int)) = true := decide_eq_true c40
         clear c40
         simp only [Option.some.injEq, Prod.mk.injEq] at H
         obtain ⟨rfl, rfl, rfl, rfl⟩ := H
         obtain ⟨Ao41, co41, eo41⟩ := Kd.R_slice HO_14.out
         subst eo41
         have p357 : 0 ≤ ((ji11) : Int) := of_decide_eq_true (by first | (with_reducible assumption) | assumption)
         have q357 : (ji11) < (t354.length : Int) := of_decide_eq_true (by first | (with_reducible assumption) | assumption)
         obtain ⟨ad357, e357, hx357_0⟩ := Kd.at_int (Kd.R_reads' HO_14.out).2.2 (ji11) p357 q357
         cases e357
         replace p357 := eq_true p357
         replace q357 := eq_true q357
         try go_wp2
         have n0_ := Aside0.mk (Kd.R_drew HO_14.out)
         have n1_ := Aside0.mk (blk_drew BK353.out)
         have n2_ := Aside0.mk (below_drew1 HB.out)
         clear HO_14
         clear BK353
         clear HB
         have HO_14 := n0_
         have BK353 := n1_
         have HB := n2_
         clear n0_ n1_ n2_
         have p358 : 0 ≤ (x15_1 : Int) := of_decide_eq_true (by first | (with_reducible assumption) | assumption)
         have q358 : x15_1 < (t354.length : Int) := of_decide_eq_true (by first | (with_reducible assumption) | assumption)
         obtain ⟨ad358, e358, hx358_0⟩ := Kd.at_int (Kd.R_reads' HO_14.out).2.2 x15_1 p358 q358
         obtain rfl : ad357 = ad358 := (by injection e358)
         replace p358 := eq_true p358
         replace q358 := eq_true q358
         have p359 : 0 ≤ ((ji11) : Int) := of_decide_eq_true (by first | (with_reducible assumption) | assumption)
         have q359 : (ji11) < (t354.length : Int) := of_decide_eq_true (by first | (with_reducible assumption) | assumption)
         obtain ⟨ad359, e359, hx359_0⟩ := Kd.at_int (Kd.R_reads' HO_14.out).2.2 (ji11) p359 q359
         obtain rfl : ad357 = ad359 := (by injection e359)
         replace p359 := eq_true p359
         replace q359 := eq_true q359
         refine start_ (n := 13) (S := fun w' => w'.cell? (ad357.add (x15_1).toNat) = some (.int .i64 (rd t354 x15_1)) ∧ w'.cell? (ad357.add ((ji11)).toNat) = some (.int .i64 (rd t354 (ji11)))) (ds := []) #[false, false, false, false, false, false, false, false, false, false, false, false, false] (by kernel_rfl) rfl rfl ⟨hx358_0, hx359_0⟩ (fun hHeld => ?_); refine with_tabW quoinref13_quoted.tab7 quoinref13_quoted.bits7 (fun HT_ HW_ => ?_)
         generalize wr.drew = w42 at HO_14 BK353 HB hx358_0 hx359_0 hHeld ⊢
         refine pure_ (i := 0) (N := some 39) (v := ?_) (a' := ?_) #[true, false, false, false, false, false, false, false, false, false, false, false, false] rfl rfl (any_of HT_.out (by kernel_rfl)) (fun _ _ _ h => h) (Or.inl ⟨by rfl, ?_⟩) ?_ ?_
         rotate_left
         ·intro w'
          go_simp
          with_reducible rfl
         rotate_left
         ·simp only [Act.put, List.setIfInBounds_toArray, List.set_cons_zero, List.set_cons_succ, i64_w, i32_w]
          rfl
         refine pure_ (i := 1) (N := some 40) (v := ?_) (a' := ?_) #[true, true, false, false, false, false, false, false, false, false, false, false, false] rfl rfl (any_of HT_.out (by kernel_rfl)) (fun _ _ _ h => h) (Or.inl ⟨by rfl, ?_⟩) ?_ ?_
         rotate_left
         ·intro w'
          go_simp
          with_reducible rfl
         rotate_left
         ·simp only [Act.put, List.setIfInBounds_toArray, List.set_cons_zero, List.set_cons_succ, i64_w, i32_w]
          rfl
         refine pure_ (i := 2) (N := some 41) (v := ?_) (a' := ?_) #[true, true, true, false, false, false, false, false, false, false, false, false, false] rfl rfl (any_of HT_.out (by kernel_rfl)) (fun _ _ _ h => h) (Or.inl ⟨by rfl, ?_⟩) ?_ ?_
         rotate_left
         ·intro w'
          go_simp
          with_reducible rfl
         rotate_left
         ·simp only [Act.put, List.setIfInBounds_toArray, List.set_cons_zero, List.set_cons_succ, i64_w, i32_w]
          rfl
         refine pure_ (i := 5) (N := some 44) (v := ?_) (a' := ?_) #[true, true, true, false, false, true, false, false, false, false, false, false, false] rfl rfl (any_of HT_.out (by kernel_rfl)) (fun _ _ _ h => h) (Or.inl ⟨by rfl, ?_⟩) ?_ ?_
         rotate_left
         ·intro w'
          go_simp
          with_reducible rfl
         rotate_left
         ·simp only [Act.put, List.setIfInBounds_toArray, List.set_cons_zero, List.set_cons_succ, i64_w, i32_w]
          rfl
         refine pure_ (i := 6) (N := some 45) (v := ?_) (a' := ?_) #[true, true, true, false, false, true, true, false, false, false, false, false, false] rfl rfl (any_of HT_.out (by kernel_rfl)) (fun _ _ _ h => h) (Or.inl ⟨by rfl, ?_⟩) ?_ ?_
         rotate_left
         ·intro w'
          go_simp
          with_reducible rfl
         rotate_left
         ·simp only [Act.put, List.setIfInBounds_toArray, List.set_cons_zero, List.set_cons_succ, i64_w, i32_w]
          rfl
         refine pure_ (i := 7) (N := some 46) (v := ?_) (a' := ?_) #[true, true, true, false, false, true, true, true, false, false, false, false, false] rfl rfl (any_of HT_.out (by kernel_rfl)) (fun _ _ _ h => h) (Or.inl ⟨by rfl, ?_⟩) ?_ ?_
         rotate_left
         ·intro w'
          go_simp
          with_reducible rfl
         rotate_left
         ·simp only [Act.put, List.setIfInBounds_toArray, List.set_cons_zero, List.set_cons_succ, i64_w, i32_w]
          rfl
         refine pure_ (i := 8) (N := some 47) (v := ?_) (a' := ?_) #[true, true, true, false, false, true, true, true, true, false, false, false, false] rfl rfl (any_of HT_.out (by kernel_rfl)) (fun _ _ _ h => h) (Or.inl ⟨by rfl, ?_⟩) ?_ ?_
         rotate_left
         ·intro w'
          go_simp
          with_reducible rfl
         rotate_left
         ·simp only [Act.put, List.setIfInBounds_toArray, List.set_cons_zero, List.set_cons_succ, i64_w, i32_w]
          rfl
         refine take_ (i := 3) (N := some 42) (v := ?_) (a' := ?_) #[true, true, true, true, false, true, true, true, true, false, false, false, false] rfl rfl (take_ofW HT_.out HW_.out (by kernel_rfl)) (fun _ _ _ h => h) (Or.inl ⟨by rfl, ?_⟩) hHeld ?_ ?_
         rotate_left
         ·rintro w' ⟨s0, s1⟩
          go_simp
          with_reducible rfl
         rotate_left
         ·simp only [Act.put, List.setIfInBounds_toArray, List.set_cons_zero, List.set_cons_succ, i64_w, i32_w]
          rfl
         refine pure_ (i := 4) (N := some 43) (v := ?_) (a' := ?_) #[true, true, true, true, true, true, true, true, true, false, false, false, false] rfl rfl (any_of HT_.out (by kernel_rfl)) (fun _ _ _ h => h) (Or.inl ⟨by rfl, ?_⟩) ?_ ?_
         rotate_left
         ·intro w'
          go_simp
          with_reducible rfl
         rotate_left
         ·simp only [Act.put, List.setIfInBounds_toArray, List.set_cons_zero, List.set_cons_succ, i64_w, i32_w]
          rfl
         refine take_ (i := 9) (N := some 48) (v := ?_) (a' := ?_) #[true, true, true, true, true, true, true, true, true, true, false, false, false] rfl rfl (take_ofW HT_.out HW_.out (by kernel_rfl)) (fun _ _ _ h => h) (Or.inl ⟨by rfl, ?_⟩) hHeld ?_ ?_
         rotate_left
         ·rintro w' ⟨s0, s1⟩
          go_simp
          with_reducible rfl
         rotate_left
         ·simp only [Act.put, List.setIfInBounds_toArray, List.set_cons_zero, List.set_cons_succ, i64_w, i32_w]
          rfl
         refine pure_ (i := 10) (N := some 49) (v := ?_) (a' := ?_) #[true, true, true, true, true, true, true, true, true, true, true, false, false] rfl rfl (any_of HT_.out (by kernel_rfl)) (fun _ _ _ h => h) (Or.inl ⟨by rfl, ?_⟩) ?_ ?_
         rotate_left
         ·intro w'
          go_simp
          with_reducible rfl
         rotate_left
         ·simp only [Act.put, List.setIfInBounds_toArray, List.set_cons_zero, List.set_cons_succ, i64_w, i32_w]
          rfl
         refine one_ (i := 11) (N := none) #[true, true, true, true, true, true, true, true, true, true, true, true, false] rfl rfl (one_of HT_.out (by kernel_rfl)) (by decide) (fun K hK => ?_)
         have hs43 : w42.cell? ⟨gb353, 0, none⟩ = some (.int .i64 x354000_1) := (blk_cell BK353.out 0).trans rfl
         have hfs43 := blk_frozen BK353.out 0
         have hs44 : w42.cell? ⟨gb353, 1, none⟩ = some (.int .i64 x354001_1) := (blk_cell BK353.out 1).trans rfl
         have hfs44 := blk_frozen BK353.out 1
         have hs45 : w42.cell? ⟨gb353, 2, none⟩ = some (.bool x354002_1) := (blk_cell BK353.out 2).trans rfl
         have hfs45 := blk_frozen BK353.out 2
         refine skip_ (w1 := ?_) (by rfl) rfl ?_ ?_
         rotate_left
         ·go_simp
          rfl
         refine hK.out _ _ ⟨((cell_far (p := ⟨gb353, _, none⟩) (by first | exact Kd.own_blk (Kd.R_ne HO_14.out BK353.out (by decide)) | (rw [add_block]; exact Kd.own_blk (Kd.R_ne HO_14.out BK353.out (by decide))) | (show (Addr.add _ _).block ≠ _; rw [add_block]; exact Kd.own_blk (Kd.R_ne HO_14.out BK353.out (by decide))) | (dsimp only; exact Kd.own_blk (Kd.R_ne HO_14.out BK353.out (by decide)))) _).trans (((cell_far (p := ⟨gb353, _, none⟩) (by first | exact Kd.own_blk (Kd.R_ne HO_14.out BK353.out (by decide)) | (rw [add_block]; exact Kd.own_blk (Kd.R_ne HO_14.out BK353.out (by decide))) | (show (Addr.add _ _).block ≠ _; rw [add_block]; exact Kd.own_blk (Kd.R_ne HO_14.out BK353.out (by decide))) | (dsimp only; exact Kd.own_blk (Kd.R_ne HO_14.out BK353.out (by decide)))) _).trans (((cell_far (p := ⟨gb353, _, none⟩) (by first | exact Kd.own_blk (Kd.R_ne HO_14.out BK353.out (by decide)) | (rw [add_block]; exact Kd.own_blk (Kd.R_ne HO_14.out BK353.out (by decide))) | (show (Addr.add _ _).block ≠ _; rw [add_block]; exact Kd.own_blk (Kd.R_ne HO_14.out BK353.out (by decide))) | (dsimp only; exact Kd.own_blk (Kd.R_ne HO_14.out BK353.out (by decide)))) _).trans (hHeld.1)))))), ((cell_far (p := ⟨gb353, _, none⟩) (by first | exact Kd.own_blk (Kd.R_ne HO_14.out BK353.out (by decide)) | (rw [add_block]; exact Kd.own_blk (Kd.R_ne HO_14.out BK353.out (by decide))) | (show (Addr.add _ _).block ≠ _; rw [add_block]; exact Kd.own_blk (Kd.R_ne HO_14.out BK353.out (by decide))) | (dsimp only; exact Kd.own_blk (Kd.R_ne HO_14.out BK353.out (by decide)))) _).trans (((cell_far (p := ⟨gb353, _, none⟩) (by first | exact Kd.own_blk (Kd.R_ne HO_14.out BK353.out (by decide)) | (rw [add_block]; exact Kd.own_blk (Kd.R_ne HO_14.out BK353.out (by decide))) | (show (Addr.add _ _).block ≠ _; rw [add_block]; exact Kd.own_blk (Kd.R_ne HO_14.out BK353.out (by decide))) | (dsimp only; exact Kd.own_blk (Kd.R_ne HO_14.out BK353.out (by decide)))) _).trans (((cell_far (p := ⟨gb353, _, none⟩) (by first | exact Kd.own_blk (Kd.R_ne HO_14.out BK353.out (by decide)) | (rw [add_block]; exact Kd.own_blk (Kd.R_ne HO_14.out BK353.out (by decide))) | (show (Addr.add _ _).block ≠ _; rw [add_block]; exact Kd.own_blk (Kd.R_ne HO_14.out BK353.out (by decide))) | (dsimp only; exact Kd.own_blk (Kd.R_ne HO_14.out BK353.out (by decide)))) _).trans (hHeld.2))))))⟩ (fun hHeld => ?_)
         clear hK K
         refine pure_ (i := 12) (N := some 13) (v := ?_) (a' := ?_) #[true, true, true, true, true, true, true, true, true, true, true, true, true] rfl rfl (any_of HT_.out (by kernel_rfl)) (fun _ _ _ h => h) (Or.inl ⟨by rfl, ?_⟩) ?_ ?_
         rotate_left
         ·intro w'
          go_simp
          with_reducible rfl
         rotate_left
         ·simp only [Act.put, List.setIfInBounds_toArray, List.set_cons_zero, List.set_cons_succ, i64_w, i32_w]
          rfl
         refine done_ (done_of HT_.out (by kernel_rfl)) ?_
         try go_wp2
         refine bodyPost_ret (results_ct rfl _ _ gb353 48 #[.int .i64 (wrap64 ((rd t354 x15_1) + 1)), .int .i64 (rd t354 (ji11)), .bool false] (0, 0) _ rfl (by (with_reducible repeat (first | refine blk_drewN ?_ _ | refine blk_drew ?_ | refine blk_alloc ?_ _)); refine blk_put (cs := #[.int .i64 (wrap64 ((rd t354 x15_1) + 1)), .int .i64 (rd t354 (ji11)), .bool x354002_1]) ?_ 2 _ rfl; (with_reducible repeat (first | refine blk_drewN ?_ _ | refine blk_drew ?_ | refine blk_alloc ?_ _)); refine blk_put (cs := #[.int .i64 (wrap64 ((rd t354 x15_1) + 1)), .int .i64 x354001_1, .bool x354002_1]) ?_ 1 _ rfl; (with_reducible repeat (first | refine blk_drewN ?_ _ | refine blk_drew ?_ | refine blk_alloc ?_ _)); refine blk_put (cs := #[.int .i64 x354000_1, .int .i64 x354001_1, .bool x354002_1]) ?_ 0 _ rfl; (with_reducible repeat (first | refine blk_drewN ?_ _ | refine blk_drew ?_ | refine blk_alloc ?_ _)); exact BK353.out) Tryd.underlying48 rfl (by kernel_rfl)) rfl ?_
         exact ⟨by first | rfl | (simp [errW_none, errW_some] <;> rfl) | (simp only [← hji11]; first | rfl | (simp [errW_none, errW_some] <;> rfl)) | (simp [*, errW_none, errW_some] <;> rfl), by repeat (first | (with_reducible first | exact HB.out | apply below_alloc | apply pw_below_drewN | apply below_drew1 | refine below_set ?_ GE353.out) | exact HB.out)⟩
        ·rw [if_neg c40] at H
         exact absurd H (by simp)
       ·rw [if_neg c39] at H
        exact absurd H (by simp)
    ·rw [if_neg c12] at H
     exact absurd H (by simp)
   ·rw [if_neg c10] at H
    have c10b0 : decide ((wrap64 (x15_1 + 1)) < (t354.length : Int)) = false := decide_eq_false c10
    clear c10
    simp only [Option.some.injEq, Prod.mk.injEq] at H
    obtain ⟨rfl, rfl, rfl, rfl⟩ := H
    obtain ⟨Ao46, co46, eo46⟩ := Kd.R_slice HO_14.out
    subst eo46
    have hcz47_0 : wr.cell? ⟨gb353, 0, none⟩ = some (.int .i64 x354000_1) := (blk_cell BK353.out 0).trans rfl
    have hcz47_1 : wr.cell? ⟨gb353, 1, none⟩ = some (.int .i64 x354001_1) := (blk_cell BK353.out 1).trans rfl
    have hcz47_2 : wr.cell? ⟨gb353, 2, none⟩ = some (.bool x354002_1) := (blk_cell BK353.out 2).trans rfl
    have hfz47_0 := blk_frozen BK353.out 0
    have hfz47_1 := blk_frozen BK353.out 1
    have hfz47_2 := blk_frozen BK353.out 2
    go_wp2
    refine bodyPost_ret (results_ct rfl _ _ gb353 48 #[.int .i64 0, .int .i64 0, .bool false] (0, 0) _ rfl (by (with_reducible repeat (first | refine blk_drewN ?_ _ | refine blk_drew ?_ | refine blk_alloc ?_ _)); refine blk_put (cs := #[.int .i64 0, .int .i64 0, .bool x354002_1]) ?_ 2 _ rfl; (with_reducible repeat (first | refine blk_drewN ?_ _ | refine blk_drew ?_ | refine blk_alloc ?_ _)); refine blk_put (cs := #[.int .i64 0, .int .i64 x354001_1, .bool x354002_1]) ?_ 1 _ rfl; (with_reducible repeat (first | refine blk_drewN ?_ _ | refine blk_drew ?_ | refine blk_alloc ?_ _)); refine blk_put (cs := #[.int .i64 x354000_1, .int .i64 x354001_1, .bool x354002_1]) ?_ 0 _ rfl; (with_reducible repeat (first | refine blk_drewN ?_ _ | refine blk_drew ?_ | refine blk_alloc ?_ _)); exact BK353.out) Tryd.underlying48 rfl (by kernel_rfl)) rfl ?_
    exact ⟨by first | rfl | (simp [errW_none, errW_some] <;> rfl) | (simp [*, errW_none, errW_some] <;> rfl), by repeat (first | (with_reducible first | exact HB.out | apply below_alloc | apply pw_below_drewN | apply below_drew1 | refine below_set ?_ GE353.out) | exact HB.out)⟩

end Go.Proofs.YtcochbkdgjgaeaaDoor.X
