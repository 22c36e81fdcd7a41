-- Written by wip/xprint.py over the kit's print.py: the Lean function of each Go function, and the proof that the Go text comes to it.
import Derived.Test.YtofkcdnkbjpmmaaX0
import Derived.Test.YtofkcdnkbjpmmaaX25
import Derived.Test.YtofkcdnkbjpmmaaX26
import Derived.Test.YtofkcdnkbjpmmaaX27
import Derived.Test.YtofkcdnkbjpmmaaX29
import Derived.Test.YtofkcdnkbjpmmaaX30
import Derived.Test.YtofkcdnkbjpmmaaX31
import Derived.Test.YtofkcdnkbjpmmaaX35
import Derived.Test.YtofkcdnkbjpmmaaX39
namespace Go.Proofs.Ytofkcdnkbjpmmaa.X
open Go.RowKit Go.Proofs.YtofkcdnkbjpmmaaW.PrintWords Go.Proofs.YtofkcdnkbjpmmaaW.PrintLast Go.Proofs.YtofkcdnkbjpmmaaW.PrintMore
attribute [local go_sem] max2_int min2_int max_two min_two max_three min_three max_four min_four   -- for this text's walks alone
set_option linter.unusedVariables false
set_option linter.unusedSimpArgs false

/-! ### quoinref07_Move: function 9 -/
mutual
def quoinref07_Move.j0 : Nat → List Int → Int → Int → Int → ByteArray → Bool → Option (Int × Int × Int × Int × Int)
 | 0, _, _, _, _, _, _ => none
 | k + 1, x0, x1, x2, x3, x4, x45 => if x45 = true then (some (0, 0, 0, 0, 2)) else ((quoinref05_Of.f k x0 x1).bind fun bt371 => ((quoinref05_Count.f k x0).bind fun t373 => (if x4.toList = ([106] : List UInt8) then ((quoinref07_column.f k x0 x1 (wrap64 (bt371.1 + (mx x3 1))) x2 (wrap64 (t373 - 1))).bind fun bt374 => (some (bt374.1, bt374.2.1, bt374.2.2.1, bt374.2.2.2.1, bt374.2.2.2.2))) else (if x4.toList = ([107] : List UInt8) then ((quoinref07_column.f k x0 x1 (wrap64 (bt371.1 - (mx x3 1))) x2 (wrap64 (t373 - 1))).bind fun bt379 => (some (bt379.1, bt379.2.1, bt379.2.2.1, bt379.2.2.2.1, bt379.2.2.2.2))) else (if x4.toList = ([43] : List UInt8) then (quoinref07_Move.j1 k x0 x1 x3 x4 (mx x3 1) bt371.1 (wrap64 (t373 - 1)) x4 (x4.toList == ([43] : List UInt8))) else (quoinref07_Move.j1 k x0 x1 x3 x4 (mx x3 1) bt371.1 (wrap64 (t373 - 1)) x4 (x4.toList == ([13] : List UInt8))))))))
def quoinref07_Move.j1 : Nat → List Int → Int → Int → ByteArray → Int → Int → Int → ByteArray → Bool → Option (Int × Int × Int × Int × Int)
 | 0, _, _, _, _, _, _, _, _, _ => none
 | k + 1, x0, x1, x3, x4, x13, x14, x16, x58, x85 => if x85 = true then ((quoinref07_first.f k x0 x1 (wrap64 (x14 + x13)) x16).bind fun bt384 => (some (bt384.1, bt384.2.1, bt384.2.2.1, bt384.2.2.2.1, bt384.2.2.2.2))) else (if x58.toList = ([45] : List UInt8) then ((quoinref07_first.f k x0 x1 (wrap64 (x14 - x13)) x16).bind fun bt389 => (some (bt389.1, bt389.2.1, bt389.2.2.1, bt389.2.2.2.1, bt389.2.2.2.2))) else (if x58.toList = ([95] : List UInt8) then ((quoinref07_first.f k x0 x1 (wrap64 ((wrap64 (x14 + x13)) - 1)) x16).bind fun bt394 => (some (bt394.1, bt394.2.1, bt394.2.2.1, bt394.2.2.2.1, bt394.2.2.2.2))) else (if x58.toList = ([103, 103] : List UInt8) then ((quoinref07_first.f k x0 x1 (wrap64 (x13 - 1)) x16).bind fun bt399 => (some (bt399.1, bt399.2.1, bt399.2.2.1, bt399.2.2.2.1, bt399.2.2.2.2))) else (if x58.toList = ([71] : List UInt8) then (if x3 = 0 then ((quoinref07_first.f k x0 x1 x16 x16).bind fun bt404 => (some (bt404.1, bt404.2.1, bt404.2.2.1, bt404.2.2.2.1, bt404.2.2.2.2))) else ((quoinref07_first.f k x0 x1 (wrap64 (x13 - 1)) x16).bind fun bt409 => (some (bt409.1, bt409.2.1, bt409.2.2.1, bt409.2.2.2.1, bt409.2.2.2.2)))) else (if x58.toList = ([36] : List UInt8) then (if (wrap64 ((wrap64 (x14 + x13)) - 1)) > x16 then (some (0, 0, 0, 0, 70)) else ((quoinref05_End.f k x0 (wrap64 ((wrap64 (x14 + x13)) - 1))).bind fun bt414 => (some (x1, bt414.1, 1, (-1), 0)))) else (if x58.toList = ([124] : List UInt8) then ((quoinref05_At.f k x0 x14 (wrap64 (x13 - 1))).bind fun bt416 => (some (x1, bt416.1, 1, wrap64 (x13 - 1), 0))) else ((quoinref07_along.f k x0 x1 x13 x14 x4).bind fun bt418 => (some (bt418.1, bt418.2.1, bt418.2.2.1, bt418.2.2.2.1, bt418.2.2.2.2)))))))))
end
def quoinref07_Move.f (k : Nat) (l0 : List Int) (a1 : Int) (a2 : Int) (a3 : Int) (a4 : ByteArray) : Option (Int × Int × Int × Int × Int) := if a1 < 0 then (quoinref07_Move.j0 k l0 a1 a2 a3 a4 true) else (if a1 > (l0.length : Int) then (quoinref07_Move.j0 k l0 a1 a2 a3 a4 true) else (if a2 < (-1) then (quoinref07_Move.j0 k l0 a1 a2 a3 a4 true) else (if a3 < 0 then (quoinref07_Move.j0 k l0 a1 a2 a3 a4 true) else (if a3 > 9999 then (quoinref07_Move.j0 k l0 a1 a2 a3 a4 true) else ((quoinref07_known.f a4).bind fun t370 => (quoinref07_Move.j0 k l0 a1 a2 a3 a4 (!t370)))))))
theorem quoinref07_Move.mono_l : ∀ k, (∀ y0 y1 y2 y3 y4 y5, LeO (quoinref07_Move.j0 k y0 y1 y2 y3 y4 y5) (quoinref07_Move.j0 (k + 1) y0 y1 y2 y3 y4 y5)) ∧ (∀ y0 y1 y2 y3 y4 y5 y6 y7 y8, LeO (quoinref07_Move.j1 k y0 y1 y2 y3 y4 y5 y6 y7 y8) (quoinref07_Move.j1 (k + 1) y0 y1 y2 y3 y4 y5 y6 y7 y8))
 | 0 => ⟨fun _ _ _ _ _ _ r h => by simp [quoinref07_Move.j0] at h, fun _ _ _ _ _ _ _ _ _ r h => by simp [quoinref07_Move.j1] at h⟩
 | k + 1 => by
  obtain ⟨ih0, ih1⟩ := quoinref07_Move.mono_l k
  refine ⟨?_, ?_⟩
  ·intro y0 y1 y2 y3 y4 y5
   unfold quoinref07_Move.j0
   repeat' first
   | (with_reducible exact ih0 _ _ _ _ _ _)
   | (with_reducible exact ih1 _ _ _ _ _ _ _ _ _)
   | (with_reducible exact quoinref05_At.mono _ _ _ _)
   | (with_reducible exact quoinref05_Count.mono _ _)
   | (with_reducible exact quoinref05_End.mono _ _ _)
   | (with_reducible exact quoinref05_Of.mono _ _ _)
   | (with_reducible exact quoinref07_along.mono _ _ _ _ _ _)
   | (with_reducible exact quoinref07_column.mono _ _ _ _ _ _)
   | (with_reducible exact quoinref07_first.mono _ _ _ _ _)
   | (with_reducible exact LeO.refl _)
   | (with_reducible exact LeO.none _)
   | (with_reducible refine LeO.ite ?_ ?_)
   | (with_reducible refine LeO.bind ?_ (fun _ => ?_))
   | exact ih0 _ _ _ _ _ _
   | exact ih1 _ _ _ _ _ _ _ _ _
   | exact quoinref05_At.mono _ _ _ _
   | exact quoinref05_Count.mono _ _
   | exact quoinref05_End.mono _ _ _
   | exact quoinref05_Of.mono _ _ _
   | exact quoinref07_along.mono _ _ _ _ _ _
   | exact quoinref07_column.mono _ _ _ _ _ _
   | exact quoinref07_first.mono _ _ _ _ _
   | exact LeO.none _
   | refine LeO.ite ?_ ?_
   | refine LeO.bind ?_ (fun _ => ?_)
  ·intro y0 y1 y2 y3 y4 y5 y6 y7 y8
   unfold quoinref07_Move.j1
   repeat' first
   | (with_reducible exact ih0 _ _ _ _ _ _)
   | (with_reducible exact ih1 _ _ _ _ _ _ _ _ _)
   | (with_reducible exact quoinref05_At.mono _ _ _ _)
   | (with_reducible exact quoinref05_Count.mono _ _)
   | (with_reducible exact quoinref05_End.mono _ _ _)
   | (with_reducible exact quoinref05_Of.mono _ _ _)
   | (with_reducible exact quoinref07_along.mono _ _ _ _ _ _)
   | (with_reducible exact quoinref07_column.mono _ _ _ _ _ _)
   | (with_reducible exact quoinref07_first.mono _ _ _ _ _)
   | (with_reducible exact LeO.refl _)
   | (with_reducible exact LeO.none _)
   | (with_reducible refine LeO.ite ?_ ?_)
   | (with_reducible refine LeO.bind ?_ (fun _ => ?_))
   | exact ih0 _ _ _ _ _ _
   | exact ih1 _ _ _ _ _ _ _ _ _
   | exact quoinref05_At.mono _ _ _ _
   | exact quoinref05_Count.mono _ _
   | exact quoinref05_End.mono _ _ _
   | exact quoinref05_Of.mono _ _ _
   | exact quoinref07_along.mono _ _ _ _ _ _
   | exact quoinref07_column.mono _ _ _ _ _ _
   | exact quoinref07_first.mono _ _ _ _ _
   | exact LeO.none _
   | refine LeO.ite ?_ ?_
   | refine LeO.bind ?_ (fun _ => ?_)
theorem quoinref07_Move.mono : ∀ a0 a1 a2 a3 a4 k, LeO (quoinref07_Move.f k a0 a1 a2 a3 a4) (quoinref07_Move.f (k + 1) a0 a1 a2 a3 a4) := by
 intro a0 a1 a2 a3 a4 k
 obtain ⟨ih0, ih1⟩ := quoinref07_Move.mono_l k
 unfold quoinref07_Move.f
 repeat' first
   | (with_reducible exact ih0 _ _ _ _ _ _)
   | (with_reducible exact ih1 _ _ _ _ _ _ _ _ _)
   | (with_reducible exact quoinref05_At.mono _ _ _ _)
   | (with_reducible exact quoinref05_Count.mono _ _)
   | (with_reducible exact quoinref05_End.mono _ _ _)
   | (with_reducible exact quoinref05_Of.mono _ _ _)
   | (with_reducible exact quoinref07_along.mono _ _ _ _ _ _)
   | (with_reducible exact quoinref07_column.mono _ _ _ _ _ _)
   | (with_reducible exact quoinref07_first.mono _ _ _ _ _)
   | (with_reducible exact LeO.refl _)
   | (with_reducible exact LeO.none _)
   | (with_reducible refine LeO.ite ?_ ?_)
   | (with_reducible refine LeO.bind ?_ (fun _ => ?_))
   | exact ih0 _ _ _ _ _ _
   | exact ih1 _ _ _ _ _ _ _ _ _
   | exact quoinref05_At.mono _ _ _ _
   | exact quoinref05_Count.mono _ _
   | exact quoinref05_End.mono _ _ _
   | exact quoinref05_Of.mono _ _ _
   | exact quoinref07_along.mono _ _ _ _ _ _
   | exact quoinref07_column.mono _ _ _ _ _ _
   | exact quoinref07_first.mono _ _ _ _ _
   | exact LeO.none _
   | refine LeO.ite ?_ ?_
   | refine LeO.bind ?_ (fun _ => ?_)
set_option maxHeartbeats 8000000 in
set_option maxRecDepth 100000 in
theorem quoinref07_Move.calls (k : Nat) (A0 : Option Addr) (c0 : Nat) (l0 : List Int) (a1 : Int) (a2 : Int) (a3 : Int) (a4 : ByteArray) (r1 : Int) (r2 : Int) (r3 : Int) (r4 : Int) (r5 : Int) (w : World) (hr0 : Kd.C (Kd.int .u8) w A0 l0.length l0) (hc0 : l0.length ≤ c0) (h : quoinref07_Move.f k l0 a1 a2 a3 a4 = some (r1, r2, r3, r4, r5)) :
  Calls Try.prog 9 #[.slice A0 l0.length c0, .int .i64 a1, .int .i64 a2, .int .i64 a3, .string a4] w fun e w' => e = .returned (.tuple #[.agg #[.int .i64 r1, .int .i64 r2, .int .i64 r3], .int .i64 r4, .int .i64 r5]) ∧ Below w.heap.size w w' := by
 have hu29 := Try.underlying29
 have HR0 := Aside0.mk hr0
 have HC0 := Aside0.mk hc0
 clear hr0 hc0
 have HB := Aside0.mk (Below.refl w.heap.size w)
 have H : (if a1 < 0 then (quoinref07_Move.j0 k l0 a1 a2 a3 a4 true) else (if a1 > (l0.length : Int) then (quoinref07_Move.j0 k l0 a1 a2 a3 a4 true) else (if a2 < (-1) then (quoinref07_Move.j0 k l0 a1 a2 a3 a4 true) else (if a3 < 0 then (quoinref07_Move.j0 k l0 a1 a2 a3 a4 true) else (if a3 > 9999 then (quoinref07_Move.j0 k l0 a1 a2 a3 a4 true) else ((quoinref07_known.f a4).bind fun t370 => (quoinref07_Move.j0 k l0 a1 a2 a3 a4 (!t370)))))))) = some (r1, r2, r3, r4, r5) := h
 clear h
 have HC6 := Aside0.mk H
 clear H
 go_enter Try.func9, Try.ntmps9
 go_upto_region 1 with (first | ((with_reducible refine gate_dst (N := 10) rfl ?_); (try (refine gate_guard (by rfl) ?_; dsimp only)); refine box_event ?hg (N := 10) ?hd (cs := #[.int .i64 0, .int .i64 0, .int .i64 0]) (t := 29) ?hr ?_; (case hd => rfl); (case hg => rfl); (case hr => first | (go_simp; done) | (go_simp; rfl)); intro gb369 hg w7 hbox hb; have n0_ := Aside0.mk (below_step (by repeat (first | (with_reducible first | exact HB.out | apply below_alloc | apply pw_below_drewN | apply below_drew1) | exact HB.out)) hb); have n1_ := Aside0.mk (hbox); have n2_ := Aside0.mk ((by rw [hg]; exact (below_size (by repeat (first | (with_reducible first | exact HB.out | apply below_alloc | apply pw_below_drewN | apply below_drew1) | exact HB.out))) : w.heap.size ≤ gb369)); have n3_ := Aside0.mk ((by rw [hg]; exact (below_size (by repeat (first | (with_reducible first | exact HB.out | apply below_alloc | apply pw_below_drewN | apply below_drew1) | exact HB.out))) : w.heap.size ≤ gb369)); clear HB; have HB := n0_; have BK369 := n1_; have GW369 := n2_; have GE369 := n3_; clear n0_ n1_ n2_ n3_; clear hb hbox hg))
 (try simp only [Act.put, List.setIfInBounds_toArray, List.set_cons_zero, List.set_cons_succ])
 go_cut [45] (fun v45 wc => ∃ (kq : Nat) (x45_5 : Bool), v45 = .bool x45_5 ∧ Aside0 (quoinref07_Move.j0 kq l0 a1 a2 a3 a4 x45_5 = some (r1, r2, r3, r4, r5)) ∧ Aside0 (kq ≤ k) ∧ Aside0 (wc.heap[gb369]? = some (.cells #[.int .i64 0, .int .i64 0, .int .i64 0] 29 (0, 0))) ∧ Aside0 (Below w.heap.size w wc))
 case first =>
  have H := HC6.out
  clear HC6
  by_cases c8 : a1 < 0
  ·rw [if_pos c8] at H
   have c8b0 : decide (a1 < 0) = true := decide_eq_true c8
   clear c8
   (first | rw [c8b0] | (simp only [i64_w, i32_w]; rw [c8b0]) | skip)
   have H' := Aside0.mk H
   clear H
   go_wp2
   go_meet
   case rel => exact ⟨_, (true), (by first | rfl | (simp; done) | (simp [*]; done)), H', ⟨by first | omega | exact Nat.le_refl _⟩, ⟨by (with_reducible repeat (first | refine blk_drewN ?_ _ | refine blk_drew ?_ | refine blk_alloc ?_ _)); exact BK369.out⟩, ⟨by repeat (first | (with_reducible first | exact HB.out | apply below_alloc | apply pw_below_drewN | apply below_drew1 | refine below_set ?_ GE369.out) | exact HB.out)⟩⟩
  ·rw [if_neg c8] at H
   have c8b0 : decide (a1 < 0) = false := decide_eq_false c8
   clear c8
   (first | rw [c8b0] | (simp only [i64_w, i32_w]; rw [c8b0]) | skip)
   by_cases c9 : a1 > (l0.length : Int)
   ·rw [if_pos c9] at H
    have c9b0 : decide ((l0.length : Int) < a1) = true := decide_eq_true c9
    clear c9
    have H' := Aside0.mk H
    clear H
    go_wp2
    go_meet
    case rel => exact ⟨_, (true), (by first | rfl | (simp; done) | (simp [*]; done)), H', ⟨by first | omega | exact Nat.le_refl _⟩, ⟨by (with_reducible repeat (first | refine blk_drewN ?_ _ | refine blk_drew ?_ | refine blk_alloc ?_ _)); exact BK369.out⟩, ⟨by repeat (first | (with_reducible first | exact HB.out | apply below_alloc | apply pw_below_drewN | apply below_drew1 | refine below_set ?_ GE369.out) | exact HB.out)⟩⟩
   ·rw [if_neg c9] at H
    have c9b0 : decide ((l0.length : Int) < a1) = false := decide_eq_false c9
    clear c9
    by_cases c10 : a2 < (-1)
    ·rw [if_pos c10] at H
     have c10b0 : decide (a2 < (-1)) = true := decide_eq_true c10
     clear c10
     have H' := Aside0.mk H
     clear H
     go_wp2
     go_meet
     case rel => exact ⟨_, (true), (by first | rfl | (simp; done) | (simp [*]; done)), H', ⟨by first | omega | exact Nat.le_refl _⟩, ⟨by (with_reducible repeat (first | refine blk_drewN ?_ _ | refine blk_drew ?_ | refine blk_alloc ?_ _)); exact BK369.out⟩, ⟨by repeat (first | (with_reducible first | exact HB.out | apply below_alloc | apply pw_below_drewN | apply below_drew1 | refine below_set ?_ GE369.out) | exact HB.out)⟩⟩
    ·rw [if_neg c10] at H
     have c10b0 : decide (a2 < (-1)) = false := decide_eq_false c10
     clear c10
     by_cases c11 : a3 < 0
     ·rw [if_pos c11] at H
      have c11b0 : decide (a3 < 0) = true := decide_eq_true c11
      clear c11
      have H' := Aside0.mk H
      clear H
      go_wp2
      go_meet
      case rel => exact ⟨_, (true), (by first | rfl | (simp; done) | (simp [*]; done)), H', ⟨by first | omega | exact Nat.le_refl _⟩, ⟨by (with_reducible repeat (first | refine blk_drewN ?_ _ | refine blk_drew ?_ | refine blk_alloc ?_ _)); exact BK369.out⟩, ⟨by repeat (first | (with_reducible first | exact HB.out | apply below_alloc | apply pw_below_drewN | apply below_drew1 | refine below_set ?_ GE369.out) | exact HB.out)⟩⟩
     ·rw [if_neg c11] at H
      have c11b0 : decide (a3 < 0) = false := decide_eq_false c11
      clear c11
      by_cases c12 : a3 > 9999
      ·rw [if_pos c12] at H
       have c12b0 : decide (9999 < a3) = true := decide_eq_true c12
       clear c12
       have H' := Aside0.mk H
       clear H
       go_wp2
       go_meet
       case rel => exact ⟨_, (true), (by first | rfl | (simp; done) | (simp [*]; done)), H', ⟨by first | omega | exact Nat.le_refl _⟩, ⟨by (with_reducible repeat (first | refine blk_drewN ?_ _ | refine blk_drew ?_ | refine blk_alloc ?_ _)); exact BK369.out⟩, ⟨by repeat (first | (with_reducible first | exact HB.out | apply below_alloc | apply pw_below_drewN | apply below_drew1 | refine below_set ?_ GE369.out) | exact HB.out)⟩⟩
      ·rw [if_neg c12] at H
       have c12b0 : decide (9999 < a3) = false := decide_eq_false c12
       clear c12
       replace H := Option.bind_eq_some_iff.mp H
       obtain ⟨t370, A130, H⟩ := H
       replace H : (quoinref07_Move.j0 k l0 a1 a2 a3 a4 (!t370)) = some (r1, r2, r3, r4, r5) := H
       have A13 := Aside0.mk A130
       clear A130
       have H' := Aside0.mk H
       clear H
       go_wp2_with (first | (go_at_call 20; (with_reducible refine (quoinref07_known.calls a4 t370 _ A13.out).mono ?_); rintro e w' ⟨rfl, ⟨nd, rfl⟩⟩))
       go_meet
       case rel => exact ⟨_, (!t370), (by first | rfl | (simp; done) | (simp [*]; done)), H', ⟨by first | omega | exact Nat.le_refl _⟩, ⟨by (with_reducible repeat (first | refine blk_drewN ?_ _ | refine blk_drew ?_ | refine blk_alloc ?_ _)); exact BK369.out⟩, ⟨by repeat (first | (with_reducible first | exact HB.out | apply below_alloc | apply pw_below_drewN | apply below_drew1 | refine below_set ?_ GE369.out) | exact HB.out)⟩⟩
 case rest =>
  clear HC6
  try clear c1
  try clear p2
  try clear c8
  try clear c8b0
  try clear c9
  try clear c9b0
  try clear c10
  try clear c10b0
  try clear c11
  try clear c11b0
  try clear c12
  try clear c12b0
  obtain ⟨kq, x45_5, rfl, HA, HJ5, BK369, HB⟩ := hcut
  cases kq with
  | zero => exact absurd HA.out (by simp [quoinref07_Move.j0])
  | succ kj5 =>
   have H := HA.out
   clear HA
   simp only [quoinref07_Move.j0] at H
   by_cases c14 : x45_5 = true
   ·subst c14
    have H1 : (some (0, 0, 0, 0, 2)) = some (r1, r2, r3, r4, r5) := by rw [if_pos rfl] at H; exact H
    clear H
    have H := H1
    clear H1
    simp only [Option.some.injEq, Prod.mk.injEq] at H
    obtain ⟨rfl, rfl, rfl, rfl, rfl⟩ := H
    have hcz15_0 : wc.cell? ⟨gb369, 0, none⟩ = some (.int .i64 0) := (blk_cell BK369.out 0).trans rfl
    have hcz15_1 : wc.cell? ⟨gb369, 1, none⟩ = some (.int .i64 0) := (blk_cell BK369.out 1).trans rfl
    have hcz15_2 : wc.cell? ⟨gb369, 2, none⟩ = some (.int .i64 0) := (blk_cell BK369.out 2).trans rfl
    have hfz15_0 := blk_frozen BK369.out 0
    have hfz15_1 := blk_frozen BK369.out 1
    have hfz15_2 := blk_frozen BK369.out 2
    go_wp2
    refine bodyPost_ret (results_ctt rfl _ _ gb369 29 #[.int .i64 0, .int .i64 0, .int .i64 0] (0, 0) _ rfl (by (with_reducible repeat (first | refine blk_drewN ?_ _ | refine blk_drew ?_ | refine blk_alloc ?_ _)); refine blk_put (cs := #[.int .i64 0, .int .i64 0, .int .i64 0]) ?_ 2 _ rfl; (with_reducible repeat (first | refine blk_drewN ?_ _ | refine blk_drew ?_ | refine blk_alloc ?_ _)); refine blk_put (cs := #[.int .i64 0, .int .i64 0, .int .i64 0]) ?_ 1 _ rfl; (with_reducible repeat (first | refine blk_drewN ?_ _ | refine blk_drew ?_ | refine blk_alloc ?_ _)); refine blk_put (cs := #[.int .i64 0, .int .i64 0, .int .i64 0]) ?_ 0 _ rfl; (with_reducible repeat (first | refine blk_drewN ?_ _ | refine blk_drew ?_ | refine blk_alloc ?_ _)); exact BK369.out) Try.underlying29 rfl (by kernel_rfl)) rfl ?_
    exact ⟨by first | rfl | (simp [errW_none, errW_some] <;> rfl) | (simp [*, errW_none, errW_some] <;> rfl), by repeat (first | (with_reducible first | exact HB.out | apply below_alloc | apply pw_below_drewN | apply below_drew1 | refine below_set ?_ GE369.out) | exact HB.out)⟩
   ·replace c14 := Bool.eq_false_iff.mpr c14
    subst c14
    have H1 : ((quoinref05_Of.f kj5 l0 a1).bind fun bt371 => ((quoinref05_Count.f kj5 l0).bind fun t373 => (if a4.toList = ([106] : List UInt8) then ((quoinref07_column.f kj5 l0 a1 (wrap64 (bt371.1 + (mx a3 1))) a2 (wrap64 (t373 - 1))).bind fun bt374 => (some (bt374.1, bt374.2.1, bt374.2.2.1, bt374.2.2.2.1, bt374.2.2.2.2))) else (if a4.toList = ([107] : List UInt8) then ((quoinref07_column.f kj5 l0 a1 (wrap64 (bt371.1 - (mx a3 1))) a2 (wrap64 (t373 - 1))).bind fun bt379 => (some (bt379.1, bt379.2.1, bt379.2.2.1, bt379.2.2.2.1, bt379.2.2.2.2))) else (if a4.toList = ([43] : List UInt8) then (quoinref07_Move.j1 kj5 l0 a1 a3 a4 (mx a3 1) bt371.1 (wrap64 (t373 - 1)) a4 (a4.toList == ([43] : List UInt8))) else (quoinref07_Move.j1 kj5 l0 a1 a3 a4 (mx a3 1) bt371.1 (wrap64 (t373 - 1)) a4 (a4.toList == ([13] : List UInt8)))))))) = some (r1, r2, r3, r4, r5) := by rw [if_neg (show ¬ (false = true) by decide)] at H; exact H
    clear H
    have H := H1
    clear H1
    obtain ⟨ji16, hji16⟩ : ∃ j_ : Int, (mx a3 1) = j_ := ⟨_, rfl⟩
    replace H : ((quoinref05_Of.f kj5 l0 a1).bind fun bt371 => ((quoinref05_Count.f kj5 l0).bind fun t373 => (if a4.toList = ([106] : List UInt8) then ((quoinref07_column.f kj5 l0 a1 (wrap64 (bt371.1 + (ji16))) a2 (wrap64 (t373 - 1))).bind fun bt374 => (some (bt374.1, bt374.2.1, bt374.2.2.1, bt374.2.2.2.1, bt374.2.2.2.2))) else (if a4.toList = ([107] : List UInt8) then ((quoinref07_column.f kj5 l0 a1 (wrap64 (bt371.1 - (ji16))) a2 (wrap64 (t373 - 1))).bind fun bt379 => (some (bt379.1, bt379.2.1, bt379.2.2.1, bt379.2.2.2.1, bt379.2.2.2.2))) else (if a4.toList = ([43] : List UInt8) then (quoinref07_Move.j1 kj5 l0 a1 a3 a4 ji16 bt371.1 (wrap64 (t373 - 1)) a4 (a4.toList == ([43] : List UInt8))) else (quoinref07_Move.j1 kj5 l0 a1 a3 a4 ji16 bt371.1 (wrap64 (t373 - 1)) a4 (a4.toList == ([13] : List UInt8)))))))) = some (r1, r2, r3, r4, r5) := by first | (rw [hji16] at H; exact H) | (simp only [hji16] at H ⊢; exact H)
    have hji16_ : (if a3 < 1 then 1 else a3) = ji16 := hji16
    replace H := Option.bind_eq_some_iff.mp H
    obtain ⟨⟨t371, t372⟩, A170, H⟩ := H
    replace H : ((quoinref05_Count.f kj5 l0).bind fun t373 => (if a4.toList = ([106] : List UInt8) then ((quoinref07_column.f kj5 l0 a1 (wrap64 (t371 + (ji16))) a2 (wrap64 (t373 - 1))).bind fun bt374 => (some (bt374.1, bt374.2.1, bt374.2.2.1, bt374.2.2.2.1, bt374.2.2.2.2))) else (if a4.toList = ([107] : List UInt8) then ((quoinref07_column.f kj5 l0 a1 (wrap64 (t371 - (ji16))) a2 (wrap64 (t373 - 1))).bind fun bt379 => (some (bt379.1, bt379.2.1, bt379.2.2.1, bt379.2.2.2.1, bt379.2.2.2.2))) else (if a4.toList = ([43] : List UInt8) then (quoinref07_Move.j1 kj5 l0 a1 a3 a4 ji16 t371 (wrap64 (t373 - 1)) a4 (a4.toList == ([43] : List UInt8))) else (quoinref07_Move.j1 kj5 l0 a1 a3 a4 ji16 t371 (wrap64 (t373 - 1)) a4 (a4.toList == ([13] : List UInt8))))))) = some (r1, r2, r3, r4, r5) := H
    have A17 := Aside0.mk A170
    clear A170
    replace H := Option.bind_eq_some_iff.mp H
    obtain ⟨t373, A180, H⟩ := H
    replace H : (if a4.toList = ([106] : List UInt8) then ((quoinref07_column.f kj5 l0 a1 (wrap64 (t371 + (ji16))) a2 (wrap64 (t373 - 1))).bind fun bt374 => (some (bt374.1, bt374.2.1, bt374.2.2.1, bt374.2.2.2.1, bt374.2.2.2.2))) else (if a4.toList = ([107] : List UInt8) then ((quoinref07_column.f kj5 l0 a1 (wrap64 (t371 - (ji16))) a2 (wrap64 (t373 - 1))).bind fun bt379 => (some (bt379.1, bt379.2.1, bt379.2.2.1, bt379.2.2.2.1, bt379.2.2.2.2))) else (if a4.toList = ([43] : List UInt8) then (quoinref07_Move.j1 kj5 l0 a1 a3 a4 ji16 t371 (wrap64 (t373 - 1)) a4 (a4.toList == ([43] : List UInt8))) else (quoinref07_Move.j1 kj5 l0 a1 a3 a4 ji16 t371 (wrap64 (t373 - 1)) a4 (a4.toList == ([13] : List UInt8)))))) = some (r1, r2, r3, r4, r5) := H
    have A18 := Aside0.mk A180
    clear A180
    by_cases c19 : a4.toList = ([106] : List UInt8)
    ·rw [if_pos c19] at H
     have c19b0 : (a4.toList == ([106] : List UInt8)) = true := beq_iff_eq.mpr c19
     have c19b1 : (a4.toList != ([106] : List UInt8)) = false := bne_eq_false_iff_eq.mpr c19
     clear c19
     replace H := Option.bind_eq_some_iff.mp H
     obtain ⟨⟨t374, t375, t376, t377, t378⟩, A200, H⟩ := H
     replace H : (some (t374, t375, t376, t377, t378)) = some (r1, r2, r3, r4, r5) := H
     have A20 := Aside0.mk A200
     clear A200
     simp only [Option.some.injEq, Prod.mk.injEq] at H
     obtain ⟨rfl, rfl, rfl, rfl, rfl⟩ := H
     go_wp2_with (first | ((with_reducible refine gate_callee (f := 21) rfl ?_); refine goesL_ (some 52) rfl rfl Try.func21 (by kernel_rfl) rfl #[.slice A0 l0.length c0, .int .i64 a1] rfl (by (try simp only [List.map_toArray, List.map_cons, List.map_nil]); first | done | rfl | (simp only [List.length_drop, List.length_take]; rfl)) ?_; (with_reducible refine (quoinref05_Of.calls kj5 _ _ l0 a1 t371 t372 _ ?side1 ?side2 A17.out).mono ?_); (case side1 => repeat (first | exact (Kd.C_below HR0.out HB.out) | (with_reducible refine Kd.C_alloc ?_ _) | (with_reducible refine Kd.C_drewN ?_ _) | (with_reducible refine Kd.C_drew ?_))); (case side2 => exact HC0.out); rintro e w' ⟨rfl, ⟨nd, rfl⟩⟩; refine ⟨_, rfl, ?_⟩; (try (rw [drewN_self wc]; generalize hq_ : World.drewN wc _ = wc; have n0_ : Aside0 (wc.heap[gb369]? = some (.cells #[.int .i64 0, .int .i64 0, .int .i64 0] 29 (0, 0))) := ⟨by rw [← hq_]; exact (by (with_reducible repeat (first | refine blk_drewN ?_ _ | refine blk_drew ?_ | refine blk_alloc ?_ _)); exact BK369.out)⟩; have n1_ : Aside0 (Below w.heap.size w wc) := ⟨by rw [← hq_]; exact (by repeat (first | (with_reducible first | exact HB.out | apply below_alloc | apply pw_below_drewN | apply below_drew1 | refine below_set ?_ GE369.out) | exact HB.out))⟩; clear BK369 HB hq_; have BK369 := n0_; have HB := n1_; clear n0_ n1_)); (try have hcy369_0 : wc.cell? ⟨gb369, 0, none⟩ = some (.int .i64 0) := (blk_cell BK369.out 0).trans rfl); (try have hfy369_0 := blk_frozen BK369.out 0); (try have hcy369_1 : wc.cell? ⟨gb369, 1, none⟩ = some (.int .i64 0) := (blk_cell BK369.out 1).trans rfl); (try have hfy369_1 := blk_frozen BK369.out 1); (try have hcy369_2 : wc.cell? ⟨gb369, 2, none⟩ = some (.int .i64 0) := (blk_cell BK369.out 2).trans rfl); (try have hfy369_2 := blk_frozen BK369.out 2)) | ((with_reducible refine gate_callee (f := 22) rfl ?_); refine goesL_ (some 56) rfl rfl Try.func22 (by kernel_rfl) rfl #[.slice A0 l0.length c0] rfl (by (try simp only [List.map_toArray, List.map_cons, List.map_nil]); first | done | rfl | (simp only [List.length_drop, List.length_take]; rfl)) ?_; (with_reducible refine (quoinref05_Count.calls kj5 _ _ l0 t373 _ ?side1 ?side2 A18.out).mono ?_); (case side1 => repeat (first | exact (Kd.C_below HR0.out HB.out) | (with_reducible refine Kd.C_alloc ?_ _) | (with_reducible refine Kd.C_drewN ?_ _) | (with_reducible refine Kd.C_drew ?_))); (case side2 => exact HC0.out); rintro e w' ⟨rfl, ⟨nd, rfl⟩⟩; refine ⟨_, rfl, ?_⟩; (try (rw [drewN_self wc]; generalize hq_ : World.drewN wc _ = wc; have n0_ : Aside0 (wc.heap[gb369]? = some (.cells #[.int .i64 0, .int .i64 0, .int .i64 0] 29 (0, 0))) := ⟨by rw [← hq_]; exact (by (with_reducible repeat (first | refine blk_drewN ?_ _ | refine blk_drew ?_ | refine blk_alloc ?_ _)); exact BK369.out)⟩; have n1_ : Aside0 (Below w.heap.size w wc) := ⟨by rw [← hq_]; exact (by repeat (first | (with_reducible first | exact HB.out | apply below_alloc | apply pw_below_drewN | apply below_drew1 | refine below_set ?_ GE369.out) | exact HB.out))⟩; clear BK369 HB hq_; have BK369 := n0_; have HB := n1_; clear n0_ n1_)); (try have hcy369_0 : wc.cell? ⟨gb369, 0, none⟩ = some (.int .i64 0) := (blk_cell BK369.out 0).trans rfl); (try have hfy369_0 := blk_frozen BK369.out 0); (try have hcy369_1 : wc.cell? ⟨gb369, 1, none⟩ = some (.int .i64 0) := (blk_cell BK369.out 1).trans rfl); (try have hfy369_1 := blk_frozen BK369.out 1); (try have hcy369_2 : wc.cell? ⟨gb369, 2, none⟩ = some (.int .i64 0) := (blk_cell BK369.out 2).trans rfl); (try have hfy369_2 := blk_frozen BK369.out 2)) | ((with_reducible refine gate_callee (f := 23) rfl ?_); refine goesL_ (some 68) rfl rfl Try.func23 (by kernel_rfl) rfl #[.slice A0 l0.length c0, .int .i64 a1, .int .i64 (wrap64 (t371 + (ji16))), .int .i64 a2, .int .i64 (wrap64 (t373 - 1))] rfl (by (try simp only [List.map_toArray, List.map_cons, List.map_nil]); first | done | (simp only [hji16]; rfl) | rfl | (simp only [List.length_drop, List.length_take]; rfl)) ?_; (with_reducible refine (quoinref07_column.calls kj5 _ _ l0 a1 (wrap64 (t371 + (ji16))) a2 (wrap64 (t373 - 1)) t374 t375 t376 t377 t378 _ ?side1 ?side2 A20.out).mono ?_); (case side1 => repeat (first | exact (Kd.C_below HR0.out HB.out) | (with_reducible refine Kd.C_alloc ?_ _) | (with_reducible refine Kd.C_drewN ?_ _) | (with_reducible refine Kd.C_drew ?_))); (case side2 => exact HC0.out); rintro e w21 ⟨rfl, hb⟩; refine ⟨_, rfl, ?_⟩; have n0_ := Aside0.mk (blk_below (g := gb369) (o := .cells #[.int .i64 0, .int .i64 0, .int .i64 0] 29 (0, 0)) (by (with_reducible repeat (first | refine blk_drewN ?_ _ | refine blk_drew ?_ | refine blk_alloc ?_ _)); exact BK369.out) hb); have n1_ := Aside0.mk (below_step (by repeat (first | (with_reducible first | exact HB.out | apply below_alloc | apply pw_below_drewN | apply below_drew1 | refine below_set ?_ GE369.out) | exact HB.out)) hb); clear BK369; clear HB; have BK369 := n0_; have HB := n1_; clear n0_ n1_; (try clear hb); (try clear hb2); (try clear hk); (try clear hi); have hcz22_0 : w21.cell? ⟨gb369, 0, none⟩ = some (.int .i64 0) := (blk_cell BK369.out 0).trans rfl; have hcz22_1 : w21.cell? ⟨gb369, 1, none⟩ = some (.int .i64 0) := (blk_cell BK369.out 1).trans rfl; have hcz22_2 : w21.cell? ⟨gb369, 2, none⟩ = some (.int .i64 0) := (blk_cell BK369.out 2).trans rfl; have hfz22_0 := blk_frozen BK369.out 0; have hfz22_1 := blk_frozen BK369.out 1; have hfz22_2 := blk_frozen BK369.out 2))
     refine bodyPost_ret (results_ctt rfl _ _ gb369 29 #[.int .i64 t374, .int .i64 t375, .int .i64 t376] (0, 0) _ rfl (by (with_reducible repeat (first | refine blk_drewN ?_ _ | refine blk_drew ?_ | refine blk_alloc ?_ _)); refine blk_put (cs := #[.int .i64 t374, .int .i64 t375, .int .i64 0]) ?_ 2 _ rfl; (with_reducible repeat (first | refine blk_drewN ?_ _ | refine blk_drew ?_ | refine blk_alloc ?_ _)); refine blk_put (cs := #[.int .i64 t374, .int .i64 0, .int .i64 0]) ?_ 1 _ rfl; (with_reducible repeat (first | refine blk_drewN ?_ _ | refine blk_drew ?_ | refine blk_alloc ?_ _)); refine blk_put (cs := #[.int .i64 0, .int .i64 0, .int .i64 0]) ?_ 0 _ rfl; (with_reducible repeat (first | refine blk_drewN ?_ _ | refine blk_drew ?_ | refine blk_alloc ?_ _)); exact BK369.out) Try.underlying29 rfl (by kernel_rfl)) rfl ?_
     exact ⟨by first | rfl | (simp [errW_none, errW_some] <;> rfl) | (simp only [← hji16]; first | rfl | (simp [errW_none, errW_some] <;> rfl)) | (simp [*, errW_none, errW_some] <;> rfl), by repeat (first | (with_reducible first | exact HB.out | apply below_alloc | apply pw_below_drewN | apply below_drew1 | refine below_set ?_ GE369.out) | exact HB.out)⟩
    ·rw [if_neg c19] at H
     have c19b0 : (a4.toList == ([106] : List UInt8)) = false := beq_eq_false_iff_ne.mpr c19
     have c19b1 : (a4.toList != ([106] : List UInt8)) = true := bne_iff_ne.mpr c19
     by_cases c23 : a4.toList = ([107] : List UInt8)
     ·rw [if_pos c23] at H
      have c23b0 : (a4.toList == ([107] : List UInt8)) = true := beq_iff_eq.mpr c23
      have c23b1 : (a4.toList != ([107] : List UInt8)) = false := bne_eq_false_iff_eq.mpr c23
      clear c23
      replace H := Option.bind_eq_some_iff.mp H
      obtain ⟨⟨t379, t380, t381, t382, t383⟩, A240, H⟩ := H
      replace H : (some (t379, t380, t381, t382, t383)) = some (r1, r2, r3, r4, r5) := H
      have A24 := Aside0.mk A240
      clear A240
      simp only [Option.some.injEq, Prod.mk.injEq] at H
      obtain ⟨rfl, rfl, rfl, rfl, rfl⟩ := H
      go_wp2_with (first | ((with_reducible refine gate_callee (f := 21) rfl ?_); refine goesL_ (some 52) rfl rfl Try.func21 (by kernel_rfl) rfl #[.slice A0 l0.length c0, .int .i64 a1] rfl (by (try simp only [List.map_toArray, List.map_cons, List.map_nil]); first | done | rfl | (simp only [List.length_drop, List.length_take]; rfl)) ?_; (with_reducible refine (quoinref05_Of.calls kj5 _ _ l0 a1 t371 t372 _ ?side1 ?side2 A17.out).mono ?_); (case side1 => repeat (first | exact (Kd.C_below HR0.out HB.out) | (with_reducible refine Kd.C_alloc ?_ _) | (with_reducible refine Kd.C_drewN ?_ _) | (with_reducible refine Kd.C_drew ?_))); (case side2 => exact HC0.out); rintro e w' ⟨rfl, ⟨nd, rfl⟩⟩; refine ⟨_, rfl, ?_⟩; (try (rw [drewN_self wc]; generalize hq_ : World.drewN wc _ = wc; have n0_ : Aside0 (wc.heap[gb369]? = some (.cells #[.int .i64 0, .int .i64 0, .int .i64 0] 29 (0, 0))) := ⟨by rw [← hq_]; exact (by (with_reducible repeat (first | refine blk_drewN ?_ _ | refine blk_drew ?_ | refine blk_alloc ?_ _)); exact BK369.out)⟩; have n1_ : Aside0 (Below w.heap.size w wc) := ⟨by rw [← hq_]; exact (by repeat (first | (with_reducible first | exact HB.out | apply below_alloc | apply pw_below_drewN | apply below_drew1 | refine below_set ?_ GE369.out) | exact HB.out))⟩; clear BK369 HB hq_; have BK369 := n0_; have HB := n1_; clear n0_ n1_)); (try have hcy369_0 : wc.cell? ⟨gb369, 0, none⟩ = some (.int .i64 0) := (blk_cell BK369.out 0).trans rfl); (try have hfy369_0 := blk_frozen BK369.out 0); (try have hcy369_1 : wc.cell? ⟨gb369, 1, none⟩ = some (.int .i64 0) := (blk_cell BK369.out 1).trans rfl); (try have hfy369_1 := blk_frozen BK369.out 1); (try have hcy369_2 : wc.cell? ⟨gb369, 2, none⟩ = some (.int .i64 0) := (blk_cell BK369.out 2).trans rfl); (try have hfy369_2 := blk_frozen BK369.out 2)) | ((with_reducible refine gate_callee (f := 22) rfl ?_); refine goesL_ (some 56) rfl rfl Try.func22 (by kernel_rfl) rfl #[.slice A0 l0.length c0] rfl (by (try simp only [List.map_toArray, List.map_cons, List.map_nil]); first | done | rfl | (simp only [List.length_drop, List.length_take]; rfl)) ?_; (with_reducible refine (quoinref05_Count.calls kj5 _ _ l0 t373 _ ?side1 ?side2 A18.out).mono ?_); (case side1 => repeat (first | exact (Kd.C_below HR0.out HB.out) | (with_reducible refine Kd.C_alloc ?_ _) | (with_reducible refine Kd.C_drewN ?_ _) | (with_reducible refine Kd.C_drew ?_))); (case side2 => exact HC0.out); rintro e w' ⟨rfl, ⟨nd, rfl⟩⟩; refine ⟨_, rfl, ?_⟩; (try (rw [drewN_self wc]; generalize hq_ : World.drewN wc _ = wc; have n0_ : Aside0 (wc.heap[gb369]? = some (.cells #[.int .i64 0, .int .i64 0, .int .i64 0] 29 (0, 0))) := ⟨by rw [← hq_]; exact (by (with_reducible repeat (first | refine blk_drewN ?_ _ | refine blk_drew ?_ | refine blk_alloc ?_ _)); exact BK369.out)⟩; have n1_ : Aside0 (Below w.heap.size w wc) := ⟨by rw [← hq_]; exact (by repeat (first | (with_reducible first | exact HB.out | apply below_alloc | apply pw_below_drewN | apply below_drew1 | refine below_set ?_ GE369.out) | exact HB.out))⟩; clear BK369 HB hq_; have BK369 := n0_; have HB := n1_; clear n0_ n1_)); (try have hcy369_0 : wc.cell? ⟨gb369, 0, none⟩ = some (.int .i64 0) := (blk_cell BK369.out 0).trans rfl); (try have hfy369_0 := blk_frozen BK369.out 0); (try have hcy369_1 : wc.cell? ⟨gb369, 1, none⟩ = some (.int .i64 0) := (blk_cell BK369.out 1).trans rfl); (try have hfy369_1 := blk_frozen BK369.out 1); (try have hcy369_2 : wc.cell? ⟨gb369, 2, none⟩ = some (.int .i64 0) := (blk_cell BK369.out 2).trans rfl); (try have hfy369_2 := blk_frozen BK369.out 2)) | ((with_reducible refine gate_callee (f := 23) rfl ?_); refine goesL_ (some 81) rfl rfl Try.func23 (by kernel_rfl) rfl #[.slice A0 l0.length c0, .int .i64 a1, .int .i64 (wrap64 (t371 - (ji16))), .int .i64 a2, .int .i64 (wrap64 (t373 - 1))] rfl (by (try simp only [List.map_toArray, List.map_cons, List.map_nil]); first | done | (simp only [hji16]; rfl) | rfl | (simp only [List.length_drop, List.length_take]; rfl)) ?_; (with_reducible refine (quoinref07_column.calls kj5 _ _ l0 a1 (wrap64 (t371 - (ji16))) a2 (wrap64 (t373 - 1)) t379 t380 t381 t382 t383 _ ?side1 ?side2 A24.out).mono ?_); (case side1 => repeat (first | exact (Kd.C_below HR0.out HB.out) | (with_reducible refine Kd.C_alloc ?_ _) | (with_reducible refine Kd.C_drewN ?_ _) | (with_reducible refine Kd.C_drew ?_))); (case side2 => exact HC0.out); rintro e w25 ⟨rfl, hb⟩; refine ⟨_, rfl, ?_⟩; have n0_ := Aside0.mk (blk_below (g := gb369) (o := .cells #[.int .i64 0, .int .i64 0, .int .i64 0] 29 (0, 0)) (by (with_reducible repeat (first | refine blk_drewN ?_ _ | refine blk_drew ?_ | refine blk_alloc ?_ _)); exact BK369.out) hb); have n1_ := Aside0.mk (below_step (by repeat (first | (with_reducible first | exact HB.out | apply below_alloc | apply pw_below_drewN | apply below_drew1 | refine below_set ?_ GE369.out) | exact HB.out)) hb); clear BK369; clear HB; have BK369 := n0_; have HB := n1_; clear n0_ n1_; (try clear hb); (try clear hb2); (try clear hk); (try clear hi); have hcz26_0 : w25.cell? ⟨gb369, 0, none⟩ = some (.int .i64 0) := (blk_cell BK369.out 0).trans rfl; have hcz26_1 : w25.cell? ⟨gb369, 1, none⟩ = some (.int .i64 0) := (blk_cell BK369.out 1).trans rfl; have hcz26_2 : w25.cell? ⟨gb369, 2, none⟩ = some (.int .i64 0) := (blk_cell BK369.out 2).trans rfl; have hfz26_0 := blk_frozen BK369.out 0; have hfz26_1 := blk_frozen BK369.out 1; have hfz26_2 := blk_frozen BK369.out 2))
      refine bodyPost_ret (results_ctt rfl _ _ gb369 29 #[.int .i64 t379, .int .i64 t380, .int .i64 t381] (0, 0) _ rfl (by (with_reducible repeat (first | refine blk_drewN ?_ _ | refine blk_drew ?_ | refine blk_alloc ?_ _)); refine blk_put (cs := #[.int .i64 t379, .int .i64 t380, .int .i64 0]) ?_ 2 _ rfl; (with_reducible repeat (first | refine blk_drewN ?_ _ | refine blk_drew ?_ | refine blk_alloc ?_ _)); refine blk_put (cs := #[.int .i64 t379, .int .i64 0, .int .i64 0]) ?_ 1 _ rfl; (with_reducible repeat (first | refine blk_drewN ?_ _ | refine blk_drew ?_ | refine blk_alloc ?_ _)); refine blk_put (cs := #[.int .i64 0, .int .i64 0, .int .i64 0]) ?_ 0 _ rfl; (with_reducible repeat (first | refine blk_drewN ?_ _ | refine blk_drew ?_ | refine blk_alloc ?_ _)); exact BK369.out) Try.underlying29 rfl (by kernel_rfl)) rfl ?_
      exact ⟨by first | rfl | (simp [errW_none, errW_some] <;> rfl) | (simp only [← hji16]; first | rfl | (simp [errW_none, errW_some] <;> rfl)) | (simp [*, errW_none, errW_some] <;> rfl), by repeat (first | (with_reducible first | exact HB.out | apply below_alloc | apply pw_below_drewN | apply below_drew1 | refine below_set ?_ GE369.out) | exact HB.out)⟩
     ·rw [if_neg c23] at H
      have c23b0 : (a4.toList == ([107] : List UInt8)) = false := beq_eq_false_iff_ne.mpr c23
      have c23b1 : (a4.toList != ([107] : List UInt8)) = true := bne_iff_ne.mpr c23
      have HC27 := Aside0.mk H
      clear H
      go_upto_if 85 with (first | ((with_reducible refine gate_callee (f := 21) rfl ?_); refine goesL_ (some 52) rfl rfl Try.func21 (by kernel_rfl) rfl #[.slice A0 l0.length c0, .int .i64 a1] rfl (by (try simp only [List.map_toArray, List.map_cons, List.map_nil]); first | done | rfl | (simp only [List.length_drop, List.length_take]; rfl)) ?_; (with_reducible refine (quoinref05_Of.calls kj5 _ _ l0 a1 t371 t372 _ ?side1 ?side2 A17.out).mono ?_); (case side1 => repeat (first | exact (Kd.C_below HR0.out HB.out) | (with_reducible refine Kd.C_alloc ?_ _) | (with_reducible refine Kd.C_drewN ?_ _) | (with_reducible refine Kd.C_drew ?_))); (case side2 => exact HC0.out); rintro e w' ⟨rfl, ⟨nd, rfl⟩⟩; refine ⟨_, rfl, ?_⟩) | ((with_reducible refine gate_callee (f := 22) rfl ?_); refine goesL_ (some 56) rfl rfl Try.func22 (by kernel_rfl) rfl #[.slice A0 l0.length c0] rfl (by (try simp only [List.map_toArray, List.map_cons, List.map_nil]); first | done | rfl | (simp only [List.length_drop, List.length_take]; rfl)) ?_; (with_reducible refine (quoinref05_Count.calls kj5 _ _ l0 t373 _ ?side1 ?side2 A18.out).mono ?_); (case side1 => repeat (first | exact (Kd.C_below HR0.out (by repeat (first | (with_reducible first | exact HB.out | apply below_alloc | apply pw_below_drewN | apply below_drew1 | refine below_set ?_ GE369.out) | exact HB.out))) | (with_reducible refine Kd.C_alloc ?_ _) | (with_reducible refine Kd.C_drewN ?_ _) | (with_reducible refine Kd.C_drew ?_))); (case side2 => exact HC0.out); rintro e w' ⟨rfl, ⟨nd, rfl⟩⟩; refine ⟨_, rfl, ?_⟩))
      (try simp only [Act.put, List.setIfInBounds_toArray, List.set_cons_zero, List.set_cons_succ])
      go_cut [85] (fun v85 wc => ∃ (kq : Nat) (x85_26 : Bool), v85 = .bool x85_26 ∧ Aside0 (quoinref07_Move.j1 kq l0 a1 a3 a4 ji16 t371 (wrap64 (t373 - 1)) a4 x85_26 = some (r1, r2, r3, r4, r5)) ∧ Aside0 (kq ≤ kj5) ∧ Aside0 (wc.heap[gb369]? = some (.cells #[.int .i64 0, .int .i64 0, .int .i64 0] 29 (0, 0))) ∧ Aside0 (Below w.heap.size w wc))
      case first =>
       have H := HC27.out
       clear HC27
       by_cases c28 : a4.toList = ([43] : List UInt8)
       ·rw [if_pos c28] at H
        have c28b0 : (a4.toList == ([43] : List UInt8)) = true := beq_iff_eq.mpr c28
        have c28b1 : (a4.toList != ([43] : List UInt8)) = false := bne_eq_false_iff_eq.mpr c28
        clear c28
        (first | rw [c28b0] | (simp only [i64_w, i32_w]; rw [c28b0]) | skip)
        have H' := Aside0.mk H
        clear H
        go_wp2
        go_meet
        case rel => exact ⟨_, ((a4.toList == ([43] : List UInt8))), (by first | rfl | (simp; done) | (simp [*]; done)), H', ⟨by have := HJ5.out; first | omega | exact Nat.le_refl _⟩, ⟨by (with_reducible repeat (first | refine blk_drewN ?_ _ | refine blk_drew ?_ | refine blk_alloc ?_ _)); exact BK369.out⟩, ⟨by repeat (first | (with_reducible first | exact HB.out | apply below_alloc | apply pw_below_drewN | apply below_drew1 | refine below_set ?_ GE369.out) | exact HB.out)⟩⟩
       ·rw [if_neg c28] at H
        have c28b0 : (a4.toList == ([43] : List UInt8)) = false := beq_eq_false_iff_ne.mpr c28
        have c28b1 : (a4.toList != ([43] : List UInt8)) = true := bne_iff_ne.mpr c28
        (first | rw [c28b0] | (simp only [i64_w, i32_w]; rw [c28b0]) | skip)
        have H' := Aside0.mk H
        clear H
        go_wp2
        go_meet
        case rel => exact ⟨_, ((a4.toList == ([13] : List UInt8))), (by first | rfl | (simp; done) | (simp [*]; done)), H', ⟨by have := HJ5.out; first | omega | exact Nat.le_refl _⟩, ⟨by (with_reducible repeat (first | refine blk_drewN ?_ _ | refine blk_drew ?_ | refine blk_alloc ?_ _)); exact BK369.out⟩, ⟨by repeat (first | (with_reducible first | exact HB.out | apply below_alloc | apply pw_below_drewN | apply below_drew1 | refine below_set ?_ GE369.out) | exact HB.out)⟩⟩
      case rest =>
       clear HC27
       try clear c1
       try clear c2
       try clear p2
       try clear p6
       try clear c8
       try clear c8b0
       try clear c9
       try clear c9b0
       try clear c10
       try clear c10b0
       try clear c11
       try clear c11b0
       try clear c12
       try clear c12b0
       try clear c14
       try clear c19
       try clear c19b0
       try clear c19b1
       try clear c21
       try clear c22
       try clear c23
       try clear c23b0
       try clear c23b1
       try clear c28
       try clear c28b0
       try clear c28b1
       try clear hcz15_0
       try clear hcz15_1
       try clear hcz15_2
       try clear hcz22_0
       try clear hcz22_1
       try clear hcz22_2
       try clear hcz26_0
       try clear hcz26_1
       try clear hcz26_2
       try clear hfz15_0
       try clear hfz15_1
       try clear hfz15_2
       try clear hfz22_0
       try clear hfz22_1
       try clear hfz22_2
       try clear hfz26_0
       try clear hfz26_1
       try clear hfz26_2
       try clear p2
       obtain ⟨kq, x85_26, rfl, HA, HJ26, BK369, HB⟩ := hcut
       cases kq with
       | zero => exact absurd HA.out (by simp [quoinref07_Move.j1])
       | succ kj26 =>
        have H := HA.out
        clear HA
        simp only [quoinref07_Move.j1] at H
        by_cases c29 : x85_26 = true
        ·subst c29
         have H1 : ((quoinref07_first.f kj26 l0 a1 (wrap64 (t371 + ji16)) (wrap64 (t373 - 1))).bind fun bt384 => (some (bt384.1, bt384.2.1, bt384.2.2.1, bt384.2.2.2.1, bt384.2.2.2.2))) = some (r1, r2, r3, r4, r5) := by rw [if_pos rfl] at H; exact H
         clear H
         have H := H1
         clear H1
         replace H := Option.bind_eq_some_iff.mp H
         obtain ⟨⟨t384, t385, t386, t387, t388⟩, A300, H⟩ := H
         replace H : (some (t384, t385, t386, t387, t388)) = some (r1, r2, r3, r4, r5) := H
         have A30 := Aside0.mk A300
         clear A300
         simp only [Option.some.injEq, Prod.mk.injEq] at H
         obtain ⟨rfl, rfl, rfl, rfl, rfl⟩ := H
         go_wp2_with (first | ((with_reducible refine gate_callee (f := 24) rfl ?_); refine goesL_ (some 94) rfl rfl Try.func24 (by kernel_rfl) rfl #[.slice A0 l0.length c0, .int .i64 a1, .int .i64 (wrap64 (t371 + ji16)), .int .i64 (wrap64 (t373 - 1))] rfl (by (try simp only [List.map_toArray, List.map_cons, List.map_nil]); first | done | (simp only [hji16]; rfl) | rfl | (simp only [List.length_drop, List.length_take]; rfl)) ?_; (with_reducible refine (quoinref07_first.calls kj26 _ _ l0 a1 (wrap64 (t371 + ji16)) (wrap64 (t373 - 1)) t384 t385 t386 t387 t388 _ ?side1 ?side2 A30.out).mono ?_); (case side1 => repeat (first | exact (Kd.C_below HR0.out HB.out) | (with_reducible refine Kd.C_alloc ?_ _) | (with_reducible refine Kd.C_drewN ?_ _) | (with_reducible refine Kd.C_drew ?_))); (case side2 => exact HC0.out); rintro e w31 ⟨rfl, hb⟩; refine ⟨_, rfl, ?_⟩; have n0_ := Aside0.mk (blk_below (g := gb369) (o := .cells #[.int .i64 0, .int .i64 0, .int .i64 0] 29 (0, 0)) (by (with_reducible repeat (first | refine blk_drewN ?_ _ | refine blk_drew ?_ | refine blk_alloc ?_ _)); exact BK369.out) hb); have n1_ := Aside0.mk (below_step (by repeat (first | (with_reducible first | exact HB.out | apply below_alloc | apply pw_below_drewN | apply below_drew1 | refine below_set ?_ GE369.out) | exact HB.out)) hb); clear BK369; clear HB; have BK369 := n0_; have HB := n1_; clear n0_ n1_; (try clear hb); (try clear hb2); (try clear hk); (try clear hi); have hcz32_0 : w31.cell? ⟨gb369, 0, none⟩ = some (.int .i64 0) := (blk_cell BK369.out 0).trans rfl; have hcz32_1 : w31.cell? ⟨gb369, 1, none⟩ = some (.int .i64 0) := (blk_cell BK369.out 1).trans rfl; have hcz32_2 : w31.cell? ⟨gb369, 2, none⟩ = some (.int .i64 0) := (blk_cell BK369.out 2).trans rfl; have hfz32_0 := blk_frozen BK369.out 0; have hfz32_1 := blk_frozen BK369.out 1; have hfz32_2 := blk_frozen BK369.out 2))
         refine bodyPost_ret (results_ctt rfl _ _ gb369 29 #[.int .i64 t384, .int .i64 t385, .int .i64 t386] (0, 0) _ rfl (by (with_reducible repeat (first | refine blk_drewN ?_ _ | refine blk_drew ?_ | refine blk_alloc ?_ _)); refine blk_put (cs := #[.int .i64 t384, .int .i64 t385, .int .i64 0]) ?_ 2 _ rfl; (with_reducible repeat (first | refine blk_drewN ?_ _ | refine blk_drew ?_ | refine blk_alloc ?_ _)); refine blk_put (cs := #[.int .i64 t384, .int .i64 0, .int .i64 0]) ?_ 1 _ rfl; (with_reducible repeat (first | refine blk_drewN ?_ _ | refine blk_drew ?_ | refine blk_alloc ?_ _)); refine blk_put (cs := #[.int .i64 0, .int .i64 0, .int .i64 0]) ?_ 0 _ rfl; (with_reducible repeat (first | refine blk_drewN ?_ _ | refine blk_drew ?_ | refine blk_alloc ?_ _)); exact BK369.out) Try.underlying29 rfl (by kernel_rfl)) rfl ?_
         exact ⟨by first | rfl | (simp [errW_none, errW_some] <;> rfl) | (simp only [← hji16]; first | rfl | (simp [errW_none, errW_some] <;> rfl)) | (simp [*, errW_none, errW_some] <;> rfl), by repeat (first | (with_reducible first | exact HB.out | apply below_alloc | apply pw_below_drewN | apply below_drew1 | refine below_set ?_ GE369.out) | exact HB.out)⟩
        ·replace c29 := Bool.eq_false_iff.mpr c29
         subst c29
         have H1 : (if a4.toList = ([45] : List UInt8) then ((quoinref07_first.f kj26 l0 a1 (wrap64 (t371 - ji16)) (wrap64 (t373 - 1))).bind fun bt389 => (some (bt389.1, bt389.2.1, bt389.2.2.1, bt389.2.2.2.1, bt389.2.2.2.2))) else (if a4.toList = ([95] : List UInt8) then ((quoinref07_first.f kj26 l0 a1 (wrap64 ((wrap64 (t371 + ji16)) - 1)) (wrap64 (t373 - 1))).bind fun bt394 => (some (bt394.1, bt394.2.1, bt394.2.2.1, bt394.2.2.2.1, bt394.2.2.2.2))) else (if a4.toList = ([103, 103] : List UInt8) then ((quoinref07_first.f kj26 l0 a1 (wrap64 (ji16 - 1)) (wrap64 (t373 - 1))).bind fun bt399 => (some (bt399.1, bt399.2.1, bt399.2.2.1, bt399.2.2.2.1, bt399.2.2.2.2))) else (if a4.toList = ([71] : List UInt8) then (if a3 = 0 then ((quoinref07_first.f kj26 l0 a1 (wrap64 (t373 - 1)) (wrap64 (t373 - 1))).bind fun bt404 => (some (bt404.1, bt404.2.1, bt404.2.2.1, bt404.2.2.2.1, bt404.2.2.2.2))) else ((quoinref07_first.f kj26 l0 a1 (wrap64 (ji16 - 1)) (wrap64 (t373 - 1))).bind fun bt409 => (some (bt409.1, bt409.2.1, bt409.2.2.1, bt409.2.2.2.1, bt409.2.2.2.2)))) else (if a4.toList = ([36] : List UInt8) then (if (wrap64 ((wrap64 (t371 + ji16)) - 1)) > (wrap64 (t373 - 1)) then (some (0, 0, 0, 0, 70)) else ((quoinref05_End.f kj26 l0 (wrap64 ((wrap64 (t371 + ji16)) - 1))).bind fun bt414 => (some (a1, bt414.1, 1, (-1), 0)))) else (if a4.toList = ([124] : List UInt8) then ((quoinref05_At.f kj26 l0 t371 (wrap64 (ji16 - 1))).bind fun bt416 => (some (a1, bt416.1, 1, wrap64 (ji16 - 1), 0))) else ((quoinref07_along.f kj26 l0 a1 ji16 t371 a4).bind fun bt418 => (some (bt418.1, bt418.2.1, bt418.2.2.1, bt418.2.2.2.1, bt418.2.2.2.2))))))))) = some (r1, r2, r3, r4, r5) := by rw [if_neg (show ¬ (false = true) by decide)] at H; exact H
         clear H
         have H := H1
         clear H1
         by_cases c33 : a4.toList = ([45] : List UInt8)
         ·rw [if_pos c33] at H
          have c33b0 : (a4.toList == ([45] : List UInt8)) = true := beq_iff_eq.mpr c33
          have c33b1 : (a4.toList != ([45] : List UInt8)) = false := bne_eq_false_iff_eq.mpr c33
          clear c33
          replace H := Option.bind_eq_some_iff.mp H
          obtain ⟨⟨t389, t390, t391, t392, t393⟩, A340, H⟩ := H
          replace H : (some (t389, t390, t391, t392, t393)) = some (r1, r2, r3, r4, r5) := H
          have A34 := Aside0.mk A340
          clear A340
          simp only [Option.some.injEq, Prod.mk.injEq] at H
          obtain ⟨rfl, rfl, rfl, rfl, rfl⟩ := H
          go_wp2_with (first | ((with_reducible refine gate_callee (f := 24) rfl ?_); refine goesL_ (some 106) rfl rfl Try.func24 (by kernel_rfl) rfl #[.slice A0 l0.length c0, .int .i64 a1, .int .i64 (wrap64 (t371 - ji16)), .int .i64 (wrap64 (t373 - 1))] rfl (by (try simp only [List.map_toArray, List.map_cons, List.map_nil]); first | done | (simp only [hji16]; rfl) | rfl | (simp only [List.length_drop, List.length_take]; rfl)) ?_; (with_reducible refine (quoinref07_first.calls kj26 _ _ l0 a1 (wrap64 (t371 - ji16)) (wrap64 (t373 - 1)) t389 t390 t391 t392 t393 _ ?side1 ?side2 A34.out).mono ?_); (case side1 => repeat (first | exact (Kd.C_below HR0.out HB.out) | (with_reducible refine Kd.C_alloc ?_ _) | (with_reducible refine Kd.C_drewN ?_ _) | (with_reducible refine Kd.C_drew ?_))); (case side2 => exact HC0.out); rintro e w35 ⟨rfl, hb⟩; refine ⟨_, rfl, ?_⟩; have n0_ := Aside0.mk (blk_below (g := gb369) (o := .cells #[.int .i64 0, .int .i64 0, .int .i64 0] 29 (0, 0)) (by (with_reducible repeat (first | refine blk_drewN ?_ _ | refine blk_drew ?_ | refine blk_alloc ?_ _)); exact BK369.out) hb); have n1_ := Aside0.mk (below_step (by repeat (first | (with_reducible first | exact HB.out | apply below_alloc | apply pw_below_drewN | apply below_drew1 | refine below_set ?_ GE369.out) | exact HB.out)) hb); clear BK369; clear HB; have BK369 := n0_; have HB := n1_; clear n0_ n1_; (try clear hb); (try clear hb2); (try clear hk); (try clear hi); have hcz36_0 : w35.cell? ⟨gb369, 0, none⟩ = some (.int .i64 0) := (blk_cell BK369.out 0).trans rfl; have hcz36_1 : w35.cell? ⟨gb369, 1, none⟩ = some (.int .i64 0) := (blk_cell BK369.out 1).trans rfl; have hcz36_2 : w35.cell? ⟨gb369, 2, none⟩ = some (.int .i64 0) := (blk_cell BK369.out 2).trans rfl; have hfz36_0 := blk_frozen BK369.out 0; have hfz36_1 := blk_frozen BK369.out 1; have hfz36_2 := blk_frozen BK369.out 2))
          refine bodyPost_ret (results_ctt rfl _ _ gb369 29 #[.int .i64 t389, .int .i64 t390, .int .i64 t391] (0, 0) _ rfl (by (with_reducible repeat (first | refine blk_drewN ?_ _ | refine blk_drew ?_ | refine blk_alloc ?_ _)); refine blk_put (cs := #[.int .i64 t389, .int .i64 t390, .int .i64 0]) ?_ 2 _ rfl; (with_reducible repeat (first | refine blk_drewN ?_ _ | refine blk_drew ?_ | refine blk_alloc ?_ _)); refine blk_put (cs := #[.int .i64 t389, .int .i64 0, .int .i64 0]) ?_ 1 _ rfl; (with_reducible repeat (first | refine blk_drewN ?_ _ | refine blk_drew ?_ | refine blk_alloc ?_ _)); refine blk_put (cs := #[.int .i64 0, .int .i64 0, .int .i64 0]) ?_ 0 _ rfl; (with_reducible repeat (first | refine blk_drewN ?_ _ | refine blk_drew ?_ | refine blk_alloc ?_ _)); exact BK369.out) Try.underlying29 rfl (by kernel_rfl)) rfl ?_
          exact ⟨by first | rfl | (simp [errW_none, errW_some] <;> rfl) | (simp only [← hji16]; first | rfl | (simp [errW_none, errW_some] <;> rfl)) | (simp [*, errW_none, errW_some] <;> rfl), by repeat (first | (with_reducible first | exact HB.out | apply below_alloc | apply pw_below_drewN | apply below_drew1 | refine below_set ?_ GE369.out) | exact HB.out)⟩
         ·rw [if_neg c33] at H
          have c33b0 : (a4.toList == ([45] : List UInt8)) = false := beq_eq_false_iff_ne.mpr c33
          have c33b1 : (a4.toList != ([45] : List UInt8)) = true := bne_iff_ne.mpr c33
          by_cases c37 : a4.toList = ([95] : List UInt8)
          ·rw [if_pos c37] at H
           have c37b0 : (a4.toList == ([95] : List UInt8)) = true := beq_iff_eq.mpr c37
           have c37b1 : (a4.toList != ([95] : List UInt8)) = false := bne_eq_false_iff_eq.mpr c37
           clear c37
           replace H := Option.bind_eq_some_iff.mp H
           obtain ⟨⟨t394, t395, t396, t397, t398⟩, A380, H⟩ := H
           replace H : (some (t394, t395, t396, t397, t398)) = some (r1, r2, r3, r4, r5) := H
           have A38 := Aside0.mk A380
           clear A380
           simp only [Option.some.injEq, Prod.mk.injEq] at H
           obtain ⟨rfl, rfl, rfl, rfl, rfl⟩ := H
           go_wp2_with (first | ((with_reducible refine gate_callee (f := 24) rfl ?_); refine goesL_ (some 119) rfl rfl Try.func24 (by kernel_rfl) rfl #[.slice A0 l0.length c0, .int .i64 a1, .int .i64 (wrap64 ((wrap64 (t371 + ji16)) - 1)), .int .i64 (wrap64 (t373 - 1))] rfl (by (try simp only [List.map_toArray, List.map_cons, List.map_nil]); first | done | (simp only [hji16]; rfl) | rfl | (simp only [List.length_drop, List.length_take]; rfl)) ?_; (with_reducible refine (quoinref07_first.calls kj26 _ _ l0 a1 (wrap64 ((wrap64 (t371 + ji16)) - 1)) (wrap64 (t373 - 1)) t394 t395 t396 t397 t398 _ ?side1 ?side2 A38.out).mono ?_); (case side1 => repeat (first | exact (Kd.C_below HR0.out HB.out) | (with_reducible refine Kd.C_alloc ?_ _) | (with_reducible refine Kd.C_drewN ?_ _) | (with_reducible refine Kd.C_drew ?_))); (case side2 => exact HC0.out); rintro e w39 ⟨rfl, hb⟩; refine ⟨_, rfl, ?_⟩; have n0_ := Aside0.mk (blk_below (g := gb369) (o := .cells #[.int .i64 0, .int .i64 0, .int .i64 0] 29 (0, 0)) (by (with_reducible repeat (first | refine blk_drewN ?_ _ | refine blk_drew ?_ | refine blk_alloc ?_ _)); exact BK369.out) hb); have n1_ := Aside0.mk (below_step (by repeat (first | (with_reducible first | exact HB.out | apply below_alloc | apply pw_below_drewN | apply below_drew1 | refine below_set ?_ GE369.out) | exact HB.out)) hb); clear BK369; clear HB; have BK369 := n0_; have HB := n1_; clear n0_ n1_; (try clear hb); (try clear hb2); (try clear hk); (try clear hi); have hcz40_0 : w39.cell? ⟨gb369, 0, none⟩ = some (.int .i64 0) := (blk_cell BK369.out 0).trans rfl; have hcz40_1 : w39.cell? ⟨gb369, 1, none⟩ = some (.int .i64 0) := (blk_cell BK369.out 1).trans rfl; have hcz40_2 : w39.cell? ⟨gb369, 2, none⟩ = some (.int .i64 0) := (blk_cell BK369.out 2).trans rfl; have hfz40_0 := blk_frozen BK369.out 0; have hfz40_1 := blk_frozen BK369.out 1; have hfz40_2 := blk_frozen BK369.out 2))
           refine bodyPost_ret (results_ctt rfl _ _ gb369 29 #[.int .i64 t394, .int .i64 t395, .int .i64 t396] (0, 0) _ rfl (by (with_reducible repeat (first | refine blk_drewN ?_ _ | refine blk_drew ?_ | refine blk_alloc ?_ _)); refine blk_put (cs := #[.int .i64 t394, .int .i64 t395, .int .i64 0]) ?_ 2 _ rfl; (with_reducible repeat (first | refine blk_drewN ?_ _ | refine blk_drew ?_ | refine blk_alloc ?_ _)); refine blk_put (cs := #[.int .i64 t394, .int .i64 0, .int .i64 0]) ?_ 1 _ rfl; (with_reducible repeat (first | refine blk_drewN ?_ _ | refine blk_drew ?_ | refine blk_alloc ?_ _)); refine blk_put (cs := #[.int .i64 0, .int .i64 0, .int .i64 0]) ?_ 0 _ rfl; (with_reducible repeat (first | refine blk_drewN ?_ _ | refine blk_drew ?_ | refine blk_alloc ?_ _)); exact BK369.out) Try.underlying29 rfl (by kernel_rfl)) rfl ?_
           exact ⟨by first | rfl | (simp [errW_none, errW_some] <;> rfl) | (simp only [← hji16]; first | rfl | (simp [errW_none, errW_some] <;> rfl)) | (simp [*, errW_none, errW_some] <;> rfl), by repeat (first | (with_reducible first | exact HB.out | apply below_alloc | apply pw_below_drewN | apply below_drew1 | refine below_set ?_ GE369.out) | exact HB.out)⟩
          ·rw [if_neg c37] at H
           have c37b0 : (a4.toList == ([95] : List UInt8)) = false := beq_eq_false_iff_ne.mpr c37
           have c37b1 : (a4.toList != ([95] : List UInt8)) = true := bne_iff_ne.mpr c37
           by_cases c41 : a4.toList = ([103, 103] : List UInt8)
           ·rw [if_pos c41] at H
            have c41b0 : (a4.toList == ([103, 103] : List UInt8)) = true := beq_iff_eq.mpr c41
            have c41b1 : (a4.toList != ([103, 103] : List UInt8)) = false := bne_eq_false_iff_eq.mpr c41
            clear c41
            replace H := Option.bind_eq_some_iff.mp H
            obtain ⟨⟨t399, t400, t401, t402, t403⟩, A420, H⟩ := H
            replace H : (some (t399, t400, t401, t402, t403)) = some (r1, r2, r3, r4, r5) := H
            have A42 := Aside0.mk A420
            clear A420
            simp only [Option.some.injEq, Prod.mk.injEq] at H
            obtain ⟨rfl, rfl, rfl, rfl, rfl⟩ := H
            go_wp2_with (first | ((with_reducible refine gate_callee (f := 24) rfl ?_); refine goesL_ (some 130) rfl rfl Try.func24 (by kernel_rfl) rfl #[.slice A0 l0.length c0, .int .i64 a1, .int .i64 (wrap64 (ji16 - 1)), .int .i64 (wrap64 (t373 - 1))] rfl (by (try simp only [List.map_toArray, List.map_cons, List.map_nil]); first | done | (simp only [hji16]; rfl) | rfl | (simp only [List.length_drop, List.length_take]; rfl)) ?_; (with_reducible refine (quoinref07_first.calls kj26 _ _ l0 a1 (wrap64 (ji16 - 1)) (wrap64 (t373 - 1)) t399 t400 t401 t402 t403 _ ?side1 ?side2 A42.out).mono ?_); (case side1 => repeat (first | exact (Kd.C_below HR0.out HB.out) | (with_reducible refine Kd.C_alloc ?_ _) | (with_reducible refine Kd.C_drewN ?_ _) | (with_reducible refine Kd.C_drew ?_))); (case side2 => exact HC0.out); rintro e w43 ⟨rfl, hb⟩; refine ⟨_, rfl, ?_⟩; have n0_ := Aside0.mk (blk_below (g := gb369) (o := .cells #[.int .i64 0, .int .i64 0, .int .i64 0] 29 (0, 0)) (by (with_reducible repeat (first | refine blk_drewN ?_ _ | refine blk_drew ?_ | refine blk_alloc ?_ _)); exact BK369.out) hb); have n1_ := Aside0.mk (below_step (by repeat (first | (with_reducible first | exact HB.out | apply below_alloc | apply pw_below_drewN | apply below_drew1 | refine below_set ?_ GE369.out) | exact HB.out)) hb); clear BK369; clear HB; have BK369 := n0_; have HB := n1_; clear n0_ n1_; (try clear hb); (try clear hb2); (try clear hk); (try clear hi); have hcz44_0 : w43.cell? ⟨gb369, 0, none⟩ = some (.int .i64 0) := (blk_cell BK369.out 0).trans rfl; have hcz44_1 : w43.cell? ⟨gb369, 1, none⟩ = some (.int .i64 0) := (blk_cell BK369.out 1).trans rfl; have hcz44_2 : w43.cell? ⟨gb369, 2, none⟩ = some (.int .i64 0) := (blk_cell BK369.out 2).trans rfl; have hfz44_0 := blk_frozen BK369.out 0; have hfz44_1 := blk_frozen BK369.out 1; have hfz44_2 := blk_frozen BK369.out 2))
            refine bodyPost_ret (results_ctt rfl _ _ gb369 29 #[.int .i64 t399, .int .i64 t400, .int .i64 t401] (0, 0) _ rfl (by (with_reducible repeat (first | refine blk_drewN ?_ _ | refine blk_drew ?_ | refine blk_alloc ?_ _)); refine blk_put (cs := #[.int .i64 t399, .int .i64 t400, .int .i64 0]) ?_ 2 _ rfl; (with_reducible repeat (first | refine blk_drewN ?_ _ | refine blk_drew ?_ | refine blk_alloc ?_ _)); refine blk_put (cs := #[.int .i64 t399, .int .i64 0, .int .i64 0]) ?_ 1 _ rfl; (with_reducible repeat (first | refine blk_drewN ?_ _ | refine blk_drew ?_ | refine blk_alloc ?_ _)); refine blk_put (cs := #[.int .i64 0, .int .i64 0, .int .i64 0]) ?_ 0 _ rfl; (with_reducible repeat (first | refine blk_drewN ?_ _ | refine blk_drew ?_ | refine blk_alloc ?_ _)); exact BK369.out) Try.underlying29 rfl (by kernel_rfl)) rfl ?_
            exact ⟨by first | rfl | (simp [errW_none, errW_some] <;> rfl) | (simp only [← hji16]; first | rfl | (simp [errW_none, errW_some] <;> rfl)) | (simp [*, errW_none, errW_some] <;> rfl), by repeat (first | (with_reducible first | exact HB.out | apply below_alloc | apply pw_below_drewN | apply below_drew1 | refine below_set ?_ GE369.out) | exact HB.out)⟩
           ·rw [if_neg c41] at H
            have c41b0 : (a4.toList == ([103, 103] : List UInt8)) = false := beq_eq_false_iff_ne.mpr c41
            have c41b1 : (a4.toList != ([103, 103] : List UInt8)) = true := bne_iff_ne.mpr c41
            by_cases c45 : a4.toList = ([71] : List UInt8)
            ·rw [if_pos c45] at H
             have c45b0 : (a4.toList == ([71] : List UInt8)) = true := beq_iff_eq.mpr c45
             have c45b1 : (a4.toList != ([71] : List UInt8)) = false := bne_eq_false_iff_eq.mpr c45
             clear c45
             by_cases c46 : a3 = 0
             ·rw [if_pos c46] at H
              have c46b0 : (a3 == 0) = true := beq_iff_eq.mpr c46
              have c46b1 : (a3 != 0) = false := bne_eq_false_iff_eq.mpr c46
              clear c46
              replace H := Option.bind_eq_some_iff.mp H
              obtain ⟨⟨t404, t405, t406, t407, t408⟩, A470, H⟩ := H
              replace H : (some (t404, t405, t406, t407, t408)) = some (r1, r2, r3, r4, r5) := H
              have A47 := Aside0.mk A470
              clear A470
              simp only [Option.some.injEq, Prod.mk.injEq] at H
              obtain ⟨rfl, rfl, rfl, rfl, rfl⟩ := H
              go_wp2_with (first | ((with_reducible refine gate_callee (f := 24) rfl ?_); refine goesL_ (some 142) rfl rfl Try.func24 (by kernel_rfl) rfl #[.slice A0 l0.length c0, .int .i64 a1, .int .i64 (wrap64 (t373 - 1)), .int .i64 (wrap64 (t373 - 1))] rfl (by (try simp only [List.map_toArray, List.map_cons, List.map_nil]); first | done | rfl | (simp only [List.length_drop, List.length_take]; rfl)) ?_; (with_reducible refine (quoinref07_first.calls kj26 _ _ l0 a1 (wrap64 (t373 - 1)) (wrap64 (t373 - 1)) t404 t405 t406 t407 t408 _ ?side1 ?side2 A47.out).mono ?_); (case side1 => repeat (first | exact (Kd.C_below HR0.out HB.out) | (with_reducible refine Kd.C_alloc ?_ _) | (with_reducible refine Kd.C_drewN ?_ _) | (with_reducible refine Kd.C_drew ?_))); (case side2 => exact HC0.out); rintro e w48 ⟨rfl, hb⟩; refine ⟨_, rfl, ?_⟩; have n0_ := Aside0.mk (blk_below (g := gb369) (o := .cells #[.int .i64 0, .int .i64 0, .int .i64 0] 29 (0, 0)) (by (with_reducible repeat (first | refine blk_drewN ?_ _ | refine blk_drew ?_ | refine blk_alloc ?_ _)); exact BK369.out) hb); have n1_ := Aside0.mk (below_step (by repeat (first | (with_reducible first | exact HB.out | apply below_alloc | apply pw_below_drewN | apply below_drew1 | refine below_set ?_ GE369.out) | exact HB.out)) hb); clear BK369; clear HB; have BK369 := n0_; have HB := n1_; clear n0_ n1_; (try clear hb); (try clear hb2); (try clear hk); (try clear hi); have hcz49_0 : w48.cell? ⟨gb369, 0, none⟩ = some (.int .i64 0) := (blk_cell BK369.out 0).trans rfl; have hcz49_1 : w48.cell? ⟨gb369, 1, none⟩ = some (.int .i64 0) := (blk_cell BK369.out 1).trans rfl; have hcz49_2 : w48.cell? ⟨gb369, 2, none⟩ = some (.int .i64 0) := (blk_cell BK369.out 2).trans rfl; have hfz49_0 := blk_frozen BK369.out 0; have hfz49_1 := blk_frozen BK369.out 1; have hfz49_2 := blk_frozen BK369.out 2))
              refine bodyPost_ret (results_ctt rfl _ _ gb369 29 #[.int .i64 t404, .int .i64 t405, .int .i64 t406] (0, 0) _ rfl (by (with_reducible repeat (first | refine blk_drewN ?_ _ | refine blk_drew ?_ | refine blk_alloc ?_ _)); refine blk_put (cs := #[.int .i64 t404, .int .i64 t405, .int .i64 0]) ?_ 2 _ rfl; (with_reducible repeat (first | refine blk_drewN ?_ _ | refine blk_drew ?_ | refine blk_alloc ?_ _)); refine blk_put (cs := #[.int .i64 t404, .int .i64 0, .int .i64 0]) ?_ 1 _ rfl; (with_reducible repeat (first | refine blk_drewN ?_ _ | refine blk_drew ?_ | refine blk_alloc ?_ _)); refine blk_put (cs := #[.int .i64 0, .int .i64 0, .int .i64 0]) ?_ 0 _ rfl; (with_reducible repeat (first | refine blk_drewN ?_ _ | refine blk_drew ?_ | refine blk_alloc ?_ _)); exact BK369.out) Try.underlying29 rfl (by kernel_rfl)) rfl ?_
              exact ⟨by first | rfl | (simp [errW_none, errW_some] <;> rfl) | (simp only [← hji16]; first | rfl | (simp [errW_none, errW_some] <;> rfl)) | (simp [*, errW_none, errW_some] <;> rfl), by repeat (first | (with_reducible first | exact HB.out | apply below_alloc | apply pw_below_drewN | apply below_drew1 | refine below_set ?_ GE369.out) | exact HB.out)⟩
             ·rw [if_neg c46] at H
              have c46b0 : (a3 == 0) = false := beq_eq_false_iff_ne.mpr c46
              have c46b1 : (a3 != 0) = true := bne_iff_ne.mpr c46
              replace H := Option.bind_eq_some_iff.mp H
              obtain ⟨⟨t409, t410, t411, t412, t413⟩, A500, H⟩ := H
              replace H : (some (t409, t410, t411, t412, t413)) = some (r1, r2, r3, r4, r5) := H
              have A50 := Aside0.mk A500
              clear A500
              simp only [Option.some.injEq, Prod.mk.injEq] at H
              obtain ⟨rfl, rfl, rfl, rfl, rfl⟩ := H
              go_wp2_with (first | ((with_reducible refine gate_callee (f := 24) rfl ?_); refine goesL_ (some 151) rfl rfl Try.func24 (by kernel_rfl) rfl #[.slice A0 l0.length c0, .int .i64 a1, .int .i64 (wrap64 (ji16 - 1)), .int .i64 (wrap64 (t373 - 1))] rfl (by (try simp only [List.map_toArray, List.map_cons, List.map_nil]); first | done | (simp only [hji16]; rfl) | rfl | (simp only [List.length_drop, List.length_take]; rfl)) ?_; (with_reducible refine (quoinref07_first.calls kj26 _ _ l0 a1 (wrap64 (ji16 - 1)) (wrap64 (t373 - 1)) t409 t410 t411 t412 t413 _ ?side1 ?side2 A50.out).mono ?_); (case side1 => repeat (first | exact (Kd.C_below HR0.out HB.out) | (with_reducible refine Kd.C_alloc ?_ _) | (with_reducible refine Kd.C_drewN ?_ _) | (with_reducible refine Kd.C_drew ?_))); (case side2 => exact HC0.out); rintro e w51 ⟨rfl, hb⟩; refine ⟨_, rfl, ?_⟩; have n0_ := Aside0.mk (blk_below (g := gb369) (o := .cells #[.int .i64 0, .int .i64 0, .int .i64 0] 29 (0, 0)) (by (with_reducible repeat (first | refine blk_drewN ?_ _ | refine blk_drew ?_ | refine blk_alloc ?_ _)); exact BK369.out) hb); have n1_ := Aside0.mk (below_step (by repeat (first | (with_reducible first | exact HB.out | apply below_alloc | apply pw_below_drewN | apply below_drew1 | refine below_set ?_ GE369.out) | exact HB.out)) hb); clear BK369; clear HB; have BK369 := n0_; have HB := n1_; clear n0_ n1_; (try clear hb); (try clear hb2); (try clear hk); (try clear hi); have hcz52_0 : w51.cell? ⟨gb369, 0, none⟩ = some (.int .i64 0) := (blk_cell BK369.out 0).trans rfl; have hcz52_1 : w51.cell? ⟨gb369, 1, none⟩ = some (.int .i64 0) := (blk_cell BK369.out 1).trans rfl; have hcz52_2 : w51.cell? ⟨gb369, 2, none⟩ = some (.int .i64 0) := (blk_cell BK369.out 2).trans rfl; have hfz52_0 := blk_frozen BK369.out 0; have hfz52_1 := blk_frozen BK369.out 1; have hfz52_2 := blk_frozen BK369.out 2))
              refine bodyPost_ret (results_ctt rfl _ _ gb369 29 #[.int .i64 t409, .int .i64 t410, .int .i64 t411] (0, 0) _ rfl (by (with_reducible repeat (first | refine blk_drewN ?_ _ | refine blk_drew ?_ | refine blk_alloc ?_ _)); refine blk_put (cs := #[.int .i64 t409, .int .i64 t410, .int .i64 0]) ?_ 2 _ rfl; (with_reducible repeat (first | refine blk_drewN ?_ _ | refine blk_drew ?_ | refine blk_alloc ?_ _)); refine blk_put (cs := #[.int .i64 t409, .int .i64 0, .int .i64 0]) ?_ 1 _ rfl; (with_reducible repeat (first | refine blk_drewN ?_ _ | refine blk_drew ?_ | refine blk_alloc ?_ _)); refine blk_put (cs := #[.int .i64 0, .int .i64 0, .int .i64 0]) ?_ 0 _ rfl; (with_reducible repeat (first | refine blk_drewN ?_ _ | refine blk_drew ?_ | refine blk_alloc ?_ _)); exact BK369.out) Try.underlying29 rfl (by kernel_rfl)) rfl ?_
              exact ⟨by first | rfl | (simp [errW_none, errW_some] <;> rfl) | (simp only [← hji16]; first | rfl | (simp [errW_none, errW_some] <;> rfl)) | (simp [*, errW_none, errW_some] <;> rfl), by repeat (first | (with_reducible first | exact HB.out | apply below_alloc | apply pw_below_drewN | apply below_drew1 | refine below_set ?_ GE369.out) | exact HB.out)⟩
            ·rw [if_neg c45] at H
             have c45b0 : (a4.toList == ([71] : List UInt8)) = false := beq_eq_false_iff_ne.mpr c45
             have c45b1 : (a4.toList != ([71] : List UInt8)) = true := bne_iff_ne.mpr c45
             by_cases c53 : a4.toList = ([36] : List UInt8)
             ·rw [if_pos c53] at H
              have c53b0 : (a4.toList == ([36] : List UInt8)) = true := beq_iff_eq.mpr c53
              have c53b1 : (a4.toList != ([36] : List UInt8)) = false := bne_eq_false_iff_eq.mpr c53
              clear c53
              by_cases c54 : (wrap64 ((wrap64 (t371 + ji16)) - 1)) > (wrap64 (t373 - 1))
              ·rw [if_pos c54] at H
               have c54b0 : decide ((wrap64 (t373 - 1)) < (wrap64 ((wrap64 (t371 + ji16)) - 1))) = true := decide_eq_true c54
               clear c54
               simp only [Option.some.injEq, Prod.mk.injEq] at H
               obtain ⟨rfl, rfl, rfl, rfl, rfl⟩ := H
               have hcz55_0 : wc.cell? ⟨gb369, 0, none⟩ = some (.int .i64 0) := (blk_cell BK369.out 0).trans rfl
               have hcz55_1 : wc.cell? ⟨gb369, 1, none⟩ = some (.int .i64 0) := (blk_cell BK369.out 1).trans rfl
               have hcz55_2 : wc.cell? ⟨gb369, 2, none⟩ = some (.int .i64 0) := (blk_cell BK369.out 2).trans rfl
               have hfz55_0 := blk_frozen BK369.out 0
               have hfz55_1 := blk_frozen BK369.out 1
               have hfz55_2 := blk_frozen BK369.out 2
               go_wp2
               refine bodyPost_ret (results_ctt rfl _ _ gb369 29 #[.int .i64 0, .int .i64 0, .int .i64 0] (0, 0) _ rfl (by (with_reducible repeat (first | refine blk_drewN ?_ _ | refine blk_drew ?_ | refine blk_alloc ?_ _)); refine blk_put (cs := #[.int .i64 0, .int .i64 0, .int .i64 0]) ?_ 2 _ rfl; (with_reducible repeat (first | refine blk_drewN ?_ _ | refine blk_drew ?_ | refine blk_alloc ?_ _)); refine blk_put (cs := #[.int .i64 0, .int .i64 0, .int .i64 0]) ?_ 1 _ rfl; (with_reducible repeat (first | refine blk_drewN ?_ _ | refine blk_drew ?_ | refine blk_alloc ?_ _)); refine blk_put (cs := #[.int .i64 0, .int .i64 0, .int .i64 0]) ?_ 0 _ rfl; (with_reducible repeat (first | refine blk_drewN ?_ _ | refine blk_drew ?_ | refine blk_alloc ?_ _)); exact BK369.out) Try.underlying29 rfl (by kernel_rfl)) rfl ?_
               exact ⟨by first | rfl | (simp [errW_none, errW_some] <;> rfl) | (simp only [← hji16]; first | rfl | (simp [errW_none, errW_some] <;> rfl)) | (simp [*, errW_none, errW_some] <;> rfl), by repeat (first | (with_reducible first | exact HB.out | apply below_alloc | apply pw_below_drewN | apply below_drew1 | refine below_set ?_ GE369.out) | exact HB.out)⟩
              ·rw [if_neg c54] at H
               have c54b0 : decide ((wrap64 (t373 - 1)) < (wrap64 ((wrap64 (t371 + ji16)) - 1))) = false := decide_eq_false c54
               clear c54
               replace H := Option.bind_eq_some_iff.mp H
               obtain ⟨⟨t414, t415⟩, A560, H⟩ := H
               replace H : (some (a1, t414, 1, (-1), 0)) = some (r1, r2, r3, r4, r5) := H
               have A56 := Aside0.mk A560
               clear A560
               simp only [Option.some.injEq, Prod.mk.injEq] at H
               obtain ⟨rfl, rfl, rfl, rfl, rfl⟩ := H
               go_wp2_with (first | ((with_reducible refine gate_callee (f := 25) rfl ?_); refine goesL_ (some 170) rfl rfl Try.func25 (by kernel_rfl) rfl #[.slice A0 l0.length c0, .int .i64 (wrap64 ((wrap64 (t371 + ji16)) - 1))] rfl (by (try simp only [List.map_toArray, List.map_cons, List.map_nil]); first | done | (simp only [hji16]; rfl) | rfl | (simp only [List.length_drop, List.length_take]; rfl)) ?_; (with_reducible refine (quoinref05_End.calls kj26 _ _ l0 (wrap64 ((wrap64 (t371 + ji16)) - 1)) t414 t415 _ ?side1 ?side2 A56.out).mono ?_); (case side1 => repeat (first | exact (Kd.C_below HR0.out HB.out) | (with_reducible refine Kd.C_alloc ?_ _) | (with_reducible refine Kd.C_drewN ?_ _) | (with_reducible refine Kd.C_drew ?_))); (case side2 => exact HC0.out); rintro e w' ⟨rfl, ⟨nd, rfl⟩⟩; refine ⟨_, rfl, ?_⟩; (try (rw [drewN_self wc]; generalize hq_ : World.drewN wc _ = wc; have n0_ : Aside0 (wc.heap[gb369]? = some (.cells #[.int .i64 0, .int .i64 0, .int .i64 0] 29 (0, 0))) := ⟨by rw [← hq_]; exact (by (with_reducible repeat (first | refine blk_drewN ?_ _ | refine blk_drew ?_ | refine blk_alloc ?_ _)); exact BK369.out)⟩; have n1_ : Aside0 (Below w.heap.size w wc) := ⟨by rw [← hq_]; exact (by repeat (first | (with_reducible first | exact HB.out | apply below_alloc | apply pw_below_drewN | apply below_drew1 | refine below_set ?_ GE369.out) | exact HB.out))⟩; clear BK369 HB hq_; have BK369 := n0_; have HB := n1_; clear n0_ n1_)); (try have hcy369_0 : wc.cell? ⟨gb369, 0, none⟩ = some (.int .i64 0) := (blk_cell BK369.out 0).trans rfl); (try have hfy369_0 := blk_frozen BK369.out 0); (try have hcy369_1 : wc.cell? ⟨gb369, 1, none⟩ = some (.int .i64 0) := (blk_cell BK369.out 1).trans rfl); (try have hfy369_1 := blk_frozen BK369.out 1); (try have hcy369_2 : wc.cell? ⟨gb369, 2, none⟩ = some (.int .i64 0) := (blk_cell BK369.out 2).trans rfl); (try have hfy369_2 := blk_frozen BK369.out 2); have hcz57_0 : wc.cell? ⟨gb369, 0, none⟩ = some (.int .i64 0) := (blk_cell BK369.out 0).trans rfl; have hcz57_1 : wc.cell? ⟨gb369, 1, none⟩ = some (.int .i64 0) := (blk_cell BK369.out 1).trans rfl; have hcz57_2 : wc.cell? ⟨gb369, 2, none⟩ = some (.int .i64 0) := (blk_cell BK369.out 2).trans rfl; have hfz57_0 := blk_frozen BK369.out 0; have hfz57_1 := blk_frozen BK369.out 1; have hfz57_2 := blk_frozen BK369.out 2))
               refine bodyPost_ret (results_ctt rfl _ _ gb369 29 #[.int .i64 a1, .int .i64 t414, .int .i64 1] (0, 0) _ rfl (by (with_reducible repeat (first | refine blk_drewN ?_ _ | refine blk_drew ?_ | refine blk_alloc ?_ _)); refine blk_put (cs := #[.int .i64 a1, .int .i64 t414, .int .i64 0]) ?_ 2 _ rfl; (with_reducible repeat (first | refine blk_drewN ?_ _ | refine blk_drew ?_ | refine blk_alloc ?_ _)); refine blk_put (cs := #[.int .i64 a1, .int .i64 0, .int .i64 0]) ?_ 1 _ rfl; (with_reducible repeat (first | refine blk_drewN ?_ _ | refine blk_drew ?_ | refine blk_alloc ?_ _)); refine blk_put (cs := #[.int .i64 0, .int .i64 0, .int .i64 0]) ?_ 0 _ rfl; (with_reducible repeat (first | refine blk_drewN ?_ _ | refine blk_drew ?_ | refine blk_alloc ?_ _)); exact BK369.out) Try.underlying29 rfl (by kernel_rfl)) rfl ?_
               exact ⟨by first | rfl | (simp [errW_none, errW_some] <;> rfl) | (simp only [← hji16]; first | rfl | (simp [errW_none, errW_some] <;> rfl)) | (simp [*, errW_none, errW_some] <;> rfl), by repeat (first | (with_reducible first | exact HB.out | apply below_alloc | apply pw_below_drewN | apply below_drew1 | refine below_set ?_ GE369.out) | exact HB.out)⟩
             ·rw [if_neg c53] at H
              have c53b0 : (a4.toList == ([36] : List UInt8)) = false := beq_eq_false_iff_ne.mpr c53
              have c53b1 : (a4.toList != ([36] : List UInt8)) = true := bne_iff_ne.mpr c53
              by_cases c58 : a4.toList = ([124] : List UInt8)
              ·rw [if_pos c58] at H
               have c58b0 : (a4.toList == ([124] : List UInt8)) = true := beq_iff_eq.mpr c58
               have c58b1 : (a4.toList != ([124] : List UInt8)) = false := bne_eq_false_iff_eq.mpr c58
               clear c58
               replace H := Option.bind_eq_some_iff.mp H
               obtain ⟨⟨t416, t417⟩, A590, H⟩ := H
               replace H : (some (a1, t416, 1, wrap64 (ji16 - 1), 0)) = some (r1, r2, r3, r4, r5) := H
               have A59 := Aside0.mk A590
               clear A590
               simp only [Option.some.injEq, Prod.mk.injEq] at H
               obtain ⟨rfl, rfl, rfl, rfl, rfl⟩ := H
               go_wp2_with (first | ((with_reducible refine gate_callee (f := 26) rfl ?_); refine goesL_ (some 183) rfl rfl Try.func26 (by kernel_rfl) rfl #[.slice A0 l0.length c0, .int .i64 t371, .int .i64 (wrap64 (ji16 - 1))] rfl (by (try simp only [List.map_toArray, List.map_cons, List.map_nil]); first | done | (simp only [hji16]; rfl) | rfl | (simp only [List.length_drop, List.length_take]; rfl)) ?_; (with_reducible refine (quoinref05_At.calls kj26 _ _ l0 t371 (wrap64 (ji16 - 1)) t416 t417 _ ?side1 ?side2 A59.out).mono ?_); (case side1 => repeat (first | exact (Kd.C_below HR0.out HB.out) | (with_reducible refine Kd.C_alloc ?_ _) | (with_reducible refine Kd.C_drewN ?_ _) | (with_reducible refine Kd.C_drew ?_))); (case side2 => exact HC0.out); rintro e w' ⟨rfl, ⟨nd, rfl⟩⟩; refine ⟨_, rfl, ?_⟩; (try (rw [drewN_self wc]; generalize hq_ : World.drewN wc _ = wc; have n0_ : Aside0 (wc.heap[gb369]? = some (.cells #[.int .i64 0, .int .i64 0, .int .i64 0] 29 (0, 0))) := ⟨by rw [← hq_]; exact (by (with_reducible repeat (first | refine blk_drewN ?_ _ | refine blk_drew ?_ | refine blk_alloc ?_ _)); exact BK369.out)⟩; have n1_ : Aside0 (Below w.heap.size w wc) := ⟨by rw [← hq_]; exact (by repeat (first | (with_reducible first | exact HB.out | apply below_alloc | apply pw_below_drewN | apply below_drew1 | refine below_set ?_ GE369.out) | exact HB.out))⟩; clear BK369 HB hq_; have BK369 := n0_; have HB := n1_; clear n0_ n1_)); (try have hcy369_0 : wc.cell? ⟨gb369, 0, none⟩ = some (.int .i64 0) := (blk_cell BK369.out 0).trans rfl); (try have hfy369_0 := blk_frozen BK369.out 0); (try have hcy369_1 : wc.cell? ⟨gb369, 1, none⟩ = some (.int .i64 0) := (blk_cell BK369.out 1).trans rfl); (try have hfy369_1 := blk_frozen BK369.out 1); (try have hcy369_2 : wc.cell? ⟨gb369, 2, none⟩ = some (.int .i64 0) := (blk_cell BK369.out 2).trans rfl); (try have hfy369_2 := blk_frozen BK369.out 2); have hcz60_0 : wc.cell? ⟨gb369, 0, none⟩ = some (.int .i64 0) := (blk_cell BK369.out 0).trans rfl; have hcz60_1 : wc.cell? ⟨gb369, 1, none⟩ = some (.int .i64 0) := (blk_cell BK369.out 1).trans rfl; have hcz60_2 : wc.cell? ⟨gb369, 2, none⟩ = some (.int .i64 0) := (blk_cell BK369.out 2).trans rfl; have hfz60_0 := blk_frozen BK369.out 0; have hfz60_1 := blk_frozen BK369.out 1; have hfz60_2 := blk_frozen BK369.out 2))
               refine bodyPost_ret (results_ctt rfl _ _ gb369 29 #[.int .i64 a1, .int .i64 t416, .int .i64 1] (0, 0) _ rfl (by (with_reducible repeat (first | refine blk_drewN ?_ _ | refine blk_drew ?_ | refine blk_alloc ?_ _)); refine blk_put (cs := #[.int .i64 a1, .int .i64 t416, .int .i64 0]) ?_ 2 _ rfl; (with_reducible repeat (first | refine blk_drewN ?_ _ | refine blk_drew ?_ | refine blk_alloc ?_ _)); refine blk_put (cs := #[.int .i64 a1, .int .i64 0, .int .i64 0]) ?_ 1 _ rfl; (with_reducible repeat (first | refine blk_drewN ?_ _ | refine blk_drew ?_ | refine blk_alloc ?_ _)); refine blk_put (cs := #[.int .i64 0, .int .i64 0, .int .i64 0]) ?_ 0 _ rfl; (with_reducible repeat (first | refine blk_drewN ?_ _ | refine blk_drew ?_ | refine blk_alloc ?_ _)); exact BK369.out) Try.underlying29 rfl (by kernel_rfl)) rfl ?_
               exact ⟨by first | rfl | (simp [errW_none, errW_some] <;> rfl) | (simp only [← hji16]; first | rfl | (simp [errW_none, errW_some] <;> rfl)) | (simp [*, errW_none, errW_some] <;> rfl), by repeat (first | (with_reducible first | exact HB.out | apply below_alloc | apply pw_below_drewN | apply below_drew1 | refine below_set ?_ GE369.out) | exact HB.out)⟩
              ·rw [if_neg c58] at H
               have c58b0 : (a4.toList == ([124] : List UInt8)) = false := beq_eq_false_iff_ne.mpr c58
               have c58b1 : (a4.toList != ([124] : List UInt8)) = true := bne_iff_ne.mpr c58
               replace H := Option.bind_eq_some_iff.mp H
               obtain ⟨⟨t418, t419, t420, t421, t422⟩, A610, H⟩ := H
               replace H : (some (t418, t419, t420, t421, t422)) = some (r1, r2, r3, r4, r5) := H
               have A61 := Aside0.mk A610
               clear A610
               simp only [Option.some.injEq, Prod.mk.injEq] at H
               obtain ⟨rfl, rfl, rfl, rfl, rfl⟩ := H
               go_wp2_with (first | ((with_reducible refine gate_callee (f := 27) rfl ?_); refine goesL_ (some 196) rfl rfl Try.func27 (by kernel_rfl) rfl #[.slice A0 l0.length c0, .int .i64 a1, .int .i64 ji16, .int .i64 t371, .string a4] rfl (by (try simp only [List.map_toArray, List.map_cons, List.map_nil]); first | done | (simp only [hji16]; rfl) | rfl | (simp only [List.length_drop, List.length_take]; rfl)) ?_; (with_reducible refine (quoinref07_along.calls kj26 _ _ l0 a1 ji16 t371 a4 t418 t419 t420 t421 t422 _ ?side1 ?side2 A61.out).mono ?_); (case side1 => repeat (first | exact (Kd.C_below HR0.out HB.out) | (with_reducible refine Kd.C_alloc ?_ _) | (with_reducible refine Kd.C_drewN ?_ _) | (with_reducible refine Kd.C_drew ?_))); (case side2 => exact HC0.out); rintro e w62 ⟨rfl, hb⟩; refine ⟨_, rfl, ?_⟩; have n0_ := Aside0.mk (blk_below (g := gb369) (o := .cells #[.int .i64 0, .int .i64 0, .int .i64 0] 29 (0, 0)) (by (with_reducible repeat (first | refine blk_drewN ?_ _ | refine blk_drew ?_ | refine blk_alloc ?_ _)); exact BK369.out) hb); have n1_ := Aside0.mk (below_step (by repeat (first | (with_reducible first | exact HB.out | apply below_alloc | apply pw_below_drewN | apply below_drew1 | refine below_set ?_ GE369.out) | exact HB.out)) hb); clear BK369; clear HB; have BK369 := n0_; have HB := n1_; clear n0_ n1_; (try clear hb); (try clear hb2); (try clear hk); (try clear hi); have hcz63_0 : w62.cell? ⟨gb369, 0, none⟩ = some (.int .i64 0) := (blk_cell BK369.out 0).trans rfl; have hcz63_1 : w62.cell? ⟨gb369, 1, none⟩ = some (.int .i64 0) := (blk_cell BK369.out 1).trans rfl; have hcz63_2 : w62.cell? ⟨gb369, 2, none⟩ = some (.int .i64 0) := (blk_cell BK369.out 2).trans rfl; have hfz63_0 := blk_frozen BK369.out 0; have hfz63_1 := blk_frozen BK369.out 1; have hfz63_2 := blk_frozen BK369.out 2))
               refine bodyPost_ret (results_ctt rfl _ _ gb369 29 #[.int .i64 t418, .int .i64 t419, .int .i64 t420] (0, 0) _ rfl (by (with_reducible repeat (first | refine blk_drewN ?_ _ | refine blk_drew ?_ | refine blk_alloc ?_ _)); refine blk_put (cs := #[.int .i64 t418, .int .i64 t419, .int .i64 0]) ?_ 2 _ rfl; (with_reducible repeat (first | refine blk_drewN ?_ _ | refine blk_drew ?_ | refine blk_alloc ?_ _)); refine blk_put (cs := #[.int .i64 t418, .int .i64 0, .int .i64 0]) ?_ 1 _ rfl; (with_reducible repeat (first | refine blk_drewN ?_ _ | refine blk_drew ?_ | refine blk_alloc ?_ _)); refine blk_put (cs := #[.int .i64 0, .int .i64 0, .int .i64 0]) ?_ 0 _ rfl; (with_reducible repeat (first | refine blk_drewN ?_ _ | refine blk_drew ?_ | refine blk_alloc ?_ _)); exact BK369.out) Try.underlying29 rfl (by kernel_rfl)) rfl ?_
               exact ⟨by first | rfl | (simp [errW_none, errW_some] <;> rfl) | (simp only [← hji16]; first | rfl | (simp [errW_none, errW_some] <;> rfl)) | (simp [*, errW_none, errW_some] <;> rfl), by repeat (first | (with_reducible first | exact HB.out | apply below_alloc | apply pw_below_drewN | apply below_drew1 | refine below_set ?_ GE369.out) | exact HB.out)⟩

end Go.Proofs.Ytofkcdnkbjpmmaa.X
