-- Written by wip/xprint.py over the kit's print.py: the Lean function of each Go function, and the proof that the Go text comes to it.
import Derived.Test.YtcochbkdgjgaeaaDoorX0
import Derived.Test.YtcochbkdgjgaeaaDoorX4
import Derived.Test.YtcochbkdgjgaeaaDoorX14
import Derived.Test.YtcochbkdgjgaeaaDoorX17
import Derived.Test.YtcochbkdgjgaeaaDoorX18
import Derived.Test.YtcochbkdgjgaeaaDoorX20
import Derived.Test.YtcochbkdgjgaeaaDoorX22
import Derived.Test.YtcochbkdgjgaeaaDoorX23
namespace Go.Proofs.YtcochbkdgjgaeaaDoor.X
open Go.RowKit Go.Proofs.YtcochbkdgjgaeaaDoorW.PrintWords Go.Proofs.YtcochbkdgjgaeaaDoorW.PrintLast Go.Proofs.YtcochbkdgjgaeaaDoorW.PrintMore
attribute [local go_sem] max2_int min2_int max_two min_two max_three min_three max_four min_four   -- for this text's walks alone
set_option linter.unusedVariables false
set_option linter.unusedSimpArgs false

/-! ### object_Select: function 10 -/
mutual
def object_Select.j0 : Nat → List Int → Int → Int → ByteArray → Int → Bool → Option (Int × Int × Int × Int)
 | 0, _, _, _, _, _, _ => none
 | k + 1, x0, x1, x2, x3, x10, x48 => if x48 = true then (some (0, 0, 0, 2)) else (if 0 < (x3.size : Int) then (if 1 < (x3.size : Int) then (if (bt x3 1) = 119 then (object_Select.j1 k x0 x1 x2 x10 ((bt x3 0) == 97) 1 (bt x3 1) true) else (object_Select.j1 k x0 x1 x2 x10 ((bt x3 0) == 97) 1 (bt x3 1) ((bt x3 1) == 87))) else (none)) else (none))
def object_Select.j1 : Nat → List Int → Int → Int → Int → Bool → Int → Int → Bool → Option (Int × Int × Int × Int)
 | 0, _, _, _, _, _, _, _, _ => none
 | k + 1, x0, x1, x2, x10, x12, x16, x17, x56 => if x56 = true then ((object_words.f k x0 x10 x1 x2 (x17 == 87) x12).bind fun bt211 => (if bt211.2.2 = true then (some (bt211.1, bt211.2.1, x16, 0)) else (some (0, 0, 0, 130)))) else (if x17 = 112 then ((object_paragraphs.f k x0 x10 x2 x12).bind fun bt214 => (if bt214.2.2 = true then (some (bt214.1, bt214.2.1, 3, 0)) else (some (0, 0, 0, 130)))) else (if x17 = 34 then (object_Select.j2 k x0 x1 x2 x10 x12 x16 x17 true) else (if x17 = 39 then (object_Select.j2 k x0 x1 x2 x10 x12 x16 x17 true) else (object_Select.j2 k x0 x1 x2 x10 x12 x16 x17 (x17 == 96)))))
def object_Select.j2 : Nat → List Int → Int → Int → Int → Bool → Int → Int → Bool → Option (Int × Int × Int × Int)
 | 0, _, _, _, _, _, _, _, _ => none
 | k + 1, x0, x1, x2, x10, x12, x16, x17, x87 => if x87 = true then ((object_quoted.f k x0 x10 x1 x17 x12).bind fun bt217 => (if bt217.2.2 = true then (some (bt217.1, bt217.2.1, x16, 0)) else (some (0, 0, 0, 130)))) else ((strings_IndexByte.f (⟨#[40, 41, 98, 91, 93, 123, 125, 66]⟩ : ByteArray) x17).bind fun t220 => (if t220 ≥ 0 then ((object_opener.f x17).bind fun t221 => ((object_bracketed.f k x0 x1 x2 t221 x12).bind fun bt222 => (if bt222.2.2 = true then (some (bt222.1, bt222.2.1, x16, 0)) else (some (0, 0, 0, 130))))) else (some (0, 0, 0, 2))))
end
def object_Select.f (k : Nat) (l0 : List Int) (a1 : Int) (a2 : Int) (a3 : ByteArray) : Option (Int × Int × Int × Int) := (lines_Of.f l0 a1).bind fun bt209 => (if bt209.2 = 0 then (if a2 < 1 then (object_Select.j0 k l0 a1 a2 a3 bt209.1 true) else (if a2 > 9999 then (object_Select.j0 k l0 a1 a2 a3 bt209.1 true) else (if (a3.size : Int) = 2 then (if 0 < (a3.size : Int) then (if (bt a3 0) = 105 then (object_Select.j0 k l0 a1 a2 a3 bt209.1 false) else (object_Select.j0 k l0 a1 a2 a3 bt209.1 ((bt a3 0) != 97))) else (none)) else (object_Select.j0 k l0 a1 a2 a3 bt209.1 true)))) else (object_Select.j0 k l0 a1 a2 a3 bt209.1 true))
theorem object_Select.mono_l : ∀ k, (∀ y0 y1 y2 y3 y4 y5, LeO (object_Select.j0 k y0 y1 y2 y3 y4 y5) (object_Select.j0 (k + 1) y0 y1 y2 y3 y4 y5)) ∧ (∀ y0 y1 y2 y3 y4 y5 y6 y7, LeO (object_Select.j1 k y0 y1 y2 y3 y4 y5 y6 y7) (object_Select.j1 (k + 1) y0 y1 y2 y3 y4 y5 y6 y7)) ∧ (∀ y0 y1 y2 y3 y4 y5 y6 y7, LeO (object_Select.j2 k y0 y1 y2 y3 y4 y5 y6 y7) (object_Select.j2 (k + 1) y0 y1 y2 y3 y4 y5 y6 y7))
 | 0 => ⟨fun _ _ _ _ _ _ r h => by simp [object_Select.j0] at h, fun _ _ _ _ _ _ _ _ r h => by simp [object_Select.j1] at h, fun _ _ _ _ _ _ _ _ r h => by simp [object_Select.j2] at h⟩
 | k + 1 => by
  obtain ⟨ih0, ih1, ih2⟩ := object_Select.mono_l k
  refine ⟨?_, ?_, ?_⟩
  ·intro y0 y1 y2 y3 y4 y5
   unfold object_Select.j0
   repeat' first
   | (with_reducible exact ih0 _ _ _ _ _ _)
   | (with_reducible exact ih1 _ _ _ _ _ _ _ _)
   | (with_reducible exact ih2 _ _ _ _ _ _ _ _)
   | (with_reducible exact object_bracketed.mono _ _ _ _ _ _)
   | (with_reducible exact object_paragraphs.mono _ _ _ _ _)
   | (with_reducible exact object_quoted.mono _ _ _ _ _ _)
   | (with_reducible exact object_words.mono _ _ _ _ _ _ _)
   | (with_reducible exact LeO.refl _)
   | (with_reducible exact LeO.none _)
   | (with_reducible refine LeO.ite ?_ ?_)
   | (with_reducible refine LeO.bind ?_ (fun _ => ?_))
   | exact ih0 _ _ _ _ _ _
   | exact ih1 _ _ _ _ _ _ _ _
   | exact ih2 _ _ _ _ _ _ _ _
   | exact object_bracketed.mono _ _ _ _ _ _
   | exact object_paragraphs.mono _ _ _ _ _
   | exact object_quoted.mono _ _ _ _ _ _
   | exact object_words.mono _ _ _ _ _ _ _
   | exact LeO.none _
   | refine LeO.ite ?_ ?_
   | refine LeO.bind ?_ (fun _ => ?_)
  ·intro y0 y1 y2 y3 y4 y5 y6 y7
   unfold object_Select.j1
   repeat' first
   | (with_reducible exact ih0 _ _ _ _ _ _)
   | (with_reducible exact ih1 _ _ _ _ _ _ _ _)
   | (with_reducible exact ih2 _ _ _ _ _ _ _ _)
   | (with_reducible exact object_bracketed.mono _ _ _ _ _ _)
   | (with_reducible exact object_paragraphs.mono _ _ _ _ _)
   | (with_reducible exact object_quoted.mono _ _ _ _ _ _)
   | (with_reducible exact object_words.mono _ _ _ _ _ _ _)
   | (with_reducible exact LeO.refl _)
   | (with_reducible exact LeO.none _)
   | (with_reducible refine LeO.ite ?_ ?_)
   | (with_reducible refine LeO.bind ?_ (fun _ => ?_))
   | exact ih0 _ _ _ _ _ _
   | exact ih1 _ _ _ _ _ _ _ _
   | exact ih2 _ _ _ _ _ _ _ _
   | exact object_bracketed.mono _ _ _ _ _ _
   | exact object_paragraphs.mono _ _ _ _ _
   | exact object_quoted.mono _ _ _ _ _ _
   | exact object_words.mono _ _ _ _ _ _ _
   | exact LeO.none _
   | refine LeO.ite ?_ ?_
   | refine LeO.bind ?_ (fun _ => ?_)
  ·intro y0 y1 y2 y3 y4 y5 y6 y7
   unfold object_Select.j2
   repeat' first
   | (with_reducible exact ih0 _ _ _ _ _ _)
   | (with_reducible exact ih1 _ _ _ _ _ _ _ _)
   | (with_reducible exact ih2 _ _ _ _ _ _ _ _)
   | (with_reducible exact object_bracketed.mono _ _ _ _ _ _)
   | (with_reducible exact object_paragraphs.mono _ _ _ _ _)
   | (with_reducible exact object_quoted.mono _ _ _ _ _ _)
   | (with_reducible exact object_words.mono _ _ _ _ _ _ _)
   | (with_reducible exact LeO.refl _)
   | (with_reducible exact LeO.none _)
   | (with_reducible refine LeO.ite ?_ ?_)
   | (with_reducible refine LeO.bind ?_ (fun _ => ?_))
   | exact ih0 _ _ _ _ _ _
   | exact ih1 _ _ _ _ _ _ _ _
   | exact ih2 _ _ _ _ _ _ _ _
   | exact object_bracketed.mono _ _ _ _ _ _
   | exact object_paragraphs.mono _ _ _ _ _
   | exact object_quoted.mono _ _ _ _ _ _
   | exact object_words.mono _ _ _ _ _ _ _
   | exact LeO.none _
   | refine LeO.ite ?_ ?_
   | refine LeO.bind ?_ (fun _ => ?_)
theorem object_Select.mono : ∀ a0 a1 a2 a3 k, LeO (object_Select.f k a0 a1 a2 a3) (object_Select.f (k + 1) a0 a1 a2 a3) := by
 intro a0 a1 a2 a3 k
 obtain ⟨ih0, ih1, ih2⟩ := object_Select.mono_l k
 unfold object_Select.f
 repeat' first
   | (with_reducible exact ih0 _ _ _ _ _ _)
   | (with_reducible exact ih1 _ _ _ _ _ _ _ _)
   | (with_reducible exact ih2 _ _ _ _ _ _ _ _)
   | (with_reducible exact object_bracketed.mono _ _ _ _ _ _)
   | (with_reducible exact object_paragraphs.mono _ _ _ _ _)
   | (with_reducible exact object_quoted.mono _ _ _ _ _ _)
   | (with_reducible exact object_words.mono _ _ _ _ _ _ _)
   | (with_reducible exact LeO.refl _)
   | (with_reducible exact LeO.none _)
   | (with_reducible refine LeO.ite ?_ ?_)
   | (with_reducible refine LeO.bind ?_ (fun _ => ?_))
   | exact ih0 _ _ _ _ _ _
   | exact ih1 _ _ _ _ _ _ _ _
   | exact ih2 _ _ _ _ _ _ _ _
   | exact object_bracketed.mono _ _ _ _ _ _
   | exact object_paragraphs.mono _ _ _ _ _
   | exact object_quoted.mono _ _ _ _ _ _
   | exact object_words.mono _ _ _ _ _ _ _
   | exact LeO.none _
   | refine LeO.ite ?_ ?_
   | refine LeO.bind ?_ (fun _ => ?_)
set_option maxHeartbeats 8000000 in
set_option maxRecDepth 100000 in
theorem object_Select.calls (k : Nat) (A0 : Option Addr) (c0 : Nat) (l0 : List Int) (a1 : Int) (a2 : Int) (a3 : ByteArray) (r1 : Int) (r2 : Int) (r3 : Int) (r4 : Int) (w : World) (hr0 : Kd.C (Kd.int .u8) w A0 l0.length l0) (hc0 : l0.length ≤ c0) (h : object_Select.f k l0 a1 a2 a3 = some (r1, r2, r3, r4)) :
  Calls Tryd.prog 10 #[.slice A0 l0.length c0, .int .i64 a1, .int .i64 a2, .string a3] w fun e w' => e = .returned (.tuple #[.agg #[.int .i64 r1, .int .i64 r2, .int .i64 r3], .int .i64 r4]) ∧ Below w.heap.size w w' := by
 have hu29 := Tryd.underlying29
 have HR0 := Aside0.mk hr0
 have HC0 := Aside0.mk hc0
 clear hr0 hc0
 have HB := Aside0.mk (Below.refl w.heap.size w)
 have H : ((lines_Of.f l0 a1).bind fun bt209 => (if bt209.2 = 0 then (if a2 < 1 then (object_Select.j0 k l0 a1 a2 a3 bt209.1 true) else (if a2 > 9999 then (object_Select.j0 k l0 a1 a2 a3 bt209.1 true) else (if (a3.size : Int) = 2 then (if 0 < (a3.size : Int) then (if (bt a3 0) = 105 then (object_Select.j0 k l0 a1 a2 a3 bt209.1 false) else (object_Select.j0 k l0 a1 a2 a3 bt209.1 ((bt a3 0) != 97))) else (none)) else (object_Select.j0 k l0 a1 a2 a3 bt209.1 true)))) else (object_Select.j0 k l0 a1 a2 a3 bt209.1 true))) = some (r1, r2, r3, r4) := h
 clear h
 replace H := Option.bind_eq_some_iff.mp H
 obtain ⟨⟨t209, t210⟩, A50, H⟩ := H
 replace H : (if t210 = 0 then (if a2 < 1 then (object_Select.j0 k l0 a1 a2 a3 t209 true) else (if a2 > 9999 then (object_Select.j0 k l0 a1 a2 a3 t209 true) else (if (a3.size : Int) = 2 then (if 0 < (a3.size : Int) then (if (bt a3 0) = 105 then (object_Select.j0 k l0 a1 a2 a3 t209 false) else (object_Select.j0 k l0 a1 a2 a3 t209 ((bt a3 0) != 97))) else (none)) else (object_Select.j0 k l0 a1 a2 a3 t209 true)))) else (object_Select.j0 k l0 a1 a2 a3 t209 true)) = some (r1, r2, r3, r4) := H
 have A5 := Aside0.mk A50
 clear A50
 have HC6 := Aside0.mk H
 clear H
 go_enter Tryd.func10, Tryd.ntmps10
 go_upto_region 2 with (first | ((with_reducible refine gate_dst (N := 8) rfl ?_); (try (refine gate_guard (by rfl) ?_; dsimp only)); refine box_event ?hg (N := 8) ?hd (cs := #[.int .i64 0, .int .i64 0, .int .i64 0]) (t := 29) ?hr ?_; (case hd => rfl); (case hg => rfl); (case hr => first | (go_simp; done) | (go_simp; rfl)); intro gb208 hg w7 hbox hb; have n0_ := Aside0.mk (below_step (by repeat (first | (with_reducible first | exact HB.out | apply below_alloc | apply pw_below_drewN | apply below_drew1) | exact HB.out)) hb); have n1_ := Aside0.mk (hbox); have n2_ := Aside0.mk ((by rw [hg]; exact (below_size (by repeat (first | (with_reducible first | exact HB.out | apply below_alloc | apply pw_below_drewN | apply below_drew1) | exact HB.out))) : w.heap.size ≤ gb208)); have n3_ := Aside0.mk ((by rw [hg]; exact (below_size (by repeat (first | (with_reducible first | exact HB.out | apply below_alloc | apply pw_below_drewN | apply below_drew1) | exact HB.out))) : w.heap.size ≤ gb208)); clear HB; have HB := n0_; have BK208 := n1_; have GW208 := n2_; have GE208 := n3_; clear n0_ n1_ n2_ n3_; clear hb hbox hg) | ((with_reducible refine gate_callee (f := 26) rfl ?_); refine goesL_ (some 21) rfl rfl Tryd.func26 (by kernel_rfl) rfl #[.slice A0 l0.length c0, .int .i64 a1] rfl (by (try simp only [List.map_toArray, List.map_cons, List.map_nil]); first | done | rfl | (simp only [List.length_drop, List.length_take]; rfl)) ?_; (with_reducible refine (lines_Of.calls _ _ l0 a1 t209 t210 _ ?side1 ?side2 A5.out).mono ?_); (case side1 => repeat (first | exact (Kd.C_below HR0.out HB.out) | (with_reducible refine Kd.C_alloc ?_ _) | (with_reducible refine Kd.C_drewN ?_ _) | (with_reducible refine Kd.C_drew ?_))); (case side2 => exact HC0.out); rintro e w8 ⟨rfl, hb⟩; refine ⟨_, rfl, ?_⟩; have n0_ := Aside0.mk (blk_below (g := gb208) (o := .cells #[.int .i64 0, .int .i64 0, .int .i64 0] 29 (0, 0)) (by (with_reducible repeat (first | refine blk_drewN ?_ _ | refine blk_drew ?_ | refine blk_alloc ?_ _)); exact BK208.out) hb); have n1_ := Aside0.mk (below_step (by repeat (first | (with_reducible first | exact HB.out | apply below_alloc | apply pw_below_drewN | apply below_drew1 | refine below_set ?_ GE208.out) | exact HB.out)) hb); clear BK208; clear HB; have BK208 := n0_; have HB := n1_; clear n0_ n1_; (try clear hb); (try clear hb2); (try clear hk); (try clear hi)))
 (try simp only [Act.put, List.setIfInBounds_toArray, List.set_cons_zero, List.set_cons_succ])
 go_cut [48] (fun v48 wc => ∃ (kq : Nat) (x48_5 : Bool), v48 = .bool x48_5 ∧ Aside0 (object_Select.j0 kq l0 a1 a2 a3 t209 x48_5 = some (r1, r2, r3, r4)) ∧ Aside0 (kq ≤ k) ∧ Aside0 (wc.heap[gb208]? = some (.cells #[.int .i64 0, .int .i64 0, .int .i64 0] 29 (0, 0))) ∧ Aside0 (Below w.heap.size w wc))
 case first =>
  have H := HC6.out
  clear HC6
  by_cases c9 : t210 = 0
  ·rw [if_pos c9] at H
   have c9b0 : (t210 == 0) = true := beq_iff_eq.mpr c9
   have c9b1 : (t210 != 0) = false := bne_eq_false_iff_eq.mpr c9
   clear c9
   (first | rw [c9b0] | (simp only [i64_w, i32_w]; rw [c9b0]) | skip)
   by_cases c10 : a2 < 1
   ·rw [if_pos c10] at H
    have c10b0 : decide (a2 < 1) = true := decide_eq_true c10
    clear c10
    have H' := Aside0.mk H
    clear H
    go_wp2
    go_meet
    case rel => exact ⟨_, (true), (by first | rfl | (simp; done) | (simp [*]; done)), H', ⟨by first | omega | exact Nat.le_refl _⟩, ⟨by (with_reducible repeat (first | refine blk_drewN ?_ _ | refine blk_drew ?_ | refine blk_alloc ?_ _)); exact BK208.out⟩, ⟨by repeat (first | (with_reducible first | exact HB.out | apply below_alloc | apply pw_below_drewN | apply below_drew1 | refine below_set ?_ GE208.out) | exact HB.out)⟩⟩
   ·rw [if_neg c10] at H
    have c10b0 : decide (a2 < 1) = false := decide_eq_false c10
    clear c10
    by_cases c11 : a2 > 9999
    ·rw [if_pos c11] at H
     have c11b0 : decide (9999 < a2) = true := decide_eq_true c11
     clear c11
     have H' := Aside0.mk H
     clear H
     go_wp2
     go_meet
     case rel => exact ⟨_, (true), (by first | rfl | (simp; done) | (simp [*]; done)), H', ⟨by first | omega | exact Nat.le_refl _⟩, ⟨by (with_reducible repeat (first | refine blk_drewN ?_ _ | refine blk_drew ?_ | refine blk_alloc ?_ _)); exact BK208.out⟩, ⟨by repeat (first | (with_reducible first | exact HB.out | apply below_alloc | apply pw_below_drewN | apply below_drew1 | refine below_set ?_ GE208.out) | exact HB.out)⟩⟩
    ·rw [if_neg c11] at H
     have c11b0 : decide (9999 < a2) = false := decide_eq_false c11
     clear c11
     by_cases c12 : (a3.size : Int) = 2
     ·rw [if_pos c12] at H
      have c12b0 : ((a3.size : Int) == 2) = true := beq_iff_eq.mpr c12
      have c12b1 : ((a3.size : Int) != 2) = false := bne_eq_false_iff_eq.mpr c12
      clear c12
      by_cases c13 : 0 < (a3.size : Int)
      ·rw [if_pos c13] at H
       have c13b0 : decide (0 < (a3.size : Int)) = true := decide_eq_true c13
       have c13b1 : decide (0 < a3.size) = true := decide_eq_true (by omega)
       clear c13
       by_cases c15 : (bt a3 0) = 105
       ·rw [if_pos c15] at H
        have c15b0 : ((bt a3 0) == 105) = true := beq_iff_eq.mpr c15
        have c15b1 : ((bt a3 0) != 105) = false := bne_eq_false_iff_eq.mpr c15
        clear c15
        have H' := Aside0.mk H
        clear H
        have p14 : 0 ≤ (0 : Int) := (by omega)
        have q14 : 0 < a3.size := (by have : (0 : Int) < (a3.size : Int) := of_decide_eq_true (by first | (with_reducible assumption) | assumption); omega)
        have hx14 : ∀ h : 0 < a3.size, ((a3[0]'h).toNat : Int) = bt a3 0 := bt_at a3 0
        clear p14
        have qi14 : (0 < (a3.size : Int)) = True := eq_true (of_decide_eq_true (by first | (with_reducible assumption) | assumption))
        replace q14 := eq_true q14
        go_wp2
        go_meet
        case rel => exact ⟨_, (false), (by first | rfl | (simp; done) | (simp [*]; done)), H', ⟨by first | omega | exact Nat.le_refl _⟩, ⟨by (with_reducible repeat (first | refine blk_drewN ?_ _ | refine blk_drew ?_ | refine blk_alloc ?_ _)); exact BK208.out⟩, ⟨by repeat (first | (with_reducible first | exact HB.out | apply below_alloc | apply pw_below_drewN | apply below_drew1 | refine below_set ?_ GE208.out) | exact HB.out)⟩⟩
       ·rw [if_neg c15] at H
        have c15b0 : ((bt a3 0) == 105) = false := beq_eq_false_iff_ne.mpr c15
        have c15b1 : ((bt a3 0) != 105) = true := bne_iff_ne.mpr c15
        have H' := Aside0.mk H
        clear H
        have p14 : 0 ≤ (0 : Int) := (by omega)
        have q14 : 0 < a3.size := (by have : (0 : Int) < (a3.size : Int) := of_decide_eq_true (by first | (with_reducible assumption) | assumption); omega)
        have hx14 : ∀ h : 0 < a3.size, ((a3[0]'h).toNat : Int) = bt a3 0 := bt_at a3 0
        clear p14
        have qi14 : (0 < (a3.size : Int)) = True := eq_true (of_decide_eq_true (by first | (with_reducible assumption) | assumption))
        replace q14 := eq_true q14
        have p16 : 0 ≤ (0 : Int) := (by omega)
        have q16 : 0 < a3.size := (by have : (0 : Int) < (a3.size : Int) := of_decide_eq_true (by first | (with_reducible assumption) | assumption); omega)
        have hx16 : ∀ h : 0 < a3.size, ((a3[0]'h).toNat : Int) = bt a3 0 := bt_at a3 0
        clear p16
        have qi16 : (0 < (a3.size : Int)) = True := eq_true (of_decide_eq_true (by first | (with_reducible assumption) | assumption))
        replace q16 := eq_true q16
        go_wp2
        go_meet
        case rel => exact ⟨_, (((bt a3 0) != 97)), (by first | rfl | (simp; done) | (simp [*]; done)), H', ⟨by first | omega | exact Nat.le_refl _⟩, ⟨by (with_reducible repeat (first | refine blk_drewN ?_ _ | refine blk_drew ?_ | refine blk_alloc ?_ _)); exact BK208.out⟩, ⟨by repeat (first | (with_reducible first | exact HB.out | apply below_alloc | apply pw_below_drewN | apply below_drew1 | refine below_set ?_ GE208.out) | exact HB.out)⟩⟩
      ·rw [if_neg c13] at H
       exact absurd H (by simp)
     ·rw [if_neg c12] at H
      have c12b0 : ((a3.size : Int) == 2) = false := beq_eq_false_iff_ne.mpr c12
      have c12b1 : ((a3.size : Int) != 2) = true := bne_iff_ne.mpr c12
      have H' := Aside0.mk H
      clear H
      go_wp2
      go_meet
      case rel => exact ⟨_, (true), (by first | rfl | (simp; done) | (simp [*]; done)), H', ⟨by first | omega | exact Nat.le_refl _⟩, ⟨by (with_reducible repeat (first | refine blk_drewN ?_ _ | refine blk_drew ?_ | refine blk_alloc ?_ _)); exact BK208.out⟩, ⟨by repeat (first | (with_reducible first | exact HB.out | apply below_alloc | apply pw_below_drewN | apply below_drew1 | refine below_set ?_ GE208.out) | exact HB.out)⟩⟩
  ·rw [if_neg c9] at H
   have c9b0 : (t210 == 0) = false := beq_eq_false_iff_ne.mpr c9
   have c9b1 : (t210 != 0) = true := bne_iff_ne.mpr c9
   (first | rw [c9b0] | (simp only [i64_w, i32_w]; rw [c9b0]) | skip)
   have H' := Aside0.mk H
   clear H
   go_wp2
   go_meet
   case rel => exact ⟨_, (true), (by first | rfl | (simp; done) | (simp [*]; done)), H', ⟨by first | omega | exact Nat.le_refl _⟩, ⟨by (with_reducible repeat (first | refine blk_drewN ?_ _ | refine blk_drew ?_ | refine blk_alloc ?_ _)); exact BK208.out⟩, ⟨by repeat (first | (with_reducible first | exact HB.out | apply below_alloc | apply pw_below_drewN | apply below_drew1 | refine below_set ?_ GE208.out) | exact HB.out)⟩⟩
 case rest =>
  clear HC6
  try clear c1
  try clear p1
  try clear q1
  try clear hx1
  try clear qi1
  try clear c2
  try clear p2
  try clear c9
  try clear c9b0
  try clear c9b1
  try clear c10
  try clear c10b0
  try clear c11
  try clear c11b0
  try clear c12
  try clear c12b0
  try clear c12b1
  try clear c13
  try clear c13b0
  try clear c13b1
  try clear p14
  try clear q14
  try clear hx14
  try clear qi14
  try clear c15
  try clear c15b0
  try clear c15b1
  try clear p16
  try clear q16
  try clear hx16
  try clear qi16
  try clear p14
  try clear p16
  try clear q14
  try clear q16
  obtain ⟨kq, x48_5, rfl, HA, HJ5, BK208, HB⟩ := hcut
  cases kq with
  | zero => exact absurd HA.out (by simp [object_Select.j0])
  | succ kj5 =>
   have H := HA.out
   clear HA
   simp only [object_Select.j0] at H
   by_cases c17 : x48_5 = true
   ·subst c17
    have H1 : (some (0, 0, 0, 2)) = some (r1, r2, r3, r4) := by rw [if_pos rfl] at H; exact H
    clear H
    have H := H1
    clear H1
    simp only [Option.some.injEq, Prod.mk.injEq] at H
    obtain ⟨rfl, rfl, rfl, rfl⟩ := H
    have hcz18_0 : wc.cell? ⟨gb208, 0, none⟩ = some (.int .i64 0) := (blk_cell BK208.out 0).trans rfl
    have hcz18_1 : wc.cell? ⟨gb208, 1, none⟩ = some (.int .i64 0) := (blk_cell BK208.out 1).trans rfl
    have hcz18_2 : wc.cell? ⟨gb208, 2, none⟩ = some (.int .i64 0) := (blk_cell BK208.out 2).trans rfl
    have hfz18_0 := blk_frozen BK208.out 0
    have hfz18_1 := blk_frozen BK208.out 1
    have hfz18_2 := blk_frozen BK208.out 2
    go_wp2
    refine bodyPost_ret (results_ct rfl _ _ gb208 29 #[.int .i64 0, .int .i64 0, .int .i64 0] (0, 0) _ rfl (by (with_reducible repeat (first | refine blk_drewN ?_ _ | refine blk_drew ?_ | refine blk_alloc ?_ _)); refine blk_put (cs := #[.int .i64 0, .int .i64 0, .int .i64 0]) ?_ 2 _ rfl; (with_reducible repeat (first | refine blk_drewN ?_ _ | refine blk_drew ?_ | refine blk_alloc ?_ _)); refine blk_put (cs := #[.int .i64 0, .int .i64 0, .int .i64 0]) ?_ 1 _ rfl; (with_reducible repeat (first | refine blk_drewN ?_ _ | refine blk_drew ?_ | refine blk_alloc ?_ _)); refine blk_put (cs := #[.int .i64 0, .int .i64 0, .int .i64 0]) ?_ 0 _ rfl; (with_reducible repeat (first | refine blk_drewN ?_ _ | refine blk_drew ?_ | refine blk_alloc ?_ _)); exact BK208.out) Tryd.underlying29 rfl (by kernel_rfl)) rfl ?_
    exact ⟨by first | rfl | (simp [errW_none, errW_some] <;> rfl) | (simp [*, errW_none, errW_some] <;> rfl), by repeat (first | (with_reducible first | exact HB.out | apply below_alloc | apply pw_below_drewN | apply below_drew1 | refine below_set ?_ GE208.out) | exact HB.out)⟩
   ·replace c17 := Bool.eq_false_iff.mpr c17
    subst c17
    have H1 : (if 0 < (a3.size : Int) then (if 1 < (a3.size : Int) then (if (bt a3 1) = 119 then (object_Select.j1 kj5 l0 a1 a2 t209 ((bt a3 0) == 97) 1 (bt a3 1) true) else (object_Select.j1 kj5 l0 a1 a2 t209 ((bt a3 0) == 97) 1 (bt a3 1) ((bt a3 1) == 87))) else (none)) else (none)) = some (r1, r2, r3, r4) := by rw [if_neg (show ¬ (false = true) by decide)] at H; exact H
    clear H
    have H := H1
    clear H1
    by_cases c19 : 0 < (a3.size : Int)
    ·rw [if_pos c19] at H
     have c19b0 : decide (0 < (a3.size : Int)) = true := decide_eq_true c19
     have c19b1 : decide (0 < a3.size) = true := decide_eq_true (by omega)
     clear c19
     by_cases c21 : 1 < (a3.size : Int)
     ·rw [if_pos c21] at H
      have c21b0 : decide (1 < (a3.size : Int)) = true := decide_eq_true c21
      have c21b1 : decide (1 < a3.size) = true := decide_eq_true (by omega)
      clear c21
      have HC23 := Aside0.mk H
      clear H
      have p20 : 0 ≤ (0 : Int) := (by omega)
      have q20 : 0 < a3.size := (by have : (0 : Int) < (a3.size : Int) := of_decide_eq_true (by first | (with_reducible assumption) | assumption); omega)
      have hx20 : ∀ h : 0 < a3.size, ((a3[0]'h).toNat : Int) = bt a3 0 := bt_at a3 0
      clear p20
      have qi20 : (0 < (a3.size : Int)) = True := eq_true (of_decide_eq_true (by first | (with_reducible assumption) | assumption))
      replace q20 := eq_true q20
      have p22 : 0 ≤ (1 : Int) := (by omega)
      have q22 : 1 < a3.size := (by have : (1 : Int) < (a3.size : Int) := of_decide_eq_true (by first | (with_reducible assumption) | assumption); omega)
      have hx22 : ∀ h : 1 < a3.size, ((a3[1]'h).toNat : Int) = bt a3 1 := bt_at a3 1
      clear p22
      have qi22 : (1 < (a3.size : Int)) = True := eq_true (of_decide_eq_true (by first | (with_reducible assumption) | assumption))
      replace q22 := eq_true q22
      go_upto_region 10 with (fail)
      go_cut [56] (fun v56 wc => ∃ (kq : Nat) (x56_22 : Bool), v56 = .bool x56_22 ∧ Aside0 (object_Select.j1 kq l0 a1 a2 t209 ((bt a3 0) == 97) 1 (bt a3 1) x56_22 = some (r1, r2, r3, r4)) ∧ Aside0 (kq ≤ kj5) ∧ Aside0 (wc.heap[gb208]? = some (.cells #[.int .i64 0, .int .i64 0, .int .i64 0] 29 (0, 0))) ∧ Aside0 (Below w.heap.size w wc))
      case first =>
       have H := HC23.out
       clear HC23
       by_cases c24 : (bt a3 1) = 119
       ·rw [if_pos c24] at H
        have c24b0 : ((bt a3 1) == 119) = true := beq_iff_eq.mpr c24
        have c24b1 : ((bt a3 1) != 119) = false := bne_eq_false_iff_eq.mpr c24
        clear c24
        (first | rw [c24b0] | (simp only [i64_w, i32_w]; rw [c24b0]) | skip)
        have H' := Aside0.mk H
        clear H
        go_wp2
        go_meet
        case rel => exact ⟨_, (true), (by first | rfl | (simp; done) | (simp [*]; done)), H', ⟨by have := HJ5.out; first | omega | exact Nat.le_refl _⟩, ⟨by (with_reducible repeat (first | refine blk_drewN ?_ _ | refine blk_drew ?_ | refine blk_alloc ?_ _)); exact BK208.out⟩, ⟨by repeat (first | (with_reducible first | exact HB.out | apply below_alloc | apply pw_below_drewN | apply below_drew1 | refine below_set ?_ GE208.out) | exact HB.out)⟩⟩
       ·rw [if_neg c24] at H
        have c24b0 : ((bt a3 1) == 119) = false := beq_eq_false_iff_ne.mpr c24
        have c24b1 : ((bt a3 1) != 119) = true := bne_iff_ne.mpr c24
        (first | rw [c24b0] | (simp only [i64_w, i32_w]; rw [c24b0]) | skip)
        have H' := Aside0.mk H
        clear H
        go_wp2
        go_meet
        case rel => exact ⟨_, (((bt a3 1) == 87)), (by first | rfl | (simp; done) | (simp [*]; done)), H', ⟨by have := HJ5.out; first | omega | exact Nat.le_refl _⟩, ⟨by (with_reducible repeat (first | refine blk_drewN ?_ _ | refine blk_drew ?_ | refine blk_alloc ?_ _)); exact BK208.out⟩, ⟨by repeat (first | (with_reducible first | exact HB.out | apply below_alloc | apply pw_below_drewN | apply below_drew1 | refine below_set ?_ GE208.out) | exact HB.out)⟩⟩
      case rest =>
       clear HC23
       try clear c1
       try clear p1
       try clear q1
       try clear hx1
       try clear qi1
       try clear c2
       try clear p2
       try clear q2
       try clear hx2
       try clear qi2
       try clear c9
       try clear c9b0
       try clear c9b1
       try clear c10
       try clear c10b0
       try clear c11
       try clear c11b0
       try clear c12
       try clear c12b0
       try clear c12b1
       try clear c13
       try clear c13b0
       try clear c13b1
       try clear p14
       try clear q14
       try clear hx14
       try clear qi14
       try clear c15
       try clear c15b0
       try clear c15b1
       try clear p16
       try clear q16
       try clear hx16
       try clear qi16
       try clear c17
       try clear c19
       try clear c19b0
       try clear c19b1
       try clear p20
       try clear q20
       try clear hx20
       try clear qi20
       try clear c21
       try clear c21b0
       try clear c21b1
       try clear p22
       try clear q22
       try clear hx22
       try clear qi22
       try clear c24
       try clear c24b0
       try clear c24b1
       try clear hcz18_0
       try clear hcz18_1
       try clear hcz18_2
       try clear hfz18_0
       try clear hfz18_1
       try clear hfz18_2
       try clear p1
       try clear p14
       try clear p16
       try clear p2
       try clear p20
       try clear p22
       try clear q1
       try clear q14
       try clear q16
       try clear q20
       try clear q22
       obtain ⟨kq, x56_22, rfl, HA, HJ22, BK208, HB⟩ := hcut
       cases kq with
       | zero => exact absurd HA.out (by simp [object_Select.j1])
       | succ kj22 =>
        have H := HA.out
        clear HA
        simp only [object_Select.j1] at H
        by_cases c25 : x56_22 = true
        ·subst c25
         have H1 : ((object_words.f kj22 l0 t209 a1 a2 ((bt a3 1) == 87) ((bt a3 0) == 97)).bind fun bt211 => (if bt211.2.2 = true then (some (bt211.1, bt211.2.1, 1, 0)) else (some (0, 0, 0, 130)))) = some (r1, r2, r3, r4) := by rw [if_pos rfl] at H; exact H
         clear H
         have H := H1
         clear H1
         replace H := Option.bind_eq_some_iff.mp H
         obtain ⟨⟨t211, t212, t213⟩, A260, H⟩ := H
         replace H : (if t213 = true then (some (t211, t212, 1, 0)) else (some (0, 0, 0, 130))) = some (r1, r2, r3, r4) := H
         have A26 := Aside0.mk A260
         clear A260
         by_cases c27 : t213 = true
         ·subst c27
          have H1 : (some (t211, t212, 1, 0)) = some (r1, r2, r3, r4) := by rw [if_pos rfl] at H; exact H
          clear H
          have H := H1
          clear H1
          simp only [Option.some.injEq, Prod.mk.injEq] at H
          obtain ⟨rfl, rfl, rfl, rfl⟩ := H
          go_wp2_with (first | ((with_reducible refine gate_callee (f := 27) rfl ?_); refine goesL_ (some 71) rfl rfl Tryd.func27 (by kernel_rfl) rfl #[.slice A0 l0.length c0, .int .i64 t209, .int .i64 a1, .int .i64 a2, .bool ((bt a3 1) == 87), .bool ((bt a3 0) == 97)] rfl (by (try simp only [List.map_toArray, List.map_cons, List.map_nil]); first | done | rfl | (simp only [List.length_drop, List.length_take]; rfl)) ?_; (with_reducible refine (object_words.calls kj22 _ _ l0 t209 a1 a2 ((bt a3 1) == 87) ((bt a3 0) == 97) t211 t212 true _ ?side1 ?side2 A26.out).mono ?_); (case side1 => repeat (first | exact (Kd.C_below HR0.out HB.out) | (with_reducible refine Kd.C_alloc ?_ _) | (with_reducible refine Kd.C_drewN ?_ _) | (with_reducible refine Kd.C_drew ?_))); (case side2 => exact HC0.out); rintro e w28 ⟨rfl, hb⟩; refine ⟨_, rfl, ?_⟩; have n0_ := Aside0.mk (blk_below (g := gb208) (o := .cells #[.int .i64 0, .int .i64 0, .int .i64 0] 29 (0, 0)) (by (with_reducible repeat (first | refine blk_drewN ?_ _ | refine blk_drew ?_ | refine blk_alloc ?_ _)); exact BK208.out) hb); have n1_ := Aside0.mk (below_step (by repeat (first | (with_reducible first | exact HB.out | apply below_alloc | apply pw_below_drewN | apply below_drew1 | refine below_set ?_ GE208.out) | exact HB.out)) hb); clear BK208; clear HB; have BK208 := n0_; have HB := n1_; clear n0_ n1_; (try clear hb); (try clear hb2); (try clear hk); (try clear hi); have hcz29_0 : w28.cell? ⟨gb208, 0, none⟩ = some (.int .i64 0) := (blk_cell BK208.out 0).trans rfl; have hcz29_1 : w28.cell? ⟨gb208, 1, none⟩ = some (.int .i64 0) := (blk_cell BK208.out 1).trans rfl; have hcz29_2 : w28.cell? ⟨gb208, 2, none⟩ = some (.int .i64 0) := (blk_cell BK208.out 2).trans rfl; have hfz29_0 := blk_frozen BK208.out 0; have hfz29_1 := blk_frozen BK208.out 1; have hfz29_2 := blk_frozen BK208.out 2))
          refine bodyPost_ret (results_ct rfl _ _ gb208 29 #[.int .i64 t211, .int .i64 t212, .int .i64 1] (0, 0) _ rfl (by (with_reducible repeat (first | refine blk_drewN ?_ _ | refine blk_drew ?_ | refine blk_alloc ?_ _)); refine blk_put (cs := #[.int .i64 t211, .int .i64 t212, .int .i64 0]) ?_ 2 _ rfl; (with_reducible repeat (first | refine blk_drewN ?_ _ | refine blk_drew ?_ | refine blk_alloc ?_ _)); refine blk_put (cs := #[.int .i64 t211, .int .i64 0, .int .i64 0]) ?_ 1 _ rfl; (with_reducible repeat (first | refine blk_drewN ?_ _ | refine blk_drew ?_ | refine blk_alloc ?_ _)); refine blk_put (cs := #[.int .i64 0, .int .i64 0, .int .i64 0]) ?_ 0 _ rfl; (with_reducible repeat (first | refine blk_drewN ?_ _ | refine blk_drew ?_ | refine blk_alloc ?_ _)); exact BK208.out) Tryd.underlying29 rfl (by kernel_rfl)) rfl ?_
          exact ⟨by first | rfl | (simp [errW_none, errW_some] <;> rfl) | (simp [*, errW_none, errW_some] <;> rfl), by repeat (first | (with_reducible first | exact HB.out | apply below_alloc | apply pw_below_drewN | apply below_drew1 | refine below_set ?_ GE208.out) | exact HB.out)⟩
         ·replace c27 := Bool.eq_false_iff.mpr c27
          subst c27
          have H1 : (some (0, 0, 0, 130)) = some (r1, r2, r3, r4) := by rw [if_neg (show ¬ (false = true) by decide)] at H; exact H
          clear H
          have H := H1
          clear H1
          simp only [Option.some.injEq, Prod.mk.injEq] at H
          obtain ⟨rfl, rfl, rfl, rfl⟩ := H
          go_wp2_with (first | ((with_reducible refine gate_callee (f := 27) rfl ?_); refine goesL_ (some 71) rfl rfl Tryd.func27 (by kernel_rfl) rfl #[.slice A0 l0.length c0, .int .i64 t209, .int .i64 a1, .int .i64 a2, .bool ((bt a3 1) == 87), .bool ((bt a3 0) == 97)] rfl (by (try simp only [List.map_toArray, List.map_cons, List.map_nil]); first | done | rfl | (simp only [List.length_drop, List.length_take]; rfl)) ?_; (with_reducible refine (object_words.calls kj22 _ _ l0 t209 a1 a2 ((bt a3 1) == 87) ((bt a3 0) == 97) t211 t212 false _ ?side1 ?side2 A26.out).mono ?_); (case side1 => repeat (first | exact (Kd.C_below HR0.out HB.out) | (with_reducible refine Kd.C_alloc ?_ _) | (with_reducible refine Kd.C_drewN ?_ _) | (with_reducible refine Kd.C_drew ?_))); (case side2 => exact HC0.out); rintro e w30 ⟨rfl, hb⟩; refine ⟨_, rfl, ?_⟩; have n0_ := Aside0.mk (blk_below (g := gb208) (o := .cells #[.int .i64 0, .int .i64 0, .int .i64 0] 29 (0, 0)) (by (with_reducible repeat (first | refine blk_drewN ?_ _ | refine blk_drew ?_ | refine blk_alloc ?_ _)); exact BK208.out) hb); have n1_ := Aside0.mk (below_step (by repeat (first | (with_reducible first | exact HB.out | apply below_alloc | apply pw_below_drewN | apply below_drew1 | refine below_set ?_ GE208.out) | exact HB.out)) hb); clear BK208; clear HB; have BK208 := n0_; have HB := n1_; clear n0_ n1_; (try clear hb); (try clear hb2); (try clear hk); (try clear hi); have hcz31_0 : w30.cell? ⟨gb208, 0, none⟩ = some (.int .i64 0) := (blk_cell BK208.out 0).trans rfl; have hcz31_1 : w30.cell? ⟨gb208, 1, none⟩ = some (.int .i64 0) := (blk_cell BK208.out 1).trans rfl; have hcz31_2 : w30.cell? ⟨gb208, 2, none⟩ = some (.int .i64 0) := (blk_cell BK208.out 2).trans rfl; have hfz31_0 := blk_frozen BK208.out 0; have hfz31_1 := blk_frozen BK208.out 1; have hfz31_2 := blk_frozen BK208.out 2))
          refine bodyPost_ret (results_ct rfl _ _ gb208 29 #[.int .i64 0, .int .i64 0, .int .i64 0] (0, 0) _ rfl (by (with_reducible repeat (first | refine blk_drewN ?_ _ | refine blk_drew ?_ | refine blk_alloc ?_ _)); refine blk_put (cs := #[.int .i64 0, .int .i64 0, .int .i64 0]) ?_ 2 _ rfl; (with_reducible repeat (first | refine blk_drewN ?_ _ | refine blk_drew ?_ | refine blk_alloc ?_ _)); refine blk_put (cs := #[.int .i64 0, .int .i64 0, .int .i64 0]) ?_ 1 _ rfl; (with_reducible repeat (first | refine blk_drewN ?_ _ | refine blk_drew ?_ | refine blk_alloc ?_ _)); refine blk_put (cs := #[.int .i64 0, .int .i64 0, .int .i64 0]) ?_ 0 _ rfl; (with_reducible repeat (first | refine blk_drewN ?_ _ | refine blk_drew ?_ | refine blk_alloc ?_ _)); exact BK208.out) Tryd.underlying29 rfl (by kernel_rfl)) rfl ?_
          exact ⟨by first | rfl | (simp [errW_none, errW_some] <;> rfl) | (simp [*, errW_none, errW_some] <;> rfl), by repeat (first | (with_reducible first | exact HB.out | apply below_alloc | apply pw_below_drewN | apply below_drew1 | refine below_set ?_ GE208.out) | exact HB.out)⟩
        ·replace c25 := Bool.eq_false_iff.mpr c25
         subst c25
         have H1 : (if (bt a3 1) = 112 then ((object_paragraphs.f kj22 l0 t209 a2 ((bt a3 0) == 97)).bind fun bt214 => (if bt214.2.2 = true then (some (bt214.1, bt214.2.1, 3, 0)) else (some (0, 0, 0, 130)))) else (if (bt a3 1) = 34 then (object_Select.j2 kj22 l0 a1 a2 t209 ((bt a3 0) == 97) 1 (bt a3 1) true) else (if (bt a3 1) = 39 then (object_Select.j2 kj22 l0 a1 a2 t209 ((bt a3 0) == 97) 1 (bt a3 1) true) else (object_Select.j2 kj22 l0 a1 a2 t209 ((bt a3 0) == 97) 1 (bt a3 1) ((bt a3 1) == 96))))) = some (r1, r2, r3, r4) := by rw [if_neg (show ¬ (false = true) by decide)] at H; exact H
         clear H
         have H := H1
         clear H1
         by_cases c32 : (bt a3 1) = 112
         ·rw [if_pos c32] at H
          have c32b0 : ((bt a3 1) == 112) = true := beq_iff_eq.mpr c32
          have c32b1 : ((bt a3 1) != 112) = false := bne_eq_false_iff_eq.mpr c32
          clear c32
          replace H := Option.bind_eq_some_iff.mp H
          obtain ⟨⟨t214, t215, t216⟩, A330, H⟩ := H
          replace H : (if t216 = true then (some (t214, t215, 3, 0)) else (some (0, 0, 0, 130))) = some (r1, r2, r3, r4) := H
          have A33 := Aside0.mk A330
          clear A330
          by_cases c34 : t216 = true
          ·subst c34
           have H1 : (some (t214, t215, 3, 0)) = some (r1, r2, r3, r4) := by rw [if_pos rfl] at H; exact H
           clear H
           have H := H1
           clear H1
           simp only [Option.some.injEq, Prod.mk.injEq] at H
           obtain ⟨rfl, rfl, rfl, rfl⟩ := H
           go_wp2_with (first | ((with_reducible refine gate_callee (f := 28) rfl ?_); refine goesL_ (some 83) rfl rfl Tryd.func28 (by kernel_rfl) rfl #[.slice A0 l0.length c0, .int .i64 t209, .int .i64 a2, .bool ((bt a3 0) == 97)] rfl (by (try simp only [List.map_toArray, List.map_cons, List.map_nil]); first | done | rfl | (simp only [List.length_drop, List.length_take]; rfl)) ?_; (with_reducible refine (object_paragraphs.calls kj22 _ _ l0 t209 a2 ((bt a3 0) == 97) t214 t215 true _ ?side1 ?side2 A33.out).mono ?_); (case side1 => repeat (first | exact (Kd.C_below HR0.out HB.out) | (with_reducible refine Kd.C_alloc ?_ _) | (with_reducible refine Kd.C_drewN ?_ _) | (with_reducible refine Kd.C_drew ?_))); (case side2 => exact HC0.out); rintro e w35 ⟨rfl, hb⟩; refine ⟨_, rfl, ?_⟩; have n0_ := Aside0.mk (blk_below (g := gb208) (o := .cells #[.int .i64 0, .int .i64 0, .int .i64 0] 29 (0, 0)) (by (with_reducible repeat (first | refine blk_drewN ?_ _ | refine blk_drew ?_ | refine blk_alloc ?_ _)); exact BK208.out) hb); have n1_ := Aside0.mk (below_step (by repeat (first | (with_reducible first | exact HB.out | apply below_alloc | apply pw_below_drewN | apply below_drew1 | refine below_set ?_ GE208.out) | exact HB.out)) hb); clear BK208; clear HB; have BK208 := n0_; have HB := n1_; clear n0_ n1_; (try clear hb); (try clear hb2); (try clear hk); (try clear hi); have hcz36_0 : w35.cell? ⟨gb208, 0, none⟩ = some (.int .i64 0) := (blk_cell BK208.out 0).trans rfl; have hcz36_1 : w35.cell? ⟨gb208, 1, none⟩ = some (.int .i64 0) := (blk_cell BK208.out 1).trans rfl; have hcz36_2 : w35.cell? ⟨gb208, 2, none⟩ = some (.int .i64 0) := (blk_cell BK208.out 2).trans rfl; have hfz36_0 := blk_frozen BK208.out 0; have hfz36_1 := blk_frozen BK208.out 1; have hfz36_2 := blk_frozen BK208.out 2))
           refine bodyPost_ret (results_ct rfl _ _ gb208 29 #[.int .i64 t214, .int .i64 t215, .int .i64 3] (0, 0) _ rfl (by (with_reducible repeat (first | refine blk_drewN ?_ _ | refine blk_drew ?_ | refine blk_alloc ?_ _)); refine blk_put (cs := #[.int .i64 t214, .int .i64 t215, .int .i64 0]) ?_ 2 _ rfl; (with_reducible repeat (first | refine blk_drewN ?_ _ | refine blk_drew ?_ | refine blk_alloc ?_ _)); refine blk_put (cs := #[.int .i64 t214, .int .i64 0, .int .i64 0]) ?_ 1 _ rfl; (with_reducible repeat (first | refine blk_drewN ?_ _ | refine blk_drew ?_ | refine blk_alloc ?_ _)); refine blk_put (cs := #[.int .i64 0, .int .i64 0, .int .i64 0]) ?_ 0 _ rfl; (with_reducible repeat (first | refine blk_drewN ?_ _ | refine blk_drew ?_ | refine blk_alloc ?_ _)); exact BK208.out) Tryd.underlying29 rfl (by kernel_rfl)) rfl ?_
           exact ⟨by first | rfl | (simp [errW_none, errW_some] <;> rfl) | (simp [*, errW_none, errW_some] <;> rfl), by repeat (first | (with_reducible first | exact HB.out | apply below_alloc | apply pw_below_drewN | apply below_drew1 | refine below_set ?_ GE208.out) | exact HB.out)⟩
          ·replace c34 := Bool.eq_false_iff.mpr c34
           subst c34
           have H1 : (some (0, 0, 0, 130)) = some (r1, r2, r3, r4) := by rw [if_neg (show ¬ (false = true) by decide)] at H; exact H
           clear H
           have H := H1
           clear H1
           simp only [Option.some.injEq, Prod.mk.injEq] at H
           obtain ⟨rfl, rfl, rfl, rfl⟩ := H
           go_wp2_with (first | ((with_reducible refine gate_callee (f := 28) rfl ?_); refine goesL_ (some 83) rfl rfl Tryd.func28 (by kernel_rfl) rfl #[.slice A0 l0.length c0, .int .i64 t209, .int .i64 a2, .bool ((bt a3 0) == 97)] rfl (by (try simp only [List.map_toArray, List.map_cons, List.map_nil]); first | done | rfl | (simp only [List.length_drop, List.length_take]; rfl)) ?_; (with_reducible refine (object_paragraphs.calls kj22 _ _ l0 t209 a2 ((bt a3 0) == 97) t214 t215 false _ ?side1 ?side2 A33.out).mono ?_); (case side1 => repeat (first | exact (Kd.C_below HR0.out HB.out) | (with_reducible refine Kd.C_alloc ?_ _) | (with_reducible refine Kd.C_drewN ?_ _) | (with_reducible refine Kd.C_drew ?_))); (case side2 => exact HC0.out); rintro e w37 ⟨rfl, hb⟩; refine ⟨_, rfl, ?_⟩; have n0_ := Aside0.mk (blk_below (g := gb208) (o := .cells #[.int .i64 0, .int .i64 0, .int .i64 0] 29 (0, 0)) (by (with_reducible repeat (first | refine blk_drewN ?_ _ | refine blk_drew ?_ | refine blk_alloc ?_ _)); exact BK208.out) hb); have n1_ := Aside0.mk (below_step (by repeat (first | (with_reducible first | exact HB.out | apply below_alloc | apply pw_below_drewN | apply below_drew1 | refine below_set ?_ GE208.out) | exact HB.out)) hb); clear BK208; clear HB; have BK208 := n0_; have HB := n1_; clear n0_ n1_; (try clear hb); (try clear hb2); (try clear hk); (try clear hi); have hcz38_0 : w37.cell? ⟨gb208, 0, none⟩ = some (.int .i64 0) := (blk_cell BK208.out 0).trans rfl; have hcz38_1 : w37.cell? ⟨gb208, 1, none⟩ = some (.int .i64 0) := (blk_cell BK208.out 1).trans rfl; have hcz38_2 : w37.cell? ⟨gb208, 2, none⟩ = some (.int .i64 0) := (blk_cell BK208.out 2).trans rfl; have hfz38_0 := blk_frozen BK208.out 0; have hfz38_1 := blk_frozen BK208.out 1; have hfz38_2 := blk_frozen BK208.out 2))
           refine bodyPost_ret (results_ct rfl _ _ gb208 29 #[.int .i64 0, .int .i64 0, .int .i64 0] (0, 0) _ rfl (by (with_reducible repeat (first | refine blk_drewN ?_ _ | refine blk_drew ?_ | refine blk_alloc ?_ _)); refine blk_put (cs := #[.int .i64 0, .int .i64 0, .int .i64 0]) ?_ 2 _ rfl; (with_reducible repeat (first | refine blk_drewN ?_ _ | refine blk_drew ?_ | refine blk_alloc ?_ _)); refine blk_put (cs := #[.int .i64 0, .int .i64 0, .int .i64 0]) ?_ 1 _ rfl; (with_reducible repeat (first | refine blk_drewN ?_ _ | refine blk_drew ?_ | refine blk_alloc ?_ _)); refine blk_put (cs := #[.int .i64 0, .int .i64 0, .int .i64 0]) ?_ 0 _ rfl; (with_reducible repeat (first | refine blk_drewN ?_ _ | refine blk_drew ?_ | refine blk_alloc ?_ _)); exact BK208.out) Tryd.underlying29 rfl (by kernel_rfl)) rfl ?_
           exact ⟨by first | rfl | (simp [errW_none, errW_some] <;> rfl) | (simp [*, errW_none, errW_some] <;> rfl), by repeat (first | (with_reducible first | exact HB.out | apply below_alloc | apply pw_below_drewN | apply below_drew1 | refine below_set ?_ GE208.out) | exact HB.out)⟩
         ·rw [if_neg c32] at H
          have c32b0 : ((bt a3 1) == 112) = false := beq_eq_false_iff_ne.mpr c32
          have c32b1 : ((bt a3 1) != 112) = true := bne_iff_ne.mpr c32
          have HC39 := Aside0.mk H
          clear H
          go_upto_region 15 with (fail)
          go_cut [87] (fun v87 wc => ∃ (kq : Nat) (x87_38 : Bool), v87 = .bool x87_38 ∧ Aside0 (object_Select.j2 kq l0 a1 a2 t209 ((bt a3 0) == 97) 1 (bt a3 1) x87_38 = some (r1, r2, r3, r4)) ∧ Aside0 (kq ≤ kj22) ∧ Aside0 (wc.heap[gb208]? = some (.cells #[.int .i64 0, .int .i64 0, .int .i64 0] 29 (0, 0))) ∧ Aside0 (Below w.heap.size w wc))
          case first =>
           have H := HC39.out
           clear HC39
           by_cases c40 : (bt a3 1) = 34
           ·rw [if_pos c40] at H
            have c40b0 : ((bt a3 1) == 34) = true := beq_iff_eq.mpr c40
            have c40b1 : ((bt a3 1) != 34) = false := bne_eq_false_iff_eq.mpr c40
            clear c40
            (first | rw [c40b0] | (simp only [i64_w, i32_w]; rw [c40b0]) | skip)
            have H' := Aside0.mk H
            clear H
            go_wp2
            go_meet
            case rel => exact ⟨_, (true), (by first | rfl | (simp; done) | (simp [*]; done)), H', ⟨by have := HJ5.out; have := HJ22.out; first | omega | exact Nat.le_refl _⟩, ⟨by (with_reducible repeat (first | refine blk_drewN ?_ _ | refine blk_drew ?_ | refine blk_alloc ?_ _)); exact BK208.out⟩, ⟨by repeat (first | (with_reducible first | exact HB.out | apply below_alloc | apply pw_below_drewN | apply below_drew1 | refine below_set ?_ GE208.out) | exact HB.out)⟩⟩
           ·rw [if_neg c40] at H
            have c40b0 : ((bt a3 1) == 34) = false := beq_eq_false_iff_ne.mpr c40
            have c40b1 : ((bt a3 1) != 34) = true := bne_iff_ne.mpr c40
            (first | rw [c40b0] | (simp only [i64_w, i32_w]; rw [c40b0]) | skip)
            by_cases c41 : (bt a3 1) = 39
            ·rw [if_pos c41] at H
             have c41b0 : ((bt a3 1) == 39) = true := beq_iff_eq.mpr c41
             have c41b1 : ((bt a3 1) != 39) = false := bne_eq_false_iff_eq.mpr c41
             clear c41
             have H' := Aside0.mk H
             clear H
             go_wp2
             go_meet
             case rel => exact ⟨_, (true), (by first | rfl | (simp; done) | (simp [*]; done)), H', ⟨by have := HJ5.out; have := HJ22.out; first | omega | exact Nat.le_refl _⟩, ⟨by (with_reducible repeat (first | refine blk_drewN ?_ _ | refine blk_drew ?_ | refine blk_alloc ?_ _)); exact BK208.out⟩, ⟨by repeat (first | (with_reducible first | exact HB.out | apply below_alloc | apply pw_below_drewN | apply below_drew1 | refine below_set ?_ GE208.out) | exact HB.out)⟩⟩
            ·rw [if_neg c41] at H
             have c41b0 : ((bt a3 1) == 39) = false := beq_eq_false_iff_ne.mpr c41
             have c41b1 : ((bt a3 1) != 39) = true := bne_iff_ne.mpr c41
             have H' := Aside0.mk H
             clear H
             go_wp2
             go_meet
             case rel => exact ⟨_, (((bt a3 1) == 96)), (by first | rfl | (simp; done) | (simp [*]; done)), H', ⟨by have := HJ5.out; have := HJ22.out; first | omega | exact Nat.le_refl _⟩, ⟨by (with_reducible repeat (first | refine blk_drewN ?_ _ | refine blk_drew ?_ | refine blk_alloc ?_ _)); exact BK208.out⟩, ⟨by repeat (first | (with_reducible first | exact HB.out | apply below_alloc | apply pw_below_drewN | apply below_drew1 | refine below_set ?_ GE208.out) | exact HB.out)⟩⟩
          case rest =>
           clear HC39
           try clear c1
           try clear p1
           try clear q1
           try clear hx1
           try clear qi1
           try clear c2
           try clear p2
           try clear q2
           try clear hx2
           try clear qi2
           try clear c3
           try clear c4
           try clear c9
           try clear c9b0
           try clear c9b1
           try clear c10
           try clear c10b0
           try clear c11
           try clear c11b0
           try clear c12
           try clear c12b0
           try clear c12b1
           try clear c13
           try clear c13b0
           try clear c13b1
           try clear p14
           try clear q14
           try clear hx14
           try clear qi14
           try clear c15
           try clear c15b0
           try clear c15b1
           try clear p16
           try clear q16
           try clear hx16
           try clear qi16
           try clear c17
           try clear c19
           try clear c19b0
           try clear c19b1
           try clear p20
           try clear q20
           try clear hx20
           try clear qi20
           try clear c21
           try clear c21b0
           try clear c21b1
           try clear p22
           try clear q22
           try clear hx22
           try clear qi22
           try clear c24
           try clear c24b0
           try clear c24b1
           try clear c25
           try clear c26
           try clear c27
           try clear c28
           try clear c32
           try clear c32b0
           try clear c32b1
           try clear c34
           try clear c40
           try clear c40b0
           try clear c40b1
           try clear c41
           try clear c41b0
           try clear c41b1
           try clear hcz18_0
           try clear hcz18_1
           try clear hcz18_2
           try clear hcz29_0
           try clear hcz29_1
           try clear hcz29_2
           try clear hcz31_0
           try clear hcz31_1
           try clear hcz31_2
           try clear hcz36_0
           try clear hcz36_1
           try clear hcz36_2
           try clear hcz38_0
           try clear hcz38_1
           try clear hcz38_2
           try clear hfz18_0
           try clear hfz18_1
           try clear hfz18_2
           try clear hfz29_0
           try clear hfz29_1
           try clear hfz29_2
           try clear hfz31_0
           try clear hfz31_1
           try clear hfz31_2
           try clear hfz36_0
           try clear hfz36_1
           try clear hfz36_2
           try clear hfz38_0
           try clear hfz38_1
           try clear hfz38_2
           try clear p1
           try clear p14
           try clear p16
           try clear p2
           try clear p20
           try clear p22
           try clear q1
           try clear q14
           try clear q16
           try clear q2
           try clear q20
           try clear q22
           obtain ⟨kq, x87_38, rfl, HA, HJ38, BK208, HB⟩ := hcut
           cases kq with
           | zero => exact absurd HA.out (by simp [object_Select.j2])
           | succ kj38 =>
            have H := HA.out
            clear HA
            simp only [object_Select.j2] at H
            by_cases c42 : x87_38 = true
            ·subst c42
             have H1 : ((object_quoted.f kj38 l0 t209 a1 (bt a3 1) ((bt a3 0) == 97)).bind fun bt217 => (if bt217.2.2 = true then (some (bt217.1, bt217.2.1, 1, 0)) else (some (0, 0, 0, 130)))) = some (r1, r2, r3, r4) := by rw [if_pos rfl] at H; exact H
             clear H
             have H := H1
             clear H1
             replace H := Option.bind_eq_some_iff.mp H
             obtain ⟨⟨t217, t218, t219⟩, A430, H⟩ := H
             replace H : (if t219 = true then (some (t217, t218, 1, 0)) else (some (0, 0, 0, 130))) = some (r1, r2, r3, r4) := H
             have A43 := Aside0.mk A430
             clear A430
             by_cases c44 : t219 = true
             ·subst c44
              have H1 : (some (t217, t218, 1, 0)) = some (r1, r2, r3, r4) := by rw [if_pos rfl] at H; exact H
              clear H
              have H := H1
              clear H1
              simp only [Option.some.injEq, Prod.mk.injEq] at H
              obtain ⟨rfl, rfl, rfl, rfl⟩ := H
              go_wp2_with (first | ((with_reducible refine gate_callee (f := 29) rfl ?_); refine goesL_ (some 104) rfl rfl Tryd.func29 (by kernel_rfl) rfl #[.slice A0 l0.length c0, .int .i64 t209, .int .i64 a1, .int .u8 (bt a3 1), .bool ((bt a3 0) == 97)] rfl (by (try simp only [List.map_toArray, List.map_cons, List.map_nil]); first | done | rfl | (simp only [List.length_drop, List.length_take]; rfl)) ?_; (with_reducible refine (object_quoted.calls kj38 _ _ l0 t209 a1 (bt a3 1) ((bt a3 0) == 97) t217 t218 true _ ?side1 ?side2 A43.out).mono ?_); (case side1 => repeat (first | exact (Kd.C_below HR0.out HB.out) | (with_reducible refine Kd.C_alloc ?_ _) | (with_reducible refine Kd.C_drewN ?_ _) | (with_reducible refine Kd.C_drew ?_))); (case side2 => exact HC0.out); rintro e w' ⟨rfl, ⟨nd, rfl⟩⟩; refine ⟨_, rfl, ?_⟩; (try (rw [drewN_self wc]; generalize hq_ : World.drewN wc _ = wc; have n0_ : Aside0 (wc.heap[gb208]? = some (.cells #[.int .i64 0, .int .i64 0, .int .i64 0] 29 (0, 0))) := ⟨by rw [← hq_]; exact (by (with_reducible repeat (first | refine blk_drewN ?_ _ | refine blk_drew ?_ | refine blk_alloc ?_ _)); exact BK208.out)⟩; have n1_ : Aside0 (Below w.heap.size w wc) := ⟨by rw [← hq_]; exact (by repeat (first | (with_reducible first | exact HB.out | apply below_alloc | apply pw_below_drewN | apply below_drew1 | refine below_set ?_ GE208.out) | exact HB.out))⟩; clear BK208 HB hq_; have BK208 := n0_; have HB := n1_; clear n0_ n1_)); (try have hcy208_0 : wc.cell? ⟨gb208, 0, none⟩ = some (.int .i64 0) := (blk_cell BK208.out 0).trans rfl); (try have hfy208_0 := blk_frozen BK208.out 0); (try have hcy208_1 : wc.cell? ⟨gb208, 1, none⟩ = some (.int .i64 0) := (blk_cell BK208.out 1).trans rfl); (try have hfy208_1 := blk_frozen BK208.out 1); (try have hcy208_2 : wc.cell? ⟨gb208, 2, none⟩ = some (.int .i64 0) := (blk_cell BK208.out 2).trans rfl); (try have hfy208_2 := blk_frozen BK208.out 2); have hcz45_0 : wc.cell? ⟨gb208, 0, none⟩ = some (.int .i64 0) := (blk_cell BK208.out 0).trans rfl; have hcz45_1 : wc.cell? ⟨gb208, 1, none⟩ = some (.int .i64 0) := (blk_cell BK208.out 1).trans rfl; have hcz45_2 : wc.cell? ⟨gb208, 2, none⟩ = some (.int .i64 0) := (blk_cell BK208.out 2).trans rfl; have hfz45_0 := blk_frozen BK208.out 0; have hfz45_1 := blk_frozen BK208.out 1; have hfz45_2 := blk_frozen BK208.out 2))
              refine bodyPost_ret (results_ct rfl _ _ gb208 29 #[.int .i64 t217, .int .i64 t218, .int .i64 1] (0, 0) _ rfl (by (with_reducible repeat (first | refine blk_drewN ?_ _ | refine blk_drew ?_ | refine blk_alloc ?_ _)); refine blk_put (cs := #[.int .i64 t217, .int .i64 t218, .int .i64 0]) ?_ 2 _ rfl; (with_reducible repeat (first | refine blk_drewN ?_ _ | refine blk_drew ?_ | refine blk_alloc ?_ _)); refine blk_put (cs := #[.int .i64 t217, .int .i64 0, .int .i64 0]) ?_ 1 _ rfl; (with_reducible repeat (first | refine blk_drewN ?_ _ | refine blk_drew ?_ | refine blk_alloc ?_ _)); refine blk_put (cs := #[.int .i64 0, .int .i64 0, .int .i64 0]) ?_ 0 _ rfl; (with_reducible repeat (first | refine blk_drewN ?_ _ | refine blk_drew ?_ | refine blk_alloc ?_ _)); exact BK208.out) Tryd.underlying29 rfl (by kernel_rfl)) rfl ?_
              exact ⟨by first | rfl | (simp [errW_none, errW_some] <;> rfl) | (simp [*, errW_none, errW_some] <;> rfl), by repeat (first | (with_reducible first | exact HB.out | apply below_alloc | apply pw_below_drewN | apply below_drew1 | refine below_set ?_ GE208.out) | exact HB.out)⟩
             ·replace c44 := Bool.eq_false_iff.mpr c44
              subst c44
              have H1 : (some (0, 0, 0, 130)) = some (r1, r2, r3, r4) := by rw [if_neg (show ¬ (false = true) by decide)] at H; exact H
              clear H
              have H := H1
              clear H1
              simp only [Option.some.injEq, Prod.mk.injEq] at H
              obtain ⟨rfl, rfl, rfl, rfl⟩ := H
              go_wp2_with (first | ((with_reducible refine gate_callee (f := 29) rfl ?_); refine goesL_ (some 104) rfl rfl Tryd.func29 (by kernel_rfl) rfl #[.slice A0 l0.length c0, .int .i64 t209, .int .i64 a1, .int .u8 (bt a3 1), .bool ((bt a3 0) == 97)] rfl (by (try simp only [List.map_toArray, List.map_cons, List.map_nil]); first | done | rfl | (simp only [List.length_drop, List.length_take]; rfl)) ?_; (with_reducible refine (object_quoted.calls kj38 _ _ l0 t209 a1 (bt a3 1) ((bt a3 0) == 97) t217 t218 false _ ?side1 ?side2 A43.out).mono ?_); (case side1 => repeat (first | exact (Kd.C_below HR0.out HB.out) | (with_reducible refine Kd.C_alloc ?_ _) | (with_reducible refine Kd.C_drewN ?_ _) | (with_reducible refine Kd.C_drew ?_))); (case side2 => exact HC0.out); rintro e w' ⟨rfl, ⟨nd, rfl⟩⟩; refine ⟨_, rfl, ?_⟩; (try (rw [drewN_self wc]; generalize hq_ : World.drewN wc _ = wc; have n0_ : Aside0 (wc.heap[gb208]? = some (.cells #[.int .i64 0, .int .i64 0, .int .i64 0] 29 (0, 0))) := ⟨by rw [← hq_]; exact (by (with_reducible repeat (first | refine blk_drewN ?_ _ | refine blk_drew ?_ | refine blk_alloc ?_ _)); exact BK208.out)⟩; have n1_ : Aside0 (Below w.heap.size w wc) := ⟨by rw [← hq_]; exact (by repeat (first | (with_reducible first | exact HB.out | apply below_alloc | apply pw_below_drewN | apply below_drew1 | refine below_set ?_ GE208.out) | exact HB.out))⟩; clear BK208 HB hq_; have BK208 := n0_; have HB := n1_; clear n0_ n1_)); (try have hcy208_0 : wc.cell? ⟨gb208, 0, none⟩ = some (.int .i64 0) := (blk_cell BK208.out 0).trans rfl); (try have hfy208_0 := blk_frozen BK208.out 0); (try have hcy208_1 : wc.cell? ⟨gb208, 1, none⟩ = some (.int .i64 0) := (blk_cell BK208.out 1).trans rfl); (try have hfy208_1 := blk_frozen BK208.out 1); (try have hcy208_2 : wc.cell? ⟨gb208, 2, none⟩ = some (.int .i64 0) := (blk_cell BK208.out 2).trans rfl); (try have hfy208_2 := blk_frozen BK208.out 2); have hcz46_0 : wc.cell? ⟨gb208, 0, none⟩ = some (.int .i64 0) := (blk_cell BK208.out 0).trans rfl; have hcz46_1 : wc.cell? ⟨gb208, 1, none⟩ = some (.int .i64 0) := (blk_cell BK208.out 1).trans rfl; have hcz46_2 : wc.cell? ⟨gb208, 2, none⟩ = some (.int .i64 0) := (blk_cell BK208.out 2).trans rfl; have hfz46_0 := blk_frozen BK208.out 0; have hfz46_1 := blk_frozen BK208.out 1; have hfz46_2 := blk_frozen BK208.out 2))
              refine bodyPost_ret (results_ct rfl _ _ gb208 29 #[.int .i64 0, .int .i64 0, .int .i64 0] (0, 0) _ rfl (by (with_reducible repeat (first | refine blk_drewN ?_ _ | refine blk_drew ?_ | refine blk_alloc ?_ _)); refine blk_put (cs := #[.int .i64 0, .int .i64 0, .int .i64 0]) ?_ 2 _ rfl; (with_reducible repeat (first | refine blk_drewN ?_ _ | refine blk_drew ?_ | refine blk_alloc ?_ _)); refine blk_put (cs := #[.int .i64 0, .int .i64 0, .int .i64 0]) ?_ 1 _ rfl; (with_reducible repeat (first | refine blk_drewN ?_ _ | refine blk_drew ?_ | refine blk_alloc ?_ _)); refine blk_put (cs := #[.int .i64 0, .int .i64 0, .int .i64 0]) ?_ 0 _ rfl; (with_reducible repeat (first | refine blk_drewN ?_ _ | refine blk_drew ?_ | refine blk_alloc ?_ _)); exact BK208.out) Tryd.underlying29 rfl (by kernel_rfl)) rfl ?_
              exact ⟨by first | rfl | (simp [errW_none, errW_some] <;> rfl) | (simp [*, errW_none, errW_some] <;> rfl), by repeat (first | (with_reducible first | exact HB.out | apply below_alloc | apply pw_below_drewN | apply below_drew1 | refine below_set ?_ GE208.out) | exact HB.out)⟩
            ·replace c42 := Bool.eq_false_iff.mpr c42
             subst c42
             have H1 : ((strings_IndexByte.f (⟨#[40, 41, 98, 91, 93, 123, 125, 66]⟩ : ByteArray) (bt a3 1)).bind fun t220 => (if t220 ≥ 0 then ((object_opener.f (bt a3 1)).bind fun t221 => ((object_bracketed.f kj38 l0 a1 a2 t221 ((bt a3 0) == 97)).bind fun bt222 => (if bt222.2.2 = true then (some (bt222.1, bt222.2.1, 1, 0)) else (some (0, 0, 0, 130))))) else (some (0, 0, 0, 2)))) = some (r1, r2, r3, r4) := by rw [if_neg (show ¬ (false = true) by decide)] at H; exact H
             clear H
             have H := H1
             clear H1
             replace H := Option.bind_eq_some_iff.mp H
             obtain ⟨t220, A470, H⟩ := H
             replace H : (if t220 ≥ 0 then ((object_opener.f (bt a3 1)).bind fun t221 => ((object_bracketed.f kj38 l0 a1 a2 t221 ((bt a3 0) == 97)).bind fun bt222 => (if bt222.2.2 = true then (some (bt222.1, bt222.2.1, 1, 0)) else (some (0, 0, 0, 130))))) else (some (0, 0, 0, 2))) = some (r1, r2, r3, r4) := H
             have A47 := Aside0.mk A470
             clear A470
             by_cases c48 : t220 ≥ 0
             ·rw [if_pos c48] at H
              have c48b0 : decide (0 ≤ t220) = true := decide_eq_true c48
              clear c48
              replace H := Option.bind_eq_some_iff.mp H
              obtain ⟨t221, A490, H⟩ := H
              replace H : ((object_bracketed.f kj38 l0 a1 a2 t221 ((bt a3 0) == 97)).bind fun bt222 => (if bt222.2.2 = true then (some (bt222.1, bt222.2.1, 1, 0)) else (some (0, 0, 0, 130)))) = some (r1, r2, r3, r4) := H
              have A49 := Aside0.mk A490
              clear A490
              replace H := Option.bind_eq_some_iff.mp H
              obtain ⟨⟨t222, t223, t224⟩, A500, H⟩ := H
              replace H : (if t224 = true then (some (t222, t223, 1, 0)) else (some (0, 0, 0, 130))) = some (r1, r2, r3, r4) := H
              have A50 := Aside0.mk A500
              clear A500
              by_cases c51 : t224 = true
              ·subst c51
               have H1 : (some (t222, t223, 1, 0)) = some (r1, r2, r3, r4) := by rw [if_pos rfl] at H; exact H
               clear H
               have H := H1
               clear H1
               simp only [Option.some.injEq, Prod.mk.injEq] at H
               obtain ⟨rfl, rfl, rfl, rfl⟩ := H
               go_wp2_with (first | ((with_reducible refine gate_callee (f := 30) rfl ?_); refine goesL_ (some 110) rfl rfl Tryd.func30 (by kernel_rfl) rfl #[.string (⟨#[40, 41, 98, 91, 93, 123, 125, 66]⟩ : ByteArray), .int .u8 (bt a3 1)] rfl (by (try simp only [List.map_toArray, List.map_cons, List.map_nil]); first | done | rfl | (simp only [List.length_drop, List.length_take]; rfl)) ?_; (with_reducible refine (strings_IndexByte.calls (⟨#[40, 41, 98, 91, 93, 123, 125, 66]⟩ : ByteArray) (bt a3 1) t220 _ A47.out).mono ?_); rintro e w' ⟨rfl, ⟨nd, rfl⟩⟩; refine ⟨_, rfl, ?_⟩; (try (rw [drewN_self wc]; generalize hq_ : World.drewN wc _ = wc; have n0_ : Aside0 (wc.heap[gb208]? = some (.cells #[.int .i64 0, .int .i64 0, .int .i64 0] 29 (0, 0))) := ⟨by rw [← hq_]; exact (by (with_reducible repeat (first | refine blk_drewN ?_ _ | refine blk_drew ?_ | refine blk_alloc ?_ _)); exact BK208.out)⟩; have n1_ : Aside0 (Below w.heap.size w wc) := ⟨by rw [← hq_]; exact (by repeat (first | (with_reducible first | exact HB.out | apply below_alloc | apply pw_below_drewN | apply below_drew1 | refine below_set ?_ GE208.out) | exact HB.out))⟩; clear BK208 HB hq_; have BK208 := n0_; have HB := n1_; clear n0_ n1_)); (try have hcy208_0 : wc.cell? ⟨gb208, 0, none⟩ = some (.int .i64 0) := (blk_cell BK208.out 0).trans rfl); (try have hfy208_0 := blk_frozen BK208.out 0); (try have hcy208_1 : wc.cell? ⟨gb208, 1, none⟩ = some (.int .i64 0) := (blk_cell BK208.out 1).trans rfl); (try have hfy208_1 := blk_frozen BK208.out 1); (try have hcy208_2 : wc.cell? ⟨gb208, 2, none⟩ = some (.int .i64 0) := (blk_cell BK208.out 2).trans rfl); (try have hfy208_2 := blk_frozen BK208.out 2)) | ((with_reducible refine gate_callee (f := 32) rfl ?_); refine goesL_ (some 117) rfl rfl Tryd.func32 (by kernel_rfl) rfl #[.int .u8 (bt a3 1)] rfl (by (try simp only [List.map_toArray, List.map_cons, List.map_nil]); first | done | rfl | (simp only [List.length_drop, List.length_take]; rfl)) ?_; (with_reducible refine (object_opener.calls (bt a3 1) t221 _ A49.out).mono ?_); rintro e w' ⟨rfl, ⟨nd, rfl⟩⟩; refine ⟨_, rfl, ?_⟩; (try (rw [drewN_self wc]; generalize hq_ : World.drewN wc _ = wc; have n0_ : Aside0 (wc.heap[gb208]? = some (.cells #[.int .i64 0, .int .i64 0, .int .i64 0] 29 (0, 0))) := ⟨by rw [← hq_]; exact (by (with_reducible repeat (first | refine blk_drewN ?_ _ | refine blk_drew ?_ | refine blk_alloc ?_ _)); exact BK208.out)⟩; have n1_ : Aside0 (Below w.heap.size w wc) := ⟨by rw [← hq_]; exact (by repeat (first | (with_reducible first | exact HB.out | apply below_alloc | apply pw_below_drewN | apply below_drew1 | refine below_set ?_ GE208.out) | exact HB.out))⟩; clear BK208 HB hq_; have BK208 := n0_; have HB := n1_; clear n0_ n1_)); (try have hcy208_0 : wc.cell? ⟨gb208, 0, none⟩ = some (.int .i64 0) := (blk_cell BK208.out 0).trans rfl); (try have hfy208_0 := blk_frozen BK208.out 0); (try have hcy208_1 : wc.cell? ⟨gb208, 1, none⟩ = some (.int .i64 0) := (blk_cell BK208.out 1).trans rfl); (try have hfy208_1 := blk_frozen BK208.out 1); (try have hcy208_2 : wc.cell? ⟨gb208, 2, none⟩ = some (.int .i64 0) := (blk_cell BK208.out 2).trans rfl); (try have hfy208_2 := blk_frozen BK208.out 2)) | ((with_reducible refine gate_callee (f := 31) rfl ?_); refine goesL_ (some 119) rfl rfl Tryd.func31 (by kernel_rfl) rfl #[.slice A0 l0.length c0, .int .i64 a1, .int .i64 a2, .int .u8 t221, .bool ((bt a3 0) == 97)] rfl (by (try simp only [List.map_toArray, List.map_cons, List.map_nil]); first | done | rfl | (simp only [List.length_drop, List.length_take]; rfl)) ?_; (with_reducible refine (object_bracketed.calls kj38 _ _ l0 a1 a2 t221 ((bt a3 0) == 97) t222 t223 true _ ?side1 ?side2 A50.out).mono ?_); (case side1 => repeat (first | exact (Kd.C_below HR0.out HB.out) | (with_reducible refine Kd.C_alloc ?_ _) | (with_reducible refine Kd.C_drewN ?_ _) | (with_reducible refine Kd.C_drew ?_))); (case side2 => exact HC0.out); rintro e w52 ⟨rfl, hb⟩; refine ⟨_, rfl, ?_⟩; have n0_ := Aside0.mk (blk_below (g := gb208) (o := .cells #[.int .i64 0, .int .i64 0, .int .i64 0] 29 (0, 0)) (by (with_reducible repeat (first | refine blk_drewN ?_ _ | refine blk_drew ?_ | refine blk_alloc ?_ _)); exact BK208.out) hb); have n1_ := Aside0.mk (below_step (by repeat (first | (with_reducible first | exact HB.out | apply below_alloc | apply pw_below_drewN | apply below_drew1 | refine below_set ?_ GE208.out) | exact HB.out)) hb); clear BK208; clear HB; have BK208 := n0_; have HB := n1_; clear n0_ n1_; (try clear hb); (try clear hb2); (try clear hk); (try clear hi); have hcz53_0 : w52.cell? ⟨gb208, 0, none⟩ = some (.int .i64 0) := (blk_cell BK208.out 0).trans rfl; have hcz53_1 : w52.cell? ⟨gb208, 1, none⟩ = some (.int .i64 0) := (blk_cell BK208.out 1).trans rfl; have hcz53_2 : w52.cell? ⟨gb208, 2, none⟩ = some (.int .i64 0) := (blk_cell BK208.out 2).trans rfl; have hfz53_0 := blk_frozen BK208.out 0; have hfz53_1 := blk_frozen BK208.out 1; have hfz53_2 := blk_frozen BK208.out 2))
               refine bodyPost_ret (results_ct rfl _ _ gb208 29 #[.int .i64 t222, .int .i64 t223, .int .i64 1] (0, 0) _ rfl (by (with_reducible repeat (first | refine blk_drewN ?_ _ | refine blk_drew ?_ | refine blk_alloc ?_ _)); refine blk_put (cs := #[.int .i64 t222, .int .i64 t223, .int .i64 0]) ?_ 2 _ rfl; (with_reducible repeat (first | refine blk_drewN ?_ _ | refine blk_drew ?_ | refine blk_alloc ?_ _)); refine blk_put (cs := #[.int .i64 t222, .int .i64 0, .int .i64 0]) ?_ 1 _ rfl; (with_reducible repeat (first | refine blk_drewN ?_ _ | refine blk_drew ?_ | refine blk_alloc ?_ _)); refine blk_put (cs := #[.int .i64 0, .int .i64 0, .int .i64 0]) ?_ 0 _ rfl; (with_reducible repeat (first | refine blk_drewN ?_ _ | refine blk_drew ?_ | refine blk_alloc ?_ _)); exact BK208.out) Tryd.underlying29 rfl (by kernel_rfl)) rfl ?_
               exact ⟨by first | rfl | (simp [errW_none, errW_some] <;> rfl) | (simp [*, errW_none, errW_some] <;> rfl), by repeat (first | (with_reducible first | exact HB.out | apply below_alloc | apply pw_below_drewN | apply below_drew1 | refine below_set ?_ GE208.out) | exact HB.out)⟩
              ·replace c51 := Bool.eq_false_iff.mpr c51
               subst c51
               have H1 : (some (0, 0, 0, 130)) = some (r1, r2, r3, r4) := by rw [if_neg (show ¬ (false = true) by decide)] at H; exact H
               clear H
               have H := H1
               clear H1
               simp only [Option.some.injEq, Prod.mk.injEq] at H
               obtain ⟨rfl, rfl, rfl, rfl⟩ := H
               go_wp2_with (first | ((with_reducible refine gate_callee (f := 30) rfl ?_); refine goesL_ (some 110) rfl rfl Tryd.func30 (by kernel_rfl) rfl #[.string (⟨#[40, 41, 98, 91, 93, 123, 125, 66]⟩ : ByteArray), .int .u8 (bt a3 1)] rfl (by (try simp only [List.map_toArray, List.map_cons, List.map_nil]); first | done | rfl | (simp only [List.length_drop, List.length_take]; rfl)) ?_; (with_reducible refine (strings_IndexByte.calls (⟨#[40, 41, 98, 91, 93, 123, 125, 66]⟩ : ByteArray) (bt a3 1) t220 _ A47.out).mono ?_); rintro e w' ⟨rfl, ⟨nd, rfl⟩⟩; refine ⟨_, rfl, ?_⟩; (try (rw [drewN_self wc]; generalize hq_ : World.drewN wc _ = wc; have n0_ : Aside0 (wc.heap[gb208]? = some (.cells #[.int .i64 0, .int .i64 0, .int .i64 0] 29 (0, 0))) := ⟨by rw [← hq_]; exact (by (with_reducible repeat (first | refine blk_drewN ?_ _ | refine blk_drew ?_ | refine blk_alloc ?_ _)); exact BK208.out)⟩; have n1_ : Aside0 (Below w.heap.size w wc) := ⟨by rw [← hq_]; exact (by repeat (first | (with_reducible first | exact HB.out | apply below_alloc | apply pw_below_drewN | apply below_drew1 | refine below_set ?_ GE208.out) | exact HB.out))⟩; clear BK208 HB hq_; have BK208 := n0_; have HB := n1_; clear n0_ n1_)); (try have hcy208_0 : wc.cell? ⟨gb208, 0, none⟩ = some (.int .i64 0) := (blk_cell BK208.out 0).trans rfl); (try have hfy208_0 := blk_frozen BK208.out 0); (try have hcy208_1 : wc.cell? ⟨gb208, 1, none⟩ = some (.int .i64 0) := (blk_cell BK208.out 1).trans rfl); (try have hfy208_1 := blk_frozen BK208.out 1); (try have hcy208_2 : wc.cell? ⟨gb208, 2, none⟩ = some (.int .i64 0) := (blk_cell BK208.out 2).trans rfl); (try have hfy208_2 := blk_frozen BK208.out 2)) | ((with_reducible refine gate_callee (f := 32) rfl ?_); refine goesL_ (some 117) rfl rfl Tryd.func32 (by kernel_rfl) rfl #[.int .u8 (bt a3 1)] rfl (by (try simp only [List.map_toArray, List.map_cons, List.map_nil]); first | done | rfl | (simp only [List.length_drop, List.length_take]; rfl)) ?_; (with_reducible refine (object_opener.calls (bt a3 1) t221 _ A49.out).mono ?_); rintro e w' ⟨rfl, ⟨nd, rfl⟩⟩; refine ⟨_, rfl, ?_⟩; (try (rw [drewN_self wc]; generalize hq_ : World.drewN wc _ = wc; have n0_ : Aside0 (wc.heap[gb208]? = some (.cells #[.int .i64 0, .int .i64 0, .int .i64 0] 29 (0, 0))) := ⟨by rw [← hq_]; exact (by (with_reducible repeat (first | refine blk_drewN ?_ _ | refine blk_drew ?_ | refine blk_alloc ?_ _)); exact BK208.out)⟩; have n1_ : Aside0 (Below w.heap.size w wc) := ⟨by rw [← hq_]; exact (by repeat (first | (with_reducible first | exact HB.out | apply below_alloc | apply pw_below_drewN | apply below_drew1 | refine below_set ?_ GE208.out) | exact HB.out))⟩; clear BK208 HB hq_; have BK208 := n0_; have HB := n1_; clear n0_ n1_)); (try have hcy208_0 : wc.cell? ⟨gb208, 0, none⟩ = some (.int .i64 0) := (blk_cell BK208.out 0).trans rfl); (try have hfy208_0 := blk_frozen BK208.out 0); (try have hcy208_1 : wc.cell? ⟨gb208, 1, none⟩ = some (.int .i64 0) := (blk_cell BK208.out 1).trans rfl); (try have hfy208_1 := blk_frozen BK208.out 1); (try have hcy208_2 : wc.cell? ⟨gb208, 2, none⟩ = some (.int .i64 0) := (blk_cell BK208.out 2).trans rfl); (try have hfy208_2 := blk_frozen BK208.out 2)) | ((with_reducible refine gate_callee (f := 31) rfl ?_); refine goesL_ (some 119) rfl rfl Tryd.func31 (by kernel_rfl) rfl #[.slice A0 l0.length c0, .int .i64 a1, .int .i64 a2, .int .u8 t221, .bool ((bt a3 0) == 97)] rfl (by (try simp only [List.map_toArray, List.map_cons, List.map_nil]); first | done | rfl | (simp only [List.length_drop, List.length_take]; rfl)) ?_; (with_reducible refine (object_bracketed.calls kj38 _ _ l0 a1 a2 t221 ((bt a3 0) == 97) t222 t223 false _ ?side1 ?side2 A50.out).mono ?_); (case side1 => repeat (first | exact (Kd.C_below HR0.out HB.out) | (with_reducible refine Kd.C_alloc ?_ _) | (with_reducible refine Kd.C_drewN ?_ _) | (with_reducible refine Kd.C_drew ?_))); (case side2 => exact HC0.out); rintro e w54 ⟨rfl, hb⟩; refine ⟨_, rfl, ?_⟩; have n0_ := Aside0.mk (blk_below (g := gb208) (o := .cells #[.int .i64 0, .int .i64 0, .int .i64 0] 29 (0, 0)) (by (with_reducible repeat (first | refine blk_drewN ?_ _ | refine blk_drew ?_ | refine blk_alloc ?_ _)); exact BK208.out) hb); have n1_ := Aside0.mk (below_step (by repeat (first | (with_reducible first | exact HB.out | apply below_alloc | apply pw_below_drewN | apply below_drew1 | refine below_set ?_ GE208.out) | exact HB.out)) hb); clear BK208; clear HB; have BK208 := n0_; have HB := n1_; clear n0_ n1_; (try clear hb); (try clear hb2); (try clear hk); (try clear hi); have hcz55_0 : w54.cell? ⟨gb208, 0, none⟩ = some (.int .i64 0) := (blk_cell BK208.out 0).trans rfl; have hcz55_1 : w54.cell? ⟨gb208, 1, none⟩ = some (.int .i64 0) := (blk_cell BK208.out 1).trans rfl; have hcz55_2 : w54.cell? ⟨gb208, 2, none⟩ = some (.int .i64 0) := (blk_cell BK208.out 2).trans rfl; have hfz55_0 := blk_frozen BK208.out 0; have hfz55_1 := blk_frozen BK208.out 1; have hfz55_2 := blk_frozen BK208.out 2))
               refine bodyPost_ret (results_ct rfl _ _ gb208 29 #[.int .i64 0, .int .i64 0, .int .i64 0] (0, 0) _ rfl (by (with_reducible repeat (first | refine blk_drewN ?_ _ | refine blk_drew ?_ | refine blk_alloc ?_ _)); refine blk_put (cs := #[.int .i64 0, .int .i64 0, .int .i64 0]) ?_ 2 _ rfl; (with_reducible repeat (first | refine blk_drewN ?_ _ | refine blk_drew ?_ | refine blk_alloc ?_ _)); refine blk_put (cs := #[.int .i64 0, .int .i64 0, .int .i64 0]) ?_ 1 _ rfl; (with_reducible repeat (first | refine blk_drewN ?_ _ | refine blk_drew ?_ | refine blk_alloc ?_ _)); refine blk_put (cs := #[.int .i64 0, .int .i64 0, .int .i64 0]) ?_ 0 _ rfl; (with_reducible repeat (first | refine blk_drewN ?_ _ | refine blk_drew ?_ | refine blk_alloc ?_ _)); exact BK208.out) Tryd.underlying29 rfl (by kernel_rfl)) rfl ?_
               exact ⟨by first | rfl | (simp [errW_none, errW_some] <;> rfl) | (simp [*, errW_none, errW_some] <;> rfl), by repeat (first | (with_reducible first | exact HB.out | apply below_alloc | apply pw_below_drewN | apply below_drew1 | refine below_set ?_ GE208.out) | exact HB.out)⟩
             ·rw [if_neg c48] at H
              have c48b0 : decide (0 ≤ t220) = false := decide_eq_false c48
              clear c48
              simp only [Option.some.injEq, Prod.mk.injEq] at H
              obtain ⟨rfl, rfl, rfl, rfl⟩ := H
              go_wp2_with (first | ((with_reducible refine gate_callee (f := 30) rfl ?_); refine goesL_ (some 110) rfl rfl Tryd.func30 (by kernel_rfl) rfl #[.string (⟨#[40, 41, 98, 91, 93, 123, 125, 66]⟩ : ByteArray), .int .u8 (bt a3 1)] rfl (by (try simp only [List.map_toArray, List.map_cons, List.map_nil]); first | done | rfl | (simp only [List.length_drop, List.length_take]; rfl)) ?_; (with_reducible refine (strings_IndexByte.calls (⟨#[40, 41, 98, 91, 93, 123, 125, 66]⟩ : ByteArray) (bt a3 1) t220 _ A47.out).mono ?_); rintro e w' ⟨rfl, ⟨nd, rfl⟩⟩; refine ⟨_, rfl, ?_⟩; (try (rw [drewN_self wc]; generalize hq_ : World.drewN wc _ = wc; have n0_ : Aside0 (wc.heap[gb208]? = some (.cells #[.int .i64 0, .int .i64 0, .int .i64 0] 29 (0, 0))) := ⟨by rw [← hq_]; exact (by (with_reducible repeat (first | refine blk_drewN ?_ _ | refine blk_drew ?_ | refine blk_alloc ?_ _)); exact BK208.out)⟩; have n1_ : Aside0 (Below w.heap.size w wc) := ⟨by rw [← hq_]; exact (by repeat (first | (with_reducible first | exact HB.out | apply below_alloc | apply pw_below_drewN | apply below_drew1 | refine below_set ?_ GE208.out) | exact HB.out))⟩; clear BK208 HB hq_; have BK208 := n0_; have HB := n1_; clear n0_ n1_)); (try have hcy208_0 : wc.cell? ⟨gb208, 0, none⟩ = some (.int .i64 0) := (blk_cell BK208.out 0).trans rfl); (try have hfy208_0 := blk_frozen BK208.out 0); (try have hcy208_1 : wc.cell? ⟨gb208, 1, none⟩ = some (.int .i64 0) := (blk_cell BK208.out 1).trans rfl); (try have hfy208_1 := blk_frozen BK208.out 1); (try have hcy208_2 : wc.cell? ⟨gb208, 2, none⟩ = some (.int .i64 0) := (blk_cell BK208.out 2).trans rfl); (try have hfy208_2 := blk_frozen BK208.out 2); have hcz56_0 : wc.cell? ⟨gb208, 0, none⟩ = some (.int .i64 0) := (blk_cell BK208.out 0).trans rfl; have hcz56_1 : wc.cell? ⟨gb208, 1, none⟩ = some (.int .i64 0) := (blk_cell BK208.out 1).trans rfl; have hcz56_2 : wc.cell? ⟨gb208, 2, none⟩ = some (.int .i64 0) := (blk_cell BK208.out 2).trans rfl; have hfz56_0 := blk_frozen BK208.out 0; have hfz56_1 := blk_frozen BK208.out 1; have hfz56_2 := blk_frozen BK208.out 2))
              refine bodyPost_ret (results_ct rfl _ _ gb208 29 #[.int .i64 0, .int .i64 0, .int .i64 0] (0, 0) _ rfl (by (with_reducible repeat (first | refine blk_drewN ?_ _ | refine blk_drew ?_ | refine blk_alloc ?_ _)); refine blk_put (cs := #[.int .i64 0, .int .i64 0, .int .i64 0]) ?_ 2 _ rfl; (with_reducible repeat (first | refine blk_drewN ?_ _ | refine blk_drew ?_ | refine blk_alloc ?_ _)); refine blk_put (cs := #[.int .i64 0, .int .i64 0, .int .i64 0]) ?_ 1 _ rfl; (with_reducible repeat (first | refine blk_drewN ?_ _ | refine blk_drew ?_ | refine blk_alloc ?_ _)); refine blk_put (cs := #[.int .i64 0, .int .i64 0, .int .i64 0]) ?_ 0 _ rfl; (with_reducible repeat (first | refine blk_drewN ?_ _ | refine blk_drew ?_ | refine blk_alloc ?_ _)); exact BK208.out) Tryd.underlying29 rfl (by kernel_rfl)) rfl ?_
              exact ⟨by first | rfl | (simp [errW_none, errW_some] <;> rfl) | (simp [*, errW_none, errW_some] <;> rfl), by repeat (first | (with_reducible first | exact HB.out | apply below_alloc | apply pw_below_drewN | apply below_drew1 | refine below_set ?_ GE208.out) | exact HB.out)⟩
     ·rw [if_neg c21] at H
      exact absurd H (by simp)
    ·rw [if_neg c19] at H
     exact absurd H (by simp)

end Go.Proofs.YtcochbkdgjgaeaaDoor.X
