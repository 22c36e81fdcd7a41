/-
  Texts of one proof in one file (wip/bundle.py): X24, X25, X50, X55D.
  Conditions: none.
-/
import Derived.Test.YtcochbkdgjgaeaaDoorBRuns1
import Derived.Test.YtcochbkdgjgaeaaDoorBRuns2
import Derived.Test.YtcochbkdgjgaeaaDoorBRuns3
section
-- Written by wip/xprint.py over the kit's print.py: the Lean function of each Go function, and the proof that the Go text comes to it.
namespace Go.Proofs.YtcochbkdgjgaeaaDoor.X
open Go.RowKit Go.Proofs.YtcochbkdgjgaeaaDoorW.PrintWords Go.Proofs.YtcochbkdgjgaeaaDoorW.PrintLast Go.Proofs.YtcochbkdgjgaeaaDoorW.PrintMore
attribute [local go_sem] max2_int min2_int max_two min_two max_three min_three max_four min_four   -- for this text's walks alone
set_option linter.unusedVariables false
set_option linter.unusedSimpArgs false

/-! ### object_Select: function 10 -/
mutual
def object_Select.j0 : Nat → List Int → Int → Int → ByteArray → Int → Bool → Option (Int × Int × Int × Int)
  | 0, _, _, _, _, _, _ => none
  | k + 1, x0, x1, x2, x3, x10, x48 => if x48 = true then (some (0, 0, 0, 2)) else (if 0 < (x3.size : Int) then (if 1 < (x3.size : Int) then (if (bt x3 1) = 119 then (object_Select.j1 k x0 x1 x2 x10 ((bt x3 0) == 97) 1 (bt x3 1) true) else (object_Select.j1 k x0 x1 x2 x10 ((bt x3 0) == 97) 1 (bt x3 1) ((bt x3 1) == 87))) else (none)) else (none))
def object_Select.j1 : Nat → List Int → Int → Int → Int → Bool → Int → Int → Bool → Option (Int × Int × Int × Int)
  | 0, _, _, _, _, _, _, _, _ => none
  | k + 1, x0, x1, x2, x10, x12, x16, x17, x56 => if x56 = true then ((object_words.f k x0 x10 x1 x2 (x17 == 87) x12).bind fun bt211 => (if bt211.2.2 = true then (some (bt211.1, bt211.2.1, x16, 0)) else (some (0, 0, 0, 130)))) else (if x17 = 112 then ((object_paragraphs.f k x0 x10 x2 x12).bind fun bt214 => (if bt214.2.2 = true then (some (bt214.1, bt214.2.1, 3, 0)) else (some (0, 0, 0, 130)))) else (if x17 = 34 then (object_Select.j2 k x0 x1 x2 x10 x12 x16 x17 true) else (if x17 = 39 then (object_Select.j2 k x0 x1 x2 x10 x12 x16 x17 true) else (object_Select.j2 k x0 x1 x2 x10 x12 x16 x17 (x17 == 96)))))
def object_Select.j2 : Nat → List Int → Int → Int → Int → Bool → Int → Int → Bool → Option (Int × Int × Int × Int)
  | 0, _, _, _, _, _, _, _, _ => none
  | k + 1, x0, x1, x2, x10, x12, x16, x17, x87 => if x87 = true then ((object_quoted.f k x0 x10 x1 x17 x12).bind fun bt217 => (if bt217.2.2 = true then (some (bt217.1, bt217.2.1, x16, 0)) else (some (0, 0, 0, 130)))) else ((strings_IndexByte.f (⟨#[40, 41, 98, 91, 93, 123, 125, 66]⟩ : ByteArray) x17).bind fun t220 => (if t220 ≥ 0 then ((object_opener.f x17).bind fun t221 => ((object_bracketed.f k x0 x1 x2 t221 x12).bind fun bt222 => (if bt222.2.2 = true then (some (bt222.1, bt222.2.1, x16, 0)) else (some (0, 0, 0, 130))))) else (some (0, 0, 0, 2))))
end
def object_Select.f (k : Nat) (l0 : List Int) (a1 : Int) (a2 : Int) (a3 : ByteArray) : Option (Int × Int × Int × Int) := (lines_Of.f l0 a1).bind fun bt209 => (if bt209.2 = 0 then (if a2 < 1 then (object_Select.j0 k l0 a1 a2 a3 bt209.1 true) else (if a2 > 9999 then (object_Select.j0 k l0 a1 a2 a3 bt209.1 true) else (if (a3.size : Int) = 2 then (if 0 < (a3.size : Int) then (if (bt a3 0) = 105 then (object_Select.j0 k l0 a1 a2 a3 bt209.1 false) else (object_Select.j0 k l0 a1 a2 a3 bt209.1 ((bt a3 0) != 97))) else (none)) else (object_Select.j0 k l0 a1 a2 a3 bt209.1 true)))) else (object_Select.j0 k l0 a1 a2 a3 bt209.1 true))
theorem object_Select.mono_l : ∀ k, (∀ y0 y1 y2 y3 y4 y5, LeO (object_Select.j0 k y0 y1 y2 y3 y4 y5) (object_Select.j0 (k + 1) y0 y1 y2 y3 y4 y5)) ∧ (∀ y0 y1 y2 y3 y4 y5 y6 y7, LeO (object_Select.j1 k y0 y1 y2 y3 y4 y5 y6 y7) (object_Select.j1 (k + 1) y0 y1 y2 y3 y4 y5 y6 y7)) ∧ (∀ y0 y1 y2 y3 y4 y5 y6 y7, LeO (object_Select.j2 k y0 y1 y2 y3 y4 y5 y6 y7) (object_Select.j2 (k + 1) y0 y1 y2 y3 y4 y5 y6 y7))
  | 0 => ⟨fun _ _ _ _ _ _ r h => by simp [object_Select.j0] at h, fun _ _ _ _ _ _ _ _ r h => by simp [object_Select.j1] at h, fun _ _ _ _ _ _ _ _ r h => by simp [object_Select.j2] at h⟩
  | k + 1 => by
    obtain ⟨ih0, ih1, ih2⟩ := object_Select.mono_l k
    refine ⟨?_, ?_, ?_⟩
    · intro y0 y1 y2 y3 y4 y5
      unfold object_Select.j0
      repeat' first
      | (with_reducible exact ih0 _ _ _ _ _ _)
      | (with_reducible exact ih1 _ _ _ _ _ _ _ _)
      | (with_reducible exact ih2 _ _ _ _ _ _ _ _)
      | (with_reducible exact object_bracketed.mono _ _ _ _ _ _)
      | (with_reducible exact object_paragraphs.mono _ _ _ _ _)
      | (with_reducible exact object_quoted.mono _ _ _ _ _ _)
      | (with_reducible exact object_words.mono _ _ _ _ _ _ _)
      | (with_reducible exact LeO.refl _)
      | (with_reducible exact LeO.none _)
      | (with_reducible refine LeO.ite ?_ ?_)
      | (with_reducible refine LeO.bind ?_ (fun _ => ?_))
      | exact ih0 _ _ _ _ _ _
      | exact ih1 _ _ _ _ _ _ _ _
      | exact ih2 _ _ _ _ _ _ _ _
      | exact object_bracketed.mono _ _ _ _ _ _
      | exact object_paragraphs.mono _ _ _ _ _
      | exact object_quoted.mono _ _ _ _ _ _
      | exact object_words.mono _ _ _ _ _ _ _
      | exact LeO.none _
      | refine LeO.ite ?_ ?_
      | refine LeO.bind ?_ (fun _ => ?_)
    · intro y0 y1 y2 y3 y4 y5 y6 y7
      unfold object_Select.j1
      repeat' first
      | (with_reducible exact ih0 _ _ _ _ _ _)
      | (with_reducible exact ih1 _ _ _ _ _ _ _ _)
      | (with_reducible exact ih2 _ _ _ _ _ _ _ _)
      | (with_reducible exact object_bracketed.mono _ _ _ _ _ _)
      | (with_reducible exact object_paragraphs.mono _ _ _ _ _)
      | (with_reducible exact object_quoted.mono _ _ _ _ _ _)
      | (with_reducible exact object_words.mono _ _ _ _ _ _ _)
      | (with_reducible exact LeO.refl _)
      | (with_reducible exact LeO.none _)
      | (with_reducible refine LeO.ite ?_ ?_)
      | (with_reducible refine LeO.bind ?_ (fun _ => ?_))
      | exact ih0 _ _ _ _ _ _
      | exact ih1 _ _ _ _ _ _ _ _
      | exact ih2 _ _ _ _ _ _ _ _
      | exact object_bracketed.mono _ _ _ _ _ _
      | exact object_paragraphs.mono _ _ _ _ _
      | exact object_quoted.mono _ _ _ _ _ _
      | exact object_words.mono _ _ _ _ _ _ _
      | exact LeO.none _
      | refine LeO.ite ?_ ?_
      | refine LeO.bind ?_ (fun _ => ?_)
    · intro y0 y1 y2 y3 y4 y5 y6 y7
      unfold object_Select.j2
      repeat' first
      | (with_reducible exact ih0 _ _ _ _ _ _)
      | (with_reducible exact ih1 _ _ _ _ _ _ _ _)
      | (with_reducible exact ih2 _ _ _ _ _ _ _ _)
      | (with_reducible exact object_bracketed.mono _ _ _ _ _ _)
      | (with_reducible exact object_paragraphs.mono _ _ _ _ _)
      | (with_reducible exact object_quoted.mono _ _ _ _ _ _)
      | (with_reducible exact object_words.mono _ _ _ _ _ _ _)
      | (with_reducible exact LeO.refl _)
      | (with_reducible exact LeO.none _)
      | (with_reducible refine LeO.ite ?_ ?_)
      | (with_reducible refine LeO.bind ?_ (fun _ => ?_))
      | exact ih0 _ _ _ _ _ _
      | exact ih1 _ _ _ _ _ _ _ _
      | exact ih2 _ _ _ _ _ _ _ _
      | exact object_bracketed.mono _ _ _ _ _ _
      | exact object_paragraphs.mono _ _ _ _ _
      | exact object_quoted.mono _ _ _ _ _ _
      | exact object_words.mono _ _ _ _ _ _ _
      | exact LeO.none _
      | refine LeO.ite ?_ ?_
      | refine LeO.bind ?_ (fun _ => ?_)
theorem object_Select.mono : ∀ a0 a1 a2 a3 k, LeO (object_Select.f k a0 a1 a2 a3) (object_Select.f (k + 1) a0 a1 a2 a3) := by
  intro a0 a1 a2 a3 k
  obtain ⟨ih0, ih1, ih2⟩ := object_Select.mono_l k
  unfold object_Select.f
  repeat' first
      | (with_reducible exact ih0 _ _ _ _ _ _)
      | (with_reducible exact ih1 _ _ _ _ _ _ _ _)
      | (with_reducible exact ih2 _ _ _ _ _ _ _ _)
      | (with_reducible exact object_bracketed.mono _ _ _ _ _ _)
      | (with_reducible exact object_paragraphs.mono _ _ _ _ _)
      | (with_reducible exact object_quoted.mono _ _ _ _ _ _)
      | (with_reducible exact object_words.mono _ _ _ _ _ _ _)
      | (with_reducible exact LeO.refl _)
      | (with_reducible exact LeO.none _)
      | (with_reducible refine LeO.ite ?_ ?_)
      | (with_reducible refine LeO.bind ?_ (fun _ => ?_))
      | exact ih0 _ _ _ _ _ _
      | exact ih1 _ _ _ _ _ _ _ _
      | exact ih2 _ _ _ _ _ _ _ _
      | exact object_bracketed.mono _ _ _ _ _ _
      | exact object_paragraphs.mono _ _ _ _ _
      | exact object_quoted.mono _ _ _ _ _ _
      | exact object_words.mono _ _ _ _ _ _ _
      | exact LeO.none _
      | refine LeO.ite ?_ ?_
      | refine LeO.bind ?_ (fun _ => ?_)
set_option maxHeartbeats 8000000 in
set_option maxRecDepth 100000 in
theorem object_Select.calls (k : Nat) (A0 : Option Addr) (c0 : Nat) (l0 : List Int) (a1 : Int) (a2 : Int) (a3 : ByteArray) (r1 : Int) (r2 : Int) (r3 : Int) (r4 : Int) (w : World) (hr0 : Kd.C (Kd.int .u8) w A0 l0.length l0) (hc0 : l0.length ≤ c0) (h : object_Select.f k l0 a1 a2 a3 = some (r1, r2, r3, r4)) :
    Calls Tryd.prog 10 #[.slice A0 l0.length c0, .int .i64 a1, .int .i64 a2, .string a3] w fun e w' => e = .returned (.tuple #[.agg #[.int .i64 r1, .int .i64 r2, .int .i64 r3], .int .i64 r4]) ∧ Below w.heap.size w w' := by
  have hu29 := Tryd.underlying29
  have HR0 := Aside0.mk hr0
  have HC0 := Aside0.mk hc0
  clear hr0 hc0
  have HB := Aside0.mk (Below.refl w.heap.size w)
  have H : ((lines_Of.f l0 a1).bind fun bt209 => (if bt209.2 = 0 then (if a2 < 1 then (object_Select.j0 k l0 a1 a2 a3 bt209.1 true) else (if a2 > 9999 then (object_Select.j0 k l0 a1 a2 a3 bt209.1 true) else (if (a3.size : Int) = 2 then (if 0 < (a3.size : Int) then (if (bt a3 0) = 105 then (object_Select.j0 k l0 a1 a2 a3 bt209.1 false) else (object_Select.j0 k l0 a1 a2 a3 bt209.1 ((bt a3 0) != 97))) else (none)) else (object_Select.j0 k l0 a1 a2 a3 bt209.1 true)))) else (object_Select.j0 k l0 a1 a2 a3 bt209.1 true))) = some (r1, r2, r3, r4) := h
  clear h
  replace H := Option.bind_eq_some_iff.mp H
  obtain ⟨⟨t209, t210⟩, A50, H⟩ := H
  replace H : (if t210 = 0 then (if a2 < 1 then (object_Select.j0 k l0 a1 a2 a3 t209 true) else (if a2 > 9999 then (object_Select.j0 k l0 a1 a2 a3 t209 true) else (if (a3.size : Int) = 2 then (if 0 < (a3.size : Int) then (if (bt a3 0) = 105 then (object_Select.j0 k l0 a1 a2 a3 t209 false) else (object_Select.j0 k l0 a1 a2 a3 t209 ((bt a3 0) != 97))) else (none)) else (object_Select.j0 k l0 a1 a2 a3 t209 true)))) else (object_Select.j0 k l0 a1 a2 a3 t209 true)) = some (r1, r2, r3, r4) := H
  have A5 := Aside0.mk A50
  clear A50
  have HC6 := Aside0.mk H
  clear H
  go_enter Tryd.func10, Tryd.ntmps10
  go_upto_region 2 with (first | ((with_reducible refine gate_dst (N := 8) rfl ?_); (try (refine gate_guard (by rfl) ?_; dsimp only)); refine box_event ?hg (N := 8) ?hd (cs := #[.int .i64 0, .int .i64 0, .int .i64 0]) (t := 29) ?hr ?_; (case hd => rfl); (case hg => rfl); (case hr => first | (go_simp; done) | (go_simp; rfl)); intro gb208 hg w7 hbox hb; have n0_ := Aside0.mk (below_step (by repeat (first | (with_reducible first | exact HB.out | apply below_alloc | apply pw_below_drewN | apply below_drew1) | exact HB.out)) hb); have n1_ := Aside0.mk (hbox); have n2_ := Aside0.mk ((by rw [hg]; exact (below_size (by repeat (first | (with_reducible first | exact HB.out | apply below_alloc | apply pw_below_drewN | apply below_drew1) | exact HB.out))) : w.heap.size ≤ gb208)); have n3_ := Aside0.mk ((by rw [hg]; exact (below_size (by repeat (first | (with_reducible first | exact HB.out | apply below_alloc | apply pw_below_drewN | apply below_drew1) | exact HB.out))) : w.heap.size ≤ gb208)); clear HB; have HB := n0_; have BK208 := n1_; have GW208 := n2_; have GE208 := n3_; clear n0_ n1_ n2_ n3_; clear hb hbox hg) | ((with_reducible refine gate_callee (f := 26) rfl ?_); refine goesL_ (some 21) rfl rfl Tryd.func26 (by kernel_rfl) rfl #[.slice A0 l0.length c0, .int .i64 a1] rfl (by (try simp only [List.map_toArray, List.map_cons, List.map_nil]); first | done | rfl | (simp only [List.length_drop, List.length_take]; rfl)) ?_; (with_reducible refine (lines_Of.calls _ _ l0 a1 t209 t210 _ ?side1 ?side2 A5.out).mono ?_); (case side1 => repeat (first | exact (Kd.C_below HR0.out HB.out) | (with_reducible refine Kd.C_alloc ?_ _) | (with_reducible refine Kd.C_drewN ?_ _) | (with_reducible refine Kd.C_drew ?_))); (case side2 => exact HC0.out); rintro e w8 ⟨rfl, hb⟩; refine ⟨_, rfl, ?_⟩; have n0_ := Aside0.mk (blk_below (g := gb208) (o := .cells #[.int .i64 0, .int .i64 0, .int .i64 0] 29 (0, 0)) (by (with_reducible repeat (first | refine blk_drewN ?_ _ | refine blk_drew ?_ | refine blk_alloc ?_ _)); exact BK208.out) hb); have n1_ := Aside0.mk (below_step (by repeat (first | (with_reducible first | exact HB.out | apply below_alloc | apply pw_below_drewN | apply below_drew1 | refine below_set ?_ GE208.out) | exact HB.out)) hb); clear BK208; clear HB; have BK208 := n0_; have HB := n1_; clear n0_ n1_; (try clear hb); (try clear hb2); (try clear hk); (try clear hi)))
  (try simp only [Act.put, List.setIfInBounds_toArray, List.set_cons_zero, List.set_cons_succ])
  go_cut [48] (fun v48 wc => ∃ (kq : Nat) (x48_5 : Bool), v48 = .bool x48_5 ∧ Aside0 (object_Select.j0 kq l0 a1 a2 a3 t209 x48_5 = some (r1, r2, r3, r4)) ∧ Aside0 (kq ≤ k) ∧ Aside0 (wc.heap[gb208]? = some (.cells #[.int .i64 0, .int .i64 0, .int .i64 0] 29 (0, 0))) ∧ Aside0 (Below w.heap.size w wc))
  case first =>
    have H := HC6.out
    clear HC6
    by_cases c9 : t210 = 0
    · rw [if_pos c9] at H
      have c9b0 : (t210 == 0) = true := beq_iff_eq.mpr c9
      have c9b1 : (t210 != 0) = false := bne_eq_false_iff_eq.mpr c9
      clear c9
      (first | rw [c9b0] | (simp only [i64_w, i32_w]; rw [c9b0]) | skip)
      by_cases c10 : a2 < 1
      · rw [if_pos c10] at H
        have c10b0 : decide (a2 < 1) = true := decide_eq_true c10
        clear c10
        have H' := Aside0.mk H
        clear H
        go_wp2
        go_meet
        case rel => exact ⟨_, (true), (by first | rfl | (simp; done) | (simp [*]; done)), H', ⟨by first | omega | exact Nat.le_refl _⟩, ⟨by (with_reducible repeat (first | refine blk_drewN ?_ _ | refine blk_drew ?_ | refine blk_alloc ?_ _)); exact BK208.out⟩, ⟨by repeat (first | (with_reducible first | exact HB.out | apply below_alloc | apply pw_below_drewN | apply below_drew1 | refine below_set ?_ GE208.out) | exact HB.out)⟩⟩
      · rw [if_neg c10] at H
        have c10b0 : decide (a2 < 1) = false := decide_eq_false c10
        clear c10
        by_cases c11 : a2 > 9999
        · rw [if_pos c11] at H
          have c11b0 : decide (9999 < a2) = true := decide_eq_true c11
          clear c11
          have H' := Aside0.mk H
          clear H
          go_wp2
          go_meet
          case rel => exact ⟨_, (true), (by first | rfl | (simp; done) | (simp [*]; done)), H', ⟨by first | omega | exact Nat.le_refl _⟩, ⟨by (with_reducible repeat (first | refine blk_drewN ?_ _ | refine blk_drew ?_ | refine blk_alloc ?_ _)); exact BK208.out⟩, ⟨by repeat (first | (with_reducible first | exact HB.out | apply below_alloc | apply pw_below_drewN | apply below_drew1 | refine below_set ?_ GE208.out) | exact HB.out)⟩⟩
        · rw [if_neg c11] at H
          have c11b0 : decide (9999 < a2) = false := decide_eq_false c11
          clear c11
          by_cases c12 : (a3.size : Int) = 2
          · rw [if_pos c12] at H
            have c12b0 : ((a3.size : Int) == 2) = true := beq_iff_eq.mpr c12
            have c12b1 : ((a3.size : Int) != 2) = false := bne_eq_false_iff_eq.mpr c12
            clear c12
            by_cases c13 : 0 < (a3.size : Int)
            · rw [if_pos c13] at H
              have c13b0 : decide (0 < (a3.size : Int)) = true := decide_eq_true c13
              have c13b1 : decide (0 < a3.size) = true := decide_eq_true (by omega)
              clear c13
              by_cases c15 : (bt a3 0) = 105
              · rw [if_pos c15] at H
                have c15b0 : ((bt a3 0) == 105) = true := beq_iff_eq.mpr c15
                have c15b1 : ((bt a3 0) != 105) = false := bne_eq_false_iff_eq.mpr c15
                clear c15
                have H' := Aside0.mk H
                clear H
                have p14 : 0 ≤ (0 : Int) := (by omega)
                have q14 : 0 < a3.size := (by have : (0 : Int) < (a3.size : Int) := of_decide_eq_true (by first | (with_reducible assumption) | assumption); omega)
                have hx14 : ∀ h : 0 < a3.size, ((a3[0]'h).toNat : Int) = bt a3 0 := bt_at a3 0
                clear p14
                have qi14 : (0 < (a3.size : Int)) = True := eq_true (of_decide_eq_true (by first | (with_reducible assumption) | assumption))
                replace q14 := eq_true q14
                go_wp2
                go_meet
                case rel => exact ⟨_, (false), (by first | rfl | (simp; done) | (simp [*]; done)), H', ⟨by first | omega | exact Nat.le_refl _⟩, ⟨by (with_reducible repeat (first | refine blk_drewN ?_ _ | refine blk_drew ?_ | refine blk_alloc ?_ _)); exact BK208.out⟩, ⟨by repeat (first | (with_reducible first | exact HB.out | apply below_alloc | apply pw_below_drewN | apply below_drew1 | refine below_set ?_ GE208.out) | exact HB.out)⟩⟩
              · rw [if_neg c15] at H
                have c15b0 : ((bt a3 0) == 105) = false := beq_eq_false_iff_ne.mpr c15
                have c15b1 : ((bt a3 0) != 105) = true := bne_iff_ne.mpr c15
                have H' := Aside0.mk H
                clear H
                have p14 : 0 ≤ (0 : Int) := (by omega)
                have q14 : 0 < a3.size := (by have : (0 : Int) < (a3.size : Int) := of_decide_eq_true (by first | (with_reducible assumption) | assumption); omega)
                have hx14 : ∀ h : 0 < a3.size, ((a3[0]'h).toNat : Int) = bt a3 0 := bt_at a3 0
                clear p14
                have qi14 : (0 < (a3.size : Int)) = True := eq_true (of_decide_eq_true (by first | (with_reducible assumption) | assumption))
                replace q14 := eq_true q14
                have p16 : 0 ≤ (0 : Int) := (by omega)
                have q16 : 0 < a3.size := (by have : (0 : Int) < (a3.size : Int) := of_decide_eq_true (by first | (with_reducible assumption) | assumption); omega)
                have hx16 : ∀ h : 0 < a3.size, ((a3[0]'h).toNat : Int) = bt a3 0 := bt_at a3 0
                clear p16
                have qi16 : (0 < (a3.size : Int)) = True := eq_true (of_decide_eq_true (by first | (with_reducible assumption) | assumption))
                replace q16 := eq_true q16
                go_wp2
                go_meet
                case rel => exact ⟨_, (((bt a3 0) != 97)), (by first | rfl | (simp; done) | (simp [*]; done)), H', ⟨by first | omega | exact Nat.le_refl _⟩, ⟨by (with_reducible repeat (first | refine blk_drewN ?_ _ | refine blk_drew ?_ | refine blk_alloc ?_ _)); exact BK208.out⟩, ⟨by repeat (first | (with_reducible first | exact HB.out | apply below_alloc | apply pw_below_drewN | apply below_drew1 | refine below_set ?_ GE208.out) | exact HB.out)⟩⟩
            · rw [if_neg c13] at H
              exact absurd H (by simp)
          · rw [if_neg c12] at H
            have c12b0 : ((a3.size : Int) == 2) = false := beq_eq_false_iff_ne.mpr c12
            have c12b1 : ((a3.size : Int) != 2) = true := bne_iff_ne.mpr c12
            have H' := Aside0.mk H
            clear H
            go_wp2
            go_meet
            case rel => exact ⟨_, (true), (by first | rfl | (simp; done) | (simp [*]; done)), H', ⟨by first | omega | exact Nat.le_refl _⟩, ⟨by (with_reducible repeat (first | refine blk_drewN ?_ _ | refine blk_drew ?_ | refine blk_alloc ?_ _)); exact BK208.out⟩, ⟨by repeat (first | (with_reducible first | exact HB.out | apply below_alloc | apply pw_below_drewN | apply below_drew1 | refine below_set ?_ GE208.out) | exact HB.out)⟩⟩
    · rw [if_neg c9] at H
      have c9b0 : (t210 == 0) = false := beq_eq_false_iff_ne.mpr c9
      have c9b1 : (t210 != 0) = true := bne_iff_ne.mpr c9
      (first | rw [c9b0] | (simp only [i64_w, i32_w]; rw [c9b0]) | skip)
      have H' := Aside0.mk H
      clear H
      go_wp2
      go_meet
      case rel => exact ⟨_, (true), (by first | rfl | (simp; done) | (simp [*]; done)), H', ⟨by first | omega | exact Nat.le_refl _⟩, ⟨by (with_reducible repeat (first | refine blk_drewN ?_ _ | refine blk_drew ?_ | refine blk_alloc ?_ _)); exact BK208.out⟩, ⟨by repeat (first | (with_reducible first | exact HB.out | apply below_alloc | apply pw_below_drewN | apply below_drew1 | refine below_set ?_ GE208.out) | exact HB.out)⟩⟩
  case rest =>
    clear HC6
    try clear c1
    try clear p1
    try clear q1
    try clear hx1
    try clear qi1
    try clear c2
    try clear p2
    try clear c9
    try clear c9b0
    try clear c9b1
    try clear c10
    try clear c10b0
    try clear c11
    try clear c11b0
    try clear c12
    try clear c12b0
    try clear c12b1
    try clear c13
    try clear c13b0
    try clear c13b1
    try clear p14
    try clear q14
    try clear hx14
    try clear qi14
    try clear c15
    try clear c15b0
    try clear c15b1
    try clear p16
    try clear q16
    try clear hx16
    try clear qi16
    try clear p14
    try clear p16
    try clear q14
    try clear q16
    obtain ⟨kq, x48_5, rfl, HA, HJ5, BK208, HB⟩ := hcut
    cases kq with
    | zero => exact absurd HA.out (by simp [object_Select.j0])
    | succ kj5 =>
      have H := HA.out
      clear HA
      simp only [object_Select.j0] at H
      by_cases c17 : x48_5 = true
      · subst c17
        have H1 : (some (0, 0, 0, 2)) = some (r1, r2, r3, r4) := by rw [if_pos rfl] at H; exact H
        clear H
        have H := H1
        clear H1
        simp only [Option.some.injEq, Prod.mk.injEq] at H
        obtain ⟨rfl, rfl, rfl, rfl⟩ := H
        have hcz18_0 : wc.cell? ⟨gb208, 0, none⟩ = some (.int .i64 0) := (blk_cell BK208.out 0).trans rfl
        have hcz18_1 : wc.cell? ⟨gb208, 1, none⟩ = some (.int .i64 0) := (blk_cell BK208.out 1).trans rfl
        have hcz18_2 : wc.cell? ⟨gb208, 2, none⟩ = some (.int .i64 0) := (blk_cell BK208.out 2).trans rfl
        have hfz18_0 := blk_frozen BK208.out 0
        have hfz18_1 := blk_frozen BK208.out 1
        have hfz18_2 := blk_frozen BK208.out 2
        go_wp2
        refine bodyPost_ret (results_ct rfl _ _ gb208 29 #[.int .i64 0, .int .i64 0, .int .i64 0] (0, 0) _ rfl (by (with_reducible repeat (first | refine blk_drewN ?_ _ | refine blk_drew ?_ | refine blk_alloc ?_ _)); refine blk_put (cs := #[.int .i64 0, .int .i64 0, .int .i64 0]) ?_ 2 _ rfl; (with_reducible repeat (first | refine blk_drewN ?_ _ | refine blk_drew ?_ | refine blk_alloc ?_ _)); refine blk_put (cs := #[.int .i64 0, .int .i64 0, .int .i64 0]) ?_ 1 _ rfl; (with_reducible repeat (first | refine blk_drewN ?_ _ | refine blk_drew ?_ | refine blk_alloc ?_ _)); refine blk_put (cs := #[.int .i64 0, .int .i64 0, .int .i64 0]) ?_ 0 _ rfl; (with_reducible repeat (first | refine blk_drewN ?_ _ | refine blk_drew ?_ | refine blk_alloc ?_ _)); exact BK208.out) Tryd.underlying29 rfl (by kernel_rfl)) rfl ?_
        exact ⟨by first | rfl | (simp [errW_none, errW_some] <;> rfl) | (simp [*, errW_none, errW_some] <;> rfl), by repeat (first | (with_reducible first | exact HB.out | apply below_alloc | apply pw_below_drewN | apply below_drew1 | refine below_set ?_ GE208.out) | exact HB.out)⟩
      · replace c17 := Bool.eq_false_iff.mpr c17
        subst c17
        have H1 : (if 0 < (a3.size : Int) then (if 1 < (a3.size : Int) then (if (bt a3 1) = 119 then (object_Select.j1 kj5 l0 a1 a2 t209 ((bt a3 0) == 97) 1 (bt a3 1) true) else (object_Select.j1 kj5 l0 a1 a2 t209 ((bt a3 0) == 97) 1 (bt a3 1) ((bt a3 1) == 87))) else (none)) else (none)) = some (r1, r2, r3, r4) := by rw [if_neg (show ¬ (false = true) by decide)] at H; exact H
        clear H
        have H := H1
        clear H1
        by_cases c19 : 0 < (a3.size : Int)
        · rw [if_pos c19] at H
          have c19b0 : decide (0 < (a3.size : Int)) = true := decide_eq_true c19
          have c19b1 : decide (0 < a3.size) = true := decide_eq_true (by omega)
          clear c19
          by_cases c21 : 1 < (a3.size : Int)
          · rw [if_pos c21] at H
            have c21b0 : decide (1 < (a3.size : Int)) = true := decide_eq_true c21
            have c21b1 : decide (1 < a3.size) = true := decide_eq_true (by omega)
            clear c21
            have HC23 := Aside0.mk H
            clear H
            have p20 : 0 ≤ (0 : Int) := (by omega)
            have q20 : 0 < a3.size := (by have : (0 : Int) < (a3.size : Int) := of_decide_eq_true (by first | (with_reducible assumption) | assumption); omega)
            have hx20 : ∀ h : 0 < a3.size, ((a3[0]'h).toNat : Int) = bt a3 0 := bt_at a3 0
            clear p20
            have qi20 : (0 < (a3.size : Int)) = True := eq_true (of_decide_eq_true (by first | (with_reducible assumption) | assumption))
            replace q20 := eq_true q20
            have p22 : 0 ≤ (1 : Int) := (by omega)
            have q22 : 1 < a3.size := (by have : (1 : Int) < (a3.size : Int) := of_decide_eq_true (by first | (with_reducible assumption) | assumption); omega)
            have hx22 : ∀ h : 1 < a3.size, ((a3[1]'h).toNat : Int) = bt a3 1 := bt_at a3 1
            clear p22
            have qi22 : (1 < (a3.size : Int)) = True := eq_true (of_decide_eq_true (by first | (with_reducible assumption) | assumption))
            replace q22 := eq_true q22
            go_upto_region 10 with (fail)
            go_cut [56] (fun v56 wc => ∃ (kq : Nat) (x56_22 : Bool), v56 = .bool x56_22 ∧ Aside0 (object_Select.j1 kq l0 a1 a2 t209 ((bt a3 0) == 97) 1 (bt a3 1) x56_22 = some (r1, r2, r3, r4)) ∧ Aside0 (kq ≤ kj5) ∧ Aside0 (wc.heap[gb208]? = some (.cells #[.int .i64 0, .int .i64 0, .int .i64 0] 29 (0, 0))) ∧ Aside0 (Below w.heap.size w wc))
            case first =>
              have H := HC23.out
              clear HC23
              by_cases c24 : (bt a3 1) = 119
              · rw [if_pos c24] at H
                have c24b0 : ((bt a3 1) == 119) = true := beq_iff_eq.mpr c24
                have c24b1 : ((bt a3 1) != 119) = false := bne_eq_false_iff_eq.mpr c24
                clear c24
                (first | rw [c24b0] | (simp only [i64_w, i32_w]; rw [c24b0]) | skip)
                have H' := Aside0.mk H
                clear H
                go_wp2
                go_meet
                case rel => exact ⟨_, (true), (by first | rfl | (simp; done) | (simp [*]; done)), H', ⟨by have := HJ5.out; first | omega | exact Nat.le_refl _⟩, ⟨by (with_reducible repeat (first | refine blk_drewN ?_ _ | refine blk_drew ?_ | refine blk_alloc ?_ _)); exact BK208.out⟩, ⟨by repeat (first | (with_reducible first | exact HB.out | apply below_alloc | apply pw_below_drewN | apply below_drew1 | refine below_set ?_ GE208.out) | exact HB.out)⟩⟩
              · rw [if_neg c24] at H
                have c24b0 : ((bt a3 1) == 119) = false := beq_eq_false_iff_ne.mpr c24
                have c24b1 : ((bt a3 1) != 119) = true := bne_iff_ne.mpr c24
                (first | rw [c24b0] | (simp only [i64_w, i32_w]; rw [c24b0]) | skip)
                have H' := Aside0.mk H
                clear H
                go_wp2
                go_meet
                case rel => exact ⟨_, (((bt a3 1) == 87)), (by first | rfl | (simp; done) | (simp [*]; done)), H', ⟨by have := HJ5.out; first | omega | exact Nat.le_refl _⟩, ⟨by (with_reducible repeat (first | refine blk_drewN ?_ _ | refine blk_drew ?_ | refine blk_alloc ?_ _)); exact BK208.out⟩, ⟨by repeat (first | (with_reducible first | exact HB.out | apply below_alloc | apply pw_below_drewN | apply below_drew1 | refine below_set ?_ GE208.out) | exact HB.out)⟩⟩
            case rest =>
              clear HC23
              try clear c1
              try clear p1
              try clear q1
              try clear hx1
              try clear qi1
              try clear c2
              try clear p2
              try clear q2
              try clear hx2
              try clear qi2
              try clear c9
              try clear c9b0
              try clear c9b1
              try clear c10
              try clear c10b0
              try clear c11
              try clear c11b0
              try clear c12
              try clear c12b0
              try clear c12b1
              try clear c13
              try clear c13b0
              try clear c13b1
              try clear p14
              try clear q14
              try clear hx14
              try clear qi14
              try clear c15
              try clear c15b0
              try clear c15b1
              try clear p16
              try clear q16
              try clear hx16
              try clear qi16
              try clear c17
              try clear c19
              try clear c19b0
              try clear c19b1
              try clear p20
              try clear q20
              try clear hx20
              try clear qi20
              try clear c21
              try clear c21b0
              try clear c21b1
              try clear p22
              try clear q22
              try clear hx22
              try clear qi22
              try clear c24
              try clear c24b0
              try clear c24b1
              try clear hcz18_0
              try clear hcz18_1
              try clear hcz18_2
              try clear hfz18_0
              try clear hfz18_1
              try clear hfz18_2
              try clear p1
              try clear p14
              try clear p16
              try clear p2
              try clear p20
              try clear p22
              try clear q1
              try clear q14
              try clear q16
              try clear q20
              try clear q22
              obtain ⟨kq, x56_22, rfl, HA, HJ22, BK208, HB⟩ := hcut
              cases kq with
              | zero => exact absurd HA.out (by simp [object_Select.j1])
              | succ kj22 =>
                have H := HA.out
                clear HA
                simp only [object_Select.j1] at H
                by_cases c25 : x56_22 = true
                · subst c25
                  have H1 : ((object_words.f kj22 l0 t209 a1 a2 ((bt a3 1) == 87) ((bt a3 0) == 97)).bind fun bt211 => (if bt211.2.2 = true then (some (bt211.1, bt211.2.1, 1, 0)) else (some (0, 0, 0, 130)))) = some (r1, r2, r3, r4) := by rw [if_pos rfl] at H; exact H
                  clear H
                  have H := H1
                  clear H1
                  replace H := Option.bind_eq_some_iff.mp H
                  obtain ⟨⟨t211, t212, t213⟩, A260, H⟩ := H
                  replace H : (if t213 = true then (some (t211, t212, 1, 0)) else (some (0, 0, 0, 130))) = some (r1, r2, r3, r4) := H
                  have A26 := Aside0.mk A260
                  clear A260
                  by_cases c27 : t213 = true
                  · subst c27
                    have H1 : (some (t211, t212, 1, 0)) = some (r1, r2, r3, r4) := by rw [if_pos rfl] at H; exact H
                    clear H
                    have H := H1
                    clear H1
                    simp only [Option.some.injEq, Prod.mk.injEq] at H
                    obtain ⟨rfl, rfl, rfl, rfl⟩ := H
                    go_wp2_with (first | ((with_reducible refine gate_callee (f := 27) rfl ?_); refine goesL_ (some 71) rfl rfl Tryd.func27 (by kernel_rfl) rfl #[.slice A0 l0.length c0, .int .i64 t209, .int .i64 a1, .int .i64 a2, .bool ((bt a3 1) == 87), .bool ((bt a3 0) == 97)] rfl (by (try simp only [List.map_toArray, List.map_cons, List.map_nil]); first | done | rfl | (simp only [List.length_drop, List.length_take]; rfl)) ?_; (with_reducible refine (object_words.calls kj22 _ _ l0 t209 a1 a2 ((bt a3 1) == 87) ((bt a3 0) == 97) t211 t212 true _ ?side1 ?side2 A26.out).mono ?_); (case side1 => repeat (first | exact (Kd.C_below HR0.out HB.out) | (with_reducible refine Kd.C_alloc ?_ _) | (with_reducible refine Kd.C_drewN ?_ _) | (with_reducible refine Kd.C_drew ?_))); (case side2 => exact HC0.out); rintro e w28 ⟨rfl, hb⟩; refine ⟨_, rfl, ?_⟩; have n0_ := Aside0.mk (blk_below (g := gb208) (o := .cells #[.int .i64 0, .int .i64 0, .int .i64 0] 29 (0, 0)) (by (with_reducible repeat (first | refine blk_drewN ?_ _ | refine blk_drew ?_ | refine blk_alloc ?_ _)); exact BK208.out) hb); have n1_ := Aside0.mk (below_step (by repeat (first | (with_reducible first | exact HB.out | apply below_alloc | apply pw_below_drewN | apply below_drew1 | refine below_set ?_ GE208.out) | exact HB.out)) hb); clear BK208; clear HB; have BK208 := n0_; have HB := n1_; clear n0_ n1_; (try clear hb); (try clear hb2); (try clear hk); (try clear hi); have hcz29_0 : w28.cell? ⟨gb208, 0, none⟩ = some (.int .i64 0) := (blk_cell BK208.out 0).trans rfl; have hcz29_1 : w28.cell? ⟨gb208, 1, none⟩ = some (.int .i64 0) := (blk_cell BK208.out 1).trans rfl; have hcz29_2 : w28.cell? ⟨gb208, 2, none⟩ = some (.int .i64 0) := (blk_cell BK208.out 2).trans rfl; have hfz29_0 := blk_frozen BK208.out 0; have hfz29_1 := blk_frozen BK208.out 1; have hfz29_2 := blk_frozen BK208.out 2))
                    refine bodyPost_ret (results_ct rfl _ _ gb208 29 #[.int .i64 t211, .int .i64 t212, .int .i64 1] (0, 0) _ rfl (by (with_reducible repeat (first | refine blk_drewN ?_ _ | refine blk_drew ?_ | refine blk_alloc ?_ _)); refine blk_put (cs := #[.int .i64 t211, .int .i64 t212, .int .i64 0]) ?_ 2 _ rfl; (with_reducible repeat (first | refine blk_drewN ?_ _ | refine blk_drew ?_ | refine blk_alloc ?_ _)); refine blk_put (cs := #[.int .i64 t211, .int .i64 0, .int .i64 0]) ?_ 1 _ rfl; (with_reducible repeat (first | refine blk_drewN ?_ _ | refine blk_drew ?_ | refine blk_alloc ?_ _)); refine blk_put (cs := #[.int .i64 0, .int .i64 0, .int .i64 0]) ?_ 0 _ rfl; (with_reducible repeat (first | refine blk_drewN ?_ _ | refine blk_drew ?_ | refine blk_alloc ?_ _)); exact BK208.out) Tryd.underlying29 rfl (by kernel_rfl)) rfl ?_
                    exact ⟨by first | rfl | (simp [errW_none, errW_some] <;> rfl) | (simp [*, errW_none, errW_some] <;> rfl), by repeat (first | (with_reducible first | exact HB.out | apply below_alloc | apply pw_below_drewN | apply below_drew1 | refine below_set ?_ GE208.out) | exact HB.out)⟩
                  · replace c27 := Bool.eq_false_iff.mpr c27
                    subst c27
                    have H1 : (some (0, 0, 0, 130)) = some (r1, r2, r3, r4) := by rw [if_neg (show ¬ (false = true) by decide)] at H; exact H
                    clear H
                    have H := H1
                    clear H1
                    simp only [Option.some.injEq, Prod.mk.injEq] at H
                    obtain ⟨rfl, rfl, rfl, rfl⟩ := H
                    go_wp2_with (first | ((with_reducible refine gate_callee (f := 27) rfl ?_); refine goesL_ (some 71) rfl rfl Tryd.func27 (by kernel_rfl) rfl #[.slice A0 l0.length c0, .int .i64 t209, .int .i64 a1, .int .i64 a2, .bool ((bt a3 1) == 87), .bool ((bt a3 0) == 97)] rfl (by (try simp only [List.map_toArray, List.map_cons, List.map_nil]); first | done | rfl | (simp only [List.length_drop, List.length_take]; rfl)) ?_; (with_reducible refine (object_words.calls kj22 _ _ l0 t209 a1 a2 ((bt a3 1) == 87) ((bt a3 0) == 97) t211 t212 false _ ?side1 ?side2 A26.out).mono ?_); (case side1 => repeat (first | exact (Kd.C_below HR0.out HB.out) | (with_reducible refine Kd.C_alloc ?_ _) | (with_reducible refine Kd.C_drewN ?_ _) | (with_reducible refine Kd.C_drew ?_))); (case side2 => exact HC0.out); rintro e w30 ⟨rfl, hb⟩; refine ⟨_, rfl, ?_⟩; have n0_ := Aside0.mk (blk_below (g := gb208) (o := .cells #[.int .i64 0, .int .i64 0, .int .i64 0] 29 (0, 0)) (by (with_reducible repeat (first | refine blk_drewN ?_ _ | refine blk_drew ?_ | refine blk_alloc ?_ _)); exact BK208.out) hb); have n1_ := Aside0.mk (below_step (by repeat (first | (with_reducible first | exact HB.out | apply below_alloc | apply pw_below_drewN | apply below_drew1 | refine below_set ?_ GE208.out) | exact HB.out)) hb); clear BK208; clear HB; have BK208 := n0_; have HB := n1_; clear n0_ n1_; (try clear hb); (try clear hb2); (try clear hk); (try clear hi); have hcz31_0 : w30.cell? ⟨gb208, 0, none⟩ = some (.int .i64 0) := (blk_cell BK208.out 0).trans rfl; have hcz31_1 : w30.cell? ⟨gb208, 1, none⟩ = some (.int .i64 0) := (blk_cell BK208.out 1).trans rfl; have hcz31_2 : w30.cell? ⟨gb208, 2, none⟩ = some (.int .i64 0) := (blk_cell BK208.out 2).trans rfl; have hfz31_0 := blk_frozen BK208.out 0; have hfz31_1 := blk_frozen BK208.out 1; have hfz31_2 := blk_frozen BK208.out 2))
                    refine bodyPost_ret (results_ct rfl _ _ gb208 29 #[.int .i64 0, .int .i64 0, .int .i64 0] (0, 0) _ rfl (by (with_reducible repeat (first | refine blk_drewN ?_ _ | refine blk_drew ?_ | refine blk_alloc ?_ _)); refine blk_put (cs := #[.int .i64 0, .int .i64 0, .int .i64 0]) ?_ 2 _ rfl; (with_reducible repeat (first | refine blk_drewN ?_ _ | refine blk_drew ?_ | refine blk_alloc ?_ _)); refine blk_put (cs := #[.int .i64 0, .int .i64 0, .int .i64 0]) ?_ 1 _ rfl; (with_reducible repeat (first | refine blk_drewN ?_ _ | refine blk_drew ?_ | refine blk_alloc ?_ _)); refine blk_put (cs := #[.int .i64 0, .int .i64 0, .int .i64 0]) ?_ 0 _ rfl; (with_reducible repeat (first | refine blk_drewN ?_ _ | refine blk_drew ?_ | refine blk_alloc ?_ _)); exact BK208.out) Tryd.underlying29 rfl (by kernel_rfl)) rfl ?_
                    exact ⟨by first | rfl | (simp [errW_none, errW_some] <;> rfl) | (simp [*, errW_none, errW_some] <;> rfl), by repeat (first | (with_reducible first | exact HB.out | apply below_alloc | apply pw_below_drewN | apply below_drew1 | refine below_set ?_ GE208.out) | exact HB.out)⟩
                · replace c25 := Bool.eq_false_iff.mpr c25
                  subst c25
                  have H1 : (if (bt a3 1) = 112 then ((object_paragraphs.f kj22 l0 t209 a2 ((bt a3 0) == 97)).bind fun bt214 => (if bt214.2.2 = true then (some (bt214.1, bt214.2.1, 3, 0)) else (some (0, 0, 0, 130)))) else (if (bt a3 1) = 34 then (object_Select.j2 kj22 l0 a1 a2 t209 ((bt a3 0) == 97) 1 (bt a3 1) true) else (if (bt a3 1) = 39 then (object_Select.j2 kj22 l0 a1 a2 t209 ((bt a3 0) == 97) 1 (bt a3 1) true) else (object_Select.j2 kj22 l0 a1 a2 t209 ((bt a3 0) == 97) 1 (bt a3 1) ((bt a3 1) == 96))))) = some (r1, r2, r3, r4) := by rw [if_neg (show ¬ (false = true) by decide)] at H; exact H
                  clear H
                  have H := H1
                  clear H1
                  by_cases c32 : (bt a3 1) = 112
                  · rw [if_pos c32] at H
                    have c32b0 : ((bt a3 1) == 112) = true := beq_iff_eq.mpr c32
                    have c32b1 : ((bt a3 1) != 112) = false := bne_eq_false_iff_eq.mpr c32
                    clear c32
                    replace H := Option.bind_eq_some_iff.mp H
                    obtain ⟨⟨t214, t215, t216⟩, A330, H⟩ := H
                    replace H : (if t216 = true then (some (t214, t215, 3, 0)) else (some (0, 0, 0, 130))) = some (r1, r2, r3, r4) := H
                    have A33 := Aside0.mk A330
                    clear A330
                    by_cases c34 : t216 = true
                    · subst c34
                      have H1 : (some (t214, t215, 3, 0)) = some (r1, r2, r3, r4) := by rw [if_pos rfl] at H; exact H
                      clear H
                      have H := H1
                      clear H1
                      simp only [Option.some.injEq, Prod.mk.injEq] at H
                      obtain ⟨rfl, rfl, rfl, rfl⟩ := H
                      go_wp2_with (first | ((with_reducible refine gate_callee (f := 28) rfl ?_); refine goesL_ (some 83) rfl rfl Tryd.func28 (by kernel_rfl) rfl #[.slice A0 l0.length c0, .int .i64 t209, .int .i64 a2, .bool ((bt a3 0) == 97)] rfl (by (try simp only [List.map_toArray, List.map_cons, List.map_nil]); first | done | rfl | (simp only [List.length_drop, List.length_take]; rfl)) ?_; (with_reducible refine (object_paragraphs.calls kj22 _ _ l0 t209 a2 ((bt a3 0) == 97) t214 t215 true _ ?side1 ?side2 A33.out).mono ?_); (case side1 => repeat (first | exact (Kd.C_below HR0.out HB.out) | (with_reducible refine Kd.C_alloc ?_ _) | (with_reducible refine Kd.C_drewN ?_ _) | (with_reducible refine Kd.C_drew ?_))); (case side2 => exact HC0.out); rintro e w35 ⟨rfl, hb⟩; refine ⟨_, rfl, ?_⟩; have n0_ := Aside0.mk (blk_below (g := gb208) (o := .cells #[.int .i64 0, .int .i64 0, .int .i64 0] 29 (0, 0)) (by (with_reducible repeat (first | refine blk_drewN ?_ _ | refine blk_drew ?_ | refine blk_alloc ?_ _)); exact BK208.out) hb); have n1_ := Aside0.mk (below_step (by repeat (first | (with_reducible first | exact HB.out | apply below_alloc | apply pw_below_drewN | apply below_drew1 | refine below_set ?_ GE208.out) | exact HB.out)) hb); clear BK208; clear HB; have BK208 := n0_; have HB := n1_; clear n0_ n1_; (try clear hb); (try clear hb2); (try clear hk); (try clear hi); have hcz36_0 : w35.cell? ⟨gb208, 0, none⟩ = some (.int .i64 0) := (blk_cell BK208.out 0).trans rfl; have hcz36_1 : w35.cell? ⟨gb208, 1, none⟩ = some (.int .i64 0) := (blk_cell BK208.out 1).trans rfl; have hcz36_2 : w35.cell? ⟨gb208, 2, none⟩ = some (.int .i64 0) := (blk_cell BK208.out 2).trans rfl; have hfz36_0 := blk_frozen BK208.out 0; have hfz36_1 := blk_frozen BK208.out 1; have hfz36_2 := blk_frozen BK208.out 2))
                      refine bodyPost_ret (results_ct rfl _ _ gb208 29 #[.int .i64 t214, .int .i64 t215, .int .i64 3] (0, 0) _ rfl (by (with_reducible repeat (first | refine blk_drewN ?_ _ | refine blk_drew ?_ | refine blk_alloc ?_ _)); refine blk_put (cs := #[.int .i64 t214, .int .i64 t215, .int .i64 0]) ?_ 2 _ rfl; (with_reducible repeat (first | refine blk_drewN ?_ _ | refine blk_drew ?_ | refine blk_alloc ?_ _)); refine blk_put (cs := #[.int .i64 t214, .int .i64 0, .int .i64 0]) ?_ 1 _ rfl; (with_reducible repeat (first | refine blk_drewN ?_ _ | refine blk_drew ?_ | refine blk_alloc ?_ _)); refine blk_put (cs := #[.int .i64 0, .int .i64 0, .int .i64 0]) ?_ 0 _ rfl; (with_reducible repeat (first | refine blk_drewN ?_ _ | refine blk_drew ?_ | refine blk_alloc ?_ _)); exact BK208.out) Tryd.underlying29 rfl (by kernel_rfl)) rfl ?_
                      exact ⟨by first | rfl | (simp [errW_none, errW_some] <;> rfl) | (simp [*, errW_none, errW_some] <;> rfl), by repeat (first | (with_reducible first | exact HB.out | apply below_alloc | apply pw_below_drewN | apply below_drew1 | refine below_set ?_ GE208.out) | exact HB.out)⟩
                    · replace c34 := Bool.eq_false_iff.mpr c34
                      subst c34
                      have H1 : (some (0, 0, 0, 130)) = some (r1, r2, r3, r4) := by rw [if_neg (show ¬ (false = true) by decide)] at H; exact H
                      clear H
                      have H := H1
                      clear H1
                      simp only [Option.some.injEq, Prod.mk.injEq] at H
                      obtain ⟨rfl, rfl, rfl, rfl⟩ := H
                      go_wp2_with (first | ((with_reducible refine gate_callee (f := 28) rfl ?_); refine goesL_ (some 83) rfl rfl Tryd.func28 (by kernel_rfl) rfl #[.slice A0 l0.length c0, .int .i64 t209, .int .i64 a2, .bool ((bt a3 0) == 97)] rfl (by (try simp only [List.map_toArray, List.map_cons, List.map_nil]); first | done | rfl | (simp only [List.length_drop, List.length_take]; rfl)) ?_; (with_reducible refine (object_paragraphs.calls kj22 _ _ l0 t209 a2 ((bt a3 0) == 97) t214 t215 false _ ?side1 ?side2 A33.out).mono ?_); (case side1 => repeat (first | exact (Kd.C_below HR0.out HB.out) | (with_reducible refine Kd.C_alloc ?_ _) | (with_reducible refine Kd.C_drewN ?_ _) | (with_reducible refine Kd.C_drew ?_))); (case side2 => exact HC0.out); rintro e w37 ⟨rfl, hb⟩; refine ⟨_, rfl, ?_⟩; have n0_ := Aside0.mk (blk_below (g := gb208) (o := .cells #[.int .i64 0, .int .i64 0, .int .i64 0] 29 (0, 0)) (by (with_reducible repeat (first | refine blk_drewN ?_ _ | refine blk_drew ?_ | refine blk_alloc ?_ _)); exact BK208.out) hb); have n1_ := Aside0.mk (below_step (by repeat (first | (with_reducible first | exact HB.out | apply below_alloc | apply pw_below_drewN | apply below_drew1 | refine below_set ?_ GE208.out) | exact HB.out)) hb); clear BK208; clear HB; have BK208 := n0_; have HB := n1_; clear n0_ n1_; (try clear hb); (try clear hb2); (try clear hk); (try clear hi); have hcz38_0 : w37.cell? ⟨gb208, 0, none⟩ = some (.int .i64 0) := (blk_cell BK208.out 0).trans rfl; have hcz38_1 : w37.cell? ⟨gb208, 1, none⟩ = some (.int .i64 0) := (blk_cell BK208.out 1).trans rfl; have hcz38_2 : w37.cell? ⟨gb208, 2, none⟩ = some (.int .i64 0) := (blk_cell BK208.out 2).trans rfl; have hfz38_0 := blk_frozen BK208.out 0; have hfz38_1 := blk_frozen BK208.out 1; have hfz38_2 := blk_frozen BK208.out 2))
                      refine bodyPost_ret (results_ct rfl _ _ gb208 29 #[.int .i64 0, .int .i64 0, .int .i64 0] (0, 0) _ rfl (by (with_reducible repeat (first | refine blk_drewN ?_ _ | refine blk_drew ?_ | refine blk_alloc ?_ _)); refine blk_put (cs := #[.int .i64 0, .int .i64 0, .int .i64 0]) ?_ 2 _ rfl; (with_reducible repeat (first | refine blk_drewN ?_ _ | refine blk_drew ?_ | refine blk_alloc ?_ _)); refine blk_put (cs := #[.int .i64 0, .int .i64 0, .int .i64 0]) ?_ 1 _ rfl; (with_reducible repeat (first | refine blk_drewN ?_ _ | refine blk_drew ?_ | refine blk_alloc ?_ _)); refine blk_put (cs := #[.int .i64 0, .int .i64 0, .int .i64 0]) ?_ 0 _ rfl; (with_reducible repeat (first | refine blk_drewN ?_ _ | refine blk_drew ?_ | refine blk_alloc ?_ _)); exact BK208.out) Tryd.underlying29 rfl (by kernel_rfl)) rfl ?_
                      exact ⟨by first | rfl | (simp [errW_none, errW_some] <;> rfl) | (simp [*, errW_none, errW_some] <;> rfl), by repeat (first | (with_reducible first | exact HB.out | apply below_alloc | apply pw_below_drewN | apply below_drew1 | refine below_set ?_ GE208.out) | exact HB.out)⟩
                  · rw [if_neg c32] at H
                    have c32b0 : ((bt a3 1) == 112) = false := beq_eq_false_iff_ne.mpr c32
                    have c32b1 : ((bt a3 1) != 112) = true := bne_iff_ne.mpr c32
                    have HC39 := Aside0.mk H
                    clear H
                    go_upto_region 15 with (fail)
                    go_cut [87] (fun v87 wc => ∃ (kq : Nat) (x87_38 : Bool), v87 = .bool x87_38 ∧ Aside0 (object_Select.j2 kq l0 a1 a2 t209 ((bt a3 0) == 97) 1 (bt a3 1) x87_38 = some (r1, r2, r3, r4)) ∧ Aside0 (kq ≤ kj22) ∧ Aside0 (wc.heap[gb208]? = some (.cells #[.int .i64 0, .int .i64 0, .int .i64 0] 29 (0, 0))) ∧ Aside0 (Below w.heap.size w wc))
                    case first =>
                      have H := HC39.out
                      clear HC39
                      by_cases c40 : (bt a3 1) = 34
                      · rw [if_pos c40] at H
                        have c40b0 : ((bt a3 1) == 34) = true := beq_iff_eq.mpr c40
                        have c40b1 : ((bt a3 1) != 34) = false := bne_eq_false_iff_eq.mpr c40
                        clear c40
                        (first | rw [c40b0] | (simp only [i64_w, i32_w]; rw [c40b0]) | skip)
                        have H' := Aside0.mk H
                        clear H
                        go_wp2
                        go_meet
                        case rel => exact ⟨_, (true), (by first | rfl | (simp; done) | (simp [*]; done)), H', ⟨by have := HJ5.out; have := HJ22.out; first | omega | exact Nat.le_refl _⟩, ⟨by (with_reducible repeat (first | refine blk_drewN ?_ _ | refine blk_drew ?_ | refine blk_alloc ?_ _)); exact BK208.out⟩, ⟨by repeat (first | (with_reducible first | exact HB.out | apply below_alloc | apply pw_below_drewN | apply below_drew1 | refine below_set ?_ GE208.out) | exact HB.out)⟩⟩
                      · rw [if_neg c40] at H
                        have c40b0 : ((bt a3 1) == 34) = false := beq_eq_false_iff_ne.mpr c40
                        have c40b1 : ((bt a3 1) != 34) = true := bne_iff_ne.mpr c40
                        (first | rw [c40b0] | (simp only [i64_w, i32_w]; rw [c40b0]) | skip)
                        by_cases c41 : (bt a3 1) = 39
                        · rw [if_pos c41] at H
                          have c41b0 : ((bt a3 1) == 39) = true := beq_iff_eq.mpr c41
                          have c41b1 : ((bt a3 1) != 39) = false := bne_eq_false_iff_eq.mpr c41
                          clear c41
                          have H' := Aside0.mk H
                          clear H
                          go_wp2
                          go_meet
                          case rel => exact ⟨_, (true), (by first | rfl | (simp; done) | (simp [*]; done)), H', ⟨by have := HJ5.out; have := HJ22.out; first | omega | exact Nat.le_refl _⟩, ⟨by (with_reducible repeat (first | refine blk_drewN ?_ _ | refine blk_drew ?_ | refine blk_alloc ?_ _)); exact BK208.out⟩, ⟨by repeat (first | (with_reducible first | exact HB.out | apply below_alloc | apply pw_below_drewN | apply below_drew1 | refine below_set ?_ GE208.out) | exact HB.out)⟩⟩
                        · rw [if_neg c41] at H
                          have c41b0 : ((bt a3 1) == 39) = false := beq_eq_false_iff_ne.mpr c41
                          have c41b1 : ((bt a3 1) != 39) = true := bne_iff_ne.mpr c41
                          have H' := Aside0.mk H
                          clear H
                          go_wp2
                          go_meet
                          case rel => exact ⟨_, (((bt a3 1) == 96)), (by first | rfl | (simp; done) | (simp [*]; done)), H', ⟨by have := HJ5.out; have := HJ22.out; first | omega | exact Nat.le_refl _⟩, ⟨by (with_reducible repeat (first | refine blk_drewN ?_ _ | refine blk_drew ?_ | refine blk_alloc ?_ _)); exact BK208.out⟩, ⟨by repeat (first | (with_reducible first | exact HB.out | apply below_alloc | apply pw_below_drewN | apply below_drew1 | refine below_set ?_ GE208.out) | exact HB.out)⟩⟩
                    case rest =>
                      clear HC39
                      try clear c1
                      try clear p1
                      try clear q1
                      try clear hx1
                      try clear qi1
                      try clear c2
                      try clear p2
                      try clear q2
                      try clear hx2
                      try clear qi2
                      try clear c3
                      try clear c4
                      try clear c9
                      try clear c9b0
                      try clear c9b1
                      try clear c10
                      try clear c10b0
                      try clear c11
                      try clear c11b0
                      try clear c12
                      try clear c12b0
                      try clear c12b1
                      try clear c13
                      try clear c13b0
                      try clear c13b1
                      try clear p14
                      try clear q14
                      try clear hx14
                      try clear qi14
                      try clear c15
                      try clear c15b0
                      try clear c15b1
                      try clear p16
                      try clear q16
                      try clear hx16
                      try clear qi16
                      try clear c17
                      try clear c19
                      try clear c19b0
                      try clear c19b1
                      try clear p20
                      try clear q20
                      try clear hx20
                      try clear qi20
                      try clear c21
                      try clear c21b0
                      try clear c21b1
                      try clear p22
                      try clear q22
                      try clear hx22
                      try clear qi22
                      try clear c24
                      try clear c24b0
                      try clear c24b1
                      try clear c25
                      try clear c26
                      try clear c27
                      try clear c28
                      try clear c32
                      try clear c32b0
                      try clear c32b1
                      try clear c34
                      try clear c40
                      try clear c40b0
                      try clear c40b1
                      try clear c41
                      try clear c41b0
                      try clear c41b1
                      try clear hcz18_0
                      try clear hcz18_1
                      try clear hcz18_2
                      try clear hcz29_0
                      try clear hcz29_1
                      try clear hcz29_2
                      try clear hcz31_0
                      try clear hcz31_1
                      try clear hcz31_2
                      try clear hcz36_0
                      try clear hcz36_1
                      try clear hcz36_2
                      try clear hcz38_0
                      try clear hcz38_1
                      try clear hcz38_2
                      try clear hfz18_0
                      try clear hfz18_1
                      try clear hfz18_2
                      try clear hfz29_0
                      try clear hfz29_1
                      try clear hfz29_2
                      try clear hfz31_0
                      try clear hfz31_1
                      try clear hfz31_2
                      try clear hfz36_0
                      try clear hfz36_1
                      try clear hfz36_2
                      try clear hfz38_0
                      try clear hfz38_1
                      try clear hfz38_2
                      try clear p1
                      try clear p14
                      try clear p16
                      try clear p2
                      try clear p20
                      try clear p22
                      try clear q1
                      try clear q14
                      try clear q16
                      try clear q2
                      try clear q20
                      try clear q22
                      obtain ⟨kq, x87_38, rfl, HA, HJ38, BK208, HB⟩ := hcut
                      cases kq with
                      | zero => exact absurd HA.out (by simp [object_Select.j2])
                      | succ kj38 =>
                        have H := HA.out
                        clear HA
                        simp only [object_Select.j2] at H
                        by_cases c42 : x87_38 = true
                        · subst c42
                          have H1 : ((object_quoted.f kj38 l0 t209 a1 (bt a3 1) ((bt a3 0) == 97)).bind fun bt217 => (if bt217.2.2 = true then (some (bt217.1, bt217.2.1, 1, 0)) else (some (0, 0, 0, 130)))) = some (r1, r2, r3, r4) := by rw [if_pos rfl] at H; exact H
                          clear H
                          have H := H1
                          clear H1
                          replace H := Option.bind_eq_some_iff.mp H
                          obtain ⟨⟨t217, t218, t219⟩, A430, H⟩ := H
                          replace H : (if t219 = true then (some (t217, t218, 1, 0)) else (some (0, 0, 0, 130))) = some (r1, r2, r3, r4) := H
                          have A43 := Aside0.mk A430
                          clear A430
                          by_cases c44 : t219 = true
                          · subst c44
                            have H1 : (some (t217, t218, 1, 0)) = some (r1, r2, r3, r4) := by rw [if_pos rfl] at H; exact H
                            clear H
                            have H := H1
                            clear H1
                            simp only [Option.some.injEq, Prod.mk.injEq] at H
                            obtain ⟨rfl, rfl, rfl, rfl⟩ := H
                            go_wp2_with (first | ((with_reducible refine gate_callee (f := 29) rfl ?_); refine goesL_ (some 104) rfl rfl Tryd.func29 (by kernel_rfl) rfl #[.slice A0 l0.length c0, .int .i64 t209, .int .i64 a1, .int .u8 (bt a3 1), .bool ((bt a3 0) == 97)] rfl (by (try simp only [List.map_toArray, List.map_cons, List.map_nil]); first | done | rfl | (simp only [List.length_drop, List.length_take]; rfl)) ?_; (with_reducible refine (object_quoted.calls kj38 _ _ l0 t209 a1 (bt a3 1) ((bt a3 0) == 97) t217 t218 true _ ?side1 ?side2 A43.out).mono ?_); (case side1 => repeat (first | exact (Kd.C_below HR0.out HB.out) | (with_reducible refine Kd.C_alloc ?_ _) | (with_reducible refine Kd.C_drewN ?_ _) | (with_reducible refine Kd.C_drew ?_))); (case side2 => exact HC0.out); rintro e w' ⟨rfl, ⟨nd, rfl⟩⟩; refine ⟨_, rfl, ?_⟩; (try (rw [drewN_self wc]; generalize hq_ : World.drewN wc _ = wc; have n0_ : Aside0 (wc.heap[gb208]? = some (.cells #[.int .i64 0, .int .i64 0, .int .i64 0] 29 (0, 0))) := ⟨by rw [← hq_]; exact (by (with_reducible repeat (first | refine blk_drewN ?_ _ | refine blk_drew ?_ | refine blk_alloc ?_ _)); exact BK208.out)⟩; have n1_ : Aside0 (Below w.heap.size w wc) := ⟨by rw [← hq_]; exact (by repeat (first | (with_reducible first | exact HB.out | apply below_alloc | apply pw_below_drewN | apply below_drew1 | refine below_set ?_ GE208.out) | exact HB.out))⟩; clear BK208 HB hq_; have BK208 := n0_; have HB := n1_; clear n0_ n1_)); (try have hcy208_0 : wc.cell? ⟨gb208, 0, none⟩ = some (.int .i64 0) := (blk_cell BK208.out 0).trans rfl); (try have hfy208_0 := blk_frozen BK208.out 0); (try have hcy208_1 : wc.cell? ⟨gb208, 1, none⟩ = some (.int .i64 0) := (blk_cell BK208.out 1).trans rfl); (try have hfy208_1 := blk_frozen BK208.out 1); (try have hcy208_2 : wc.cell? ⟨gb208, 2, none⟩ = some (.int .i64 0) := (blk_cell BK208.out 2).trans rfl); (try have hfy208_2 := blk_frozen BK208.out 2); have hcz45_0 : wc.cell? ⟨gb208, 0, none⟩ = some (.int .i64 0) := (blk_cell BK208.out 0).trans rfl; have hcz45_1 : wc.cell? ⟨gb208, 1, none⟩ = some (.int .i64 0) := (blk_cell BK208.out 1).trans rfl; have hcz45_2 : wc.cell? ⟨gb208, 2, none⟩ = some (.int .i64 0) := (blk_cell BK208.out 2).trans rfl; have hfz45_0 := blk_frozen BK208.out 0; have hfz45_1 := blk_frozen BK208.out 1; have hfz45_2 := blk_frozen BK208.out 2))
                            refine bodyPost_ret (results_ct rfl _ _ gb208 29 #[.int .i64 t217, .int .i64 t218, .int .i64 1] (0, 0) _ rfl (by (with_reducible repeat (first | refine blk_drewN ?_ _ | refine blk_drew ?_ | refine blk_alloc ?_ _)); refine blk_put (cs := #[.int .i64 t217, .int .i64 t218, .int .i64 0]) ?_ 2 _ rfl; (with_reducible repeat (first | refine blk_drewN ?_ _ | refine blk_drew ?_ | refine blk_alloc ?_ _)); refine blk_put (cs := #[.int .i64 t217, .int .i64 0, .int .i64 0]) ?_ 1 _ rfl; (with_reducible repeat (first | refine blk_drewN ?_ _ | refine blk_drew ?_ | refine blk_alloc ?_ _)); refine blk_put (cs := #[.int .i64 0, .int .i64 0, .int .i64 0]) ?_ 0 _ rfl; (with_reducible repeat (first | refine blk_drewN ?_ _ | refine blk_drew ?_ | refine blk_alloc ?_ _)); exact BK208.out) Tryd.underlying29 rfl (by kernel_rfl)) rfl ?_
                            exact ⟨by first | rfl | (simp [errW_none, errW_some] <;> rfl) | (simp [*, errW_none, errW_some] <;> rfl), by repeat (first | (with_reducible first | exact HB.out | apply below_alloc | apply pw_below_drewN | apply below_drew1 | refine below_set ?_ GE208.out) | exact HB.out)⟩
                          · replace c44 := Bool.eq_false_iff.mpr c44
                            subst c44
                            have H1 : (some (0, 0, 0, 130)) = some (r1, r2, r3, r4) := by rw [if_neg (show ¬ (false = true) by decide)] at H; exact H
                            clear H
                            have H := H1
                            clear H1
                            simp only [Option.some.injEq, Prod.mk.injEq] at H
                            obtain ⟨rfl, rfl, rfl, rfl⟩ := H
                            go_wp2_with (first | ((with_reducible refine gate_callee (f := 29) rfl ?_); refine goesL_ (some 104) rfl rfl Tryd.func29 (by kernel_rfl) rfl #[.slice A0 l0.length c0, .int .i64 t209, .int .i64 a1, .int .u8 (bt a3 1), .bool ((bt a3 0) == 97)] rfl (by (try simp only [List.map_toArray, List.map_cons, List.map_nil]); first | done | rfl | (simp only [List.length_drop, List.length_take]; rfl)) ?_; (with_reducible refine (object_quoted.calls kj38 _ _ l0 t209 a1 (bt a3 1) ((bt a3 0) == 97) t217 t218 false _ ?side1 ?side2 A43.out).mono ?_); (case side1 => repeat (first | exact (Kd.C_below HR0.out HB.out) | (with_reducible refine Kd.C_alloc ?_ _) | (with_reducible refine Kd.C_drewN ?_ _) | (with_reducible refine Kd.C_drew ?_))); (case side2 => exact HC0.out); rintro e w' ⟨rfl, ⟨nd, rfl⟩⟩; refine ⟨_, rfl, ?_⟩; (try (rw [drewN_self wc]; generalize hq_ : World.drewN wc _ = wc; have n0_ : Aside0 (wc.heap[gb208]? = some (.cells #[.int .i64 0, .int .i64 0, .int .i64 0] 29 (0, 0))) := ⟨by rw [← hq_]; exact (by (with_reducible repeat (first | refine blk_drewN ?_ _ | refine blk_drew ?_ | refine blk_alloc ?_ _)); exact BK208.out)⟩; have n1_ : Aside0 (Below w.heap.size w wc) := ⟨by rw [← hq_]; exact (by repeat (first | (with_reducible first | exact HB.out | apply below_alloc | apply pw_below_drewN | apply below_drew1 | refine below_set ?_ GE208.out) | exact HB.out))⟩; clear BK208 HB hq_; have BK208 := n0_; have HB := n1_; clear n0_ n1_)); (try have hcy208_0 : wc.cell? ⟨gb208, 0, none⟩ = some (.int .i64 0) := (blk_cell BK208.out 0).trans rfl); (try have hfy208_0 := blk_frozen BK208.out 0); (try have hcy208_1 : wc.cell? ⟨gb208, 1, none⟩ = some (.int .i64 0) := (blk_cell BK208.out 1).trans rfl); (try have hfy208_1 := blk_frozen BK208.out 1); (try have hcy208_2 : wc.cell? ⟨gb208, 2, none⟩ = some (.int .i64 0) := (blk_cell BK208.out 2).trans rfl); (try have hfy208_2 := blk_frozen BK208.out 2); have hcz46_0 : wc.cell? ⟨gb208, 0, none⟩ = some (.int .i64 0) := (blk_cell BK208.out 0).trans rfl; have hcz46_1 : wc.cell? ⟨gb208, 1, none⟩ = some (.int .i64 0) := (blk_cell BK208.out 1).trans rfl; have hcz46_2 : wc.cell? ⟨gb208, 2, none⟩ = some (.int .i64 0) := (blk_cell BK208.out 2).trans rfl; have hfz46_0 := blk_frozen BK208.out 0; have hfz46_1 := blk_frozen BK208.out 1; have hfz46_2 := blk_frozen BK208.out 2))
                            refine bodyPost_ret (results_ct rfl _ _ gb208 29 #[.int .i64 0, .int .i64 0, .int .i64 0] (0, 0) _ rfl (by (with_reducible repeat (first | refine blk_drewN ?_ _ | refine blk_drew ?_ | refine blk_alloc ?_ _)); refine blk_put (cs := #[.int .i64 0, .int .i64 0, .int .i64 0]) ?_ 2 _ rfl; (with_reducible repeat (first | refine blk_drewN ?_ _ | refine blk_drew ?_ | refine blk_alloc ?_ _)); refine blk_put (cs := #[.int .i64 0, .int .i64 0, .int .i64 0]) ?_ 1 _ rfl; (with_reducible repeat (first | refine blk_drewN ?_ _ | refine blk_drew ?_ | refine blk_alloc ?_ _)); refine blk_put (cs := #[.int .i64 0, .int .i64 0, .int .i64 0]) ?_ 0 _ rfl; (with_reducible repeat (first | refine blk_drewN ?_ _ | refine blk_drew ?_ | refine blk_alloc ?_ _)); exact BK208.out) Tryd.underlying29 rfl (by kernel_rfl)) rfl ?_
                            exact ⟨by first | rfl | (simp [errW_none, errW_some] <;> rfl) | (simp [*, errW_none, errW_some] <;> rfl), by repeat (first | (with_reducible first | exact HB.out | apply below_alloc | apply pw_below_drewN | apply below_drew1 | refine below_set ?_ GE208.out) | exact HB.out)⟩
                        · replace c42 := Bool.eq_false_iff.mpr c42
                          subst c42
                          have H1 : ((strings_IndexByte.f (⟨#[40, 41, 98, 91, 93, 123, 125, 66]⟩ : ByteArray) (bt a3 1)).bind fun t220 => (if t220 ≥ 0 then ((object_opener.f (bt a3 1)).bind fun t221 => ((object_bracketed.f kj38 l0 a1 a2 t221 ((bt a3 0) == 97)).bind fun bt222 => (if bt222.2.2 = true then (some (bt222.1, bt222.2.1, 1, 0)) else (some (0, 0, 0, 130))))) else (some (0, 0, 0, 2)))) = some (r1, r2, r3, r4) := by rw [if_neg (show ¬ (false = true) by decide)] at H; exact H
                          clear H
                          have H := H1
                          clear H1
                          replace H := Option.bind_eq_some_iff.mp H
                          obtain ⟨t220, A470, H⟩ := H
                          replace H : (if t220 ≥ 0 then ((object_opener.f (bt a3 1)).bind fun t221 => ((object_bracketed.f kj38 l0 a1 a2 t221 ((bt a3 0) == 97)).bind fun bt222 => (if bt222.2.2 = true then (some (bt222.1, bt222.2.1, 1, 0)) else (some (0, 0, 0, 130))))) else (some (0, 0, 0, 2))) = some (r1, r2, r3, r4) := H
                          have A47 := Aside0.mk A470
                          clear A470
                          by_cases c48 : t220 ≥ 0
                          · rw [if_pos c48] at H
                            have c48b0 : decide (0 ≤ t220) = true := decide_eq_true c48
                            clear c48
                            replace H := Option.bind_eq_some_iff.mp H
                            obtain ⟨t221, A490, H⟩ := H
                            replace H : ((object_bracketed.f kj38 l0 a1 a2 t221 ((bt a3 0) == 97)).bind fun bt222 => (if bt222.2.2 = true then (some (bt222.1, bt222.2.1, 1, 0)) else (some (0, 0, 0, 130)))) = some (r1, r2, r3, r4) := H
                            have A49 := Aside0.mk A490
                            clear A490
                            replace H := Option.bind_eq_some_iff.mp H
                            obtain ⟨⟨t222, t223, t224⟩, A500, H⟩ := H
                            replace H : (if t224 = true then (some (t222, t223, 1, 0)) else (some (0, 0, 0, 130))) = some (r1, r2, r3, r4) := H
                            have A50 := Aside0.mk A500
                            clear A500
                            by_cases c51 : t224 = true
                            · subst c51
                              have H1 : (some (t222, t223, 1, 0)) = some (r1, r2, r3, r4) := by rw [if_pos rfl] at H; exact H
                              clear H
                              have H := H1
                              clear H1
                              simp only [Option.some.injEq, Prod.mk.injEq] at H
                              obtain ⟨rfl, rfl, rfl, rfl⟩ := H
                              go_wp2_with (first | ((with_reducible refine gate_callee (f := 30) rfl ?_); refine goesL_ (some 110) rfl rfl Tryd.func30 (by kernel_rfl) rfl #[.string (⟨#[40, 41, 98, 91, 93, 123, 125, 66]⟩ : ByteArray), .int .u8 (bt a3 1)] rfl (by (try simp only [List.map_toArray, List.map_cons, List.map_nil]); first | done | rfl | (simp only [List.length_drop, List.length_take]; rfl)) ?_; (with_reducible refine (strings_IndexByte.calls (⟨#[40, 41, 98, 91, 93, 123, 125, 66]⟩ : ByteArray) (bt a3 1) t220 _ A47.out).mono ?_); rintro e w' ⟨rfl, ⟨nd, rfl⟩⟩; refine ⟨_, rfl, ?_⟩; (try (rw [drewN_self wc]; generalize hq_ : World.drewN wc _ = wc; have n0_ : Aside0 (wc.heap[gb208]? = some (.cells #[.int .i64 0, .int .i64 0, .int .i64 0] 29 (0, 0))) := ⟨by rw [← hq_]; exact (by (with_reducible repeat (first | refine blk_drewN ?_ _ | refine blk_drew ?_ | refine blk_alloc ?_ _)); exact BK208.out)⟩; have n1_ : Aside0 (Below w.heap.size w wc) := ⟨by rw [← hq_]; exact (by repeat (first | (with_reducible first | exact HB.out | apply below_alloc | apply pw_below_drewN | apply below_drew1 | refine below_set ?_ GE208.out) | exact HB.out))⟩; clear BK208 HB hq_; have BK208 := n0_; have HB := n1_; clear n0_ n1_)); (try have hcy208_0 : wc.cell? ⟨gb208, 0, none⟩ = some (.int .i64 0) := (blk_cell BK208.out 0).trans rfl); (try have hfy208_0 := blk_frozen BK208.out 0); (try have hcy208_1 : wc.cell? ⟨gb208, 1, none⟩ = some (.int .i64 0) := (blk_cell BK208.out 1).trans rfl); (try have hfy208_1 := blk_frozen BK208.out 1); (try have hcy208_2 : wc.cell? ⟨gb208, 2, none⟩ = some (.int .i64 0) := (blk_cell BK208.out 2).trans rfl); (try have hfy208_2 := blk_frozen BK208.out 2)) | ((with_reducible refine gate_callee (f := 32) rfl ?_); refine goesL_ (some 117) rfl rfl Tryd.func32 (by kernel_rfl) rfl #[.int .u8 (bt a3 1)] rfl (by (try simp only [List.map_toArray, List.map_cons, List.map_nil]); first | done | rfl | (simp only [List.length_drop, List.length_take]; rfl)) ?_; (with_reducible refine (object_opener.calls (bt a3 1) t221 _ A49.out).mono ?_); rintro e w' ⟨rfl, ⟨nd, rfl⟩⟩; refine ⟨_, rfl, ?_⟩; (try (rw [drewN_self wc]; generalize hq_ : World.drewN wc _ = wc; have n0_ : Aside0 (wc.heap[gb208]? = some (.cells #[.int .i64 0, .int .i64 0, .int .i64 0] 29 (0, 0))) := ⟨by rw [← hq_]; exact (by (with_reducible repeat (first | refine blk_drewN ?_ _ | refine blk_drew ?_ | refine blk_alloc ?_ _)); exact BK208.out)⟩; have n1_ : Aside0 (Below w.heap.size w wc) := ⟨by rw [← hq_]; exact (by repeat (first | (with_reducible first | exact HB.out | apply below_alloc | apply pw_below_drewN | apply below_drew1 | refine below_set ?_ GE208.out) | exact HB.out))⟩; clear BK208 HB hq_; have BK208 := n0_; have HB := n1_; clear n0_ n1_)); (try have hcy208_0 : wc.cell? ⟨gb208, 0, none⟩ = some (.int .i64 0) := (blk_cell BK208.out 0).trans rfl); (try have hfy208_0 := blk_frozen BK208.out 0); (try have hcy208_1 : wc.cell? ⟨gb208, 1, none⟩ = some (.int .i64 0) := (blk_cell BK208.out 1).trans rfl); (try have hfy208_1 := blk_frozen BK208.out 1); (try have hcy208_2 : wc.cell? ⟨gb208, 2, none⟩ = some (.int .i64 0) := (blk_cell BK208.out 2).trans rfl); (try have hfy208_2 := blk_frozen BK208.out 2)) | ((with_reducible refine gate_callee (f := 31) rfl ?_); refine goesL_ (some 119) rfl rfl Tryd.func31 (by kernel_rfl) rfl #[.slice A0 l0.length c0, .int .i64 a1, .int .i64 a2, .int .u8 t221, .bool ((bt a3 0) == 97)] rfl (by (try simp only [List.map_toArray, List.map_cons, List.map_nil]); first | done | rfl | (simp only [List.length_drop, List.length_take]; rfl)) ?_; (with_reducible refine (object_bracketed.calls kj38 _ _ l0 a1 a2 t221 ((bt a3 0) == 97) t222 t223 true _ ?side1 ?side2 A50.out).mono ?_); (case side1 => repeat (first | exact (Kd.C_below HR0.out HB.out) | (with_reducible refine Kd.C_alloc ?_ _) | (with_reducible refine Kd.C_drewN ?_ _) | (with_reducible refine Kd.C_drew ?_))); (case side2 => exact HC0.out); rintro e w52 ⟨rfl, hb⟩; refine ⟨_, rfl, ?_⟩; have n0_ := Aside0.mk (blk_below (g := gb208) (o := .cells #[.int .i64 0, .int .i64 0, .int .i64 0] 29 (0, 0)) (by (with_reducible repeat (first | refine blk_drewN ?_ _ | refine blk_drew ?_ | refine blk_alloc ?_ _)); exact BK208.out) hb); have n1_ := Aside0.mk (below_step (by repeat (first | (with_reducible first | exact HB.out | apply below_alloc | apply pw_below_drewN | apply below_drew1 | refine below_set ?_ GE208.out) | exact HB.out)) hb); clear BK208; clear HB; have BK208 := n0_; have HB := n1_; clear n0_ n1_; (try clear hb); (try clear hb2); (try clear hk); (try clear hi); have hcz53_0 : w52.cell? ⟨gb208, 0, none⟩ = some (.int .i64 0) := (blk_cell BK208.out 0).trans rfl; have hcz53_1 : w52.cell? ⟨gb208, 1, none⟩ = some (.int .i64 0) := (blk_cell BK208.out 1).trans rfl; have hcz53_2 : w52.cell? ⟨gb208, 2, none⟩ = some (.int .i64 0) := (blk_cell BK208.out 2).trans rfl; have hfz53_0 := blk_frozen BK208.out 0; have hfz53_1 := blk_frozen BK208.out 1; have hfz53_2 := blk_frozen BK208.out 2))
                              refine bodyPost_ret (results_ct rfl _ _ gb208 29 #[.int .i64 t222, .int .i64 t223, .int .i64 1] (0, 0) _ rfl (by (with_reducible repeat (first | refine blk_drewN ?_ _ | refine blk_drew ?_ | refine blk_alloc ?_ _)); refine blk_put (cs := #[.int .i64 t222, .int .i64 t223, .int .i64 0]) ?_ 2 _ rfl; (with_reducible repeat (first | refine blk_drewN ?_ _ | refine blk_drew ?_ | refine blk_alloc ?_ _)); refine blk_put (cs := #[.int .i64 t222, .int .i64 0, .int .i64 0]) ?_ 1 _ rfl; (with_reducible repeat (first | refine blk_drewN ?_ _ | refine blk_drew ?_ | refine blk_alloc ?_ _)); refine blk_put (cs := #[.int .i64 0, .int .i64 0, .int .i64 0]) ?_ 0 _ rfl; (with_reducible repeat (first | refine blk_drewN ?_ _ | refine blk_drew ?_ | refine blk_alloc ?_ _)); exact BK208.out) Tryd.underlying29 rfl (by kernel_rfl)) rfl ?_
                              exact ⟨by first | rfl | (simp [errW_none, errW_some] <;> rfl) | (simp [*, errW_none, errW_some] <;> rfl), by repeat (first | (with_reducible first | exact HB.out | apply below_alloc | apply pw_below_drewN | apply below_drew1 | refine below_set ?_ GE208.out) | exact HB.out)⟩
                            · replace c51 := Bool.eq_false_iff.mpr c51
                              subst c51
                              have H1 : (some (0, 0, 0, 130)) = some (r1, r2, r3, r4) := by rw [if_neg (show ¬ (false = true) by decide)] at H; exact H
                              clear H
                              have H := H1
                              clear H1
                              simp only [Option.some.injEq, Prod.mk.injEq] at H
                              obtain ⟨rfl, rfl, rfl, rfl⟩ := H
                              go_wp2_with (first | ((with_reducible refine gate_callee (f := 30) rfl ?_); refine goesL_ (some 110) rfl rfl Tryd.func30 (by kernel_rfl) rfl #[.string (⟨#[40, 41, 98, 91, 93, 123, 125, 66]⟩ : ByteArray), .int .u8 (bt a3 1)] rfl (by (try simp only [List.map_toArray, List.map_cons, List.map_nil]); first | done | rfl | (simp only [List.length_drop, List.length_take]; rfl)) ?_; (with_reducible refine (strings_IndexByte.calls (⟨#[40, 41, 98, 91, 93, 123, 125, 66]⟩ : ByteArray) (bt a3 1) t220 _ A47.out).mono ?_); rintro e w' ⟨rfl, ⟨nd, rfl⟩⟩; refine ⟨_, rfl, ?_⟩; (try (rw [drewN_self wc]; generalize hq_ : World.drewN wc _ = wc; have n0_ : Aside0 (wc.heap[gb208]? = some (.cells #[.int .i64 0, .int .i64 0, .int .i64 0] 29 (0, 0))) := ⟨by rw [← hq_]; exact (by (with_reducible repeat (first | refine blk_drewN ?_ _ | refine blk_drew ?_ | refine blk_alloc ?_ _)); exact BK208.out)⟩; have n1_ : Aside0 (Below w.heap.size w wc) := ⟨by rw [← hq_]; exact (by repeat (first | (with_reducible first | exact HB.out | apply below_alloc | apply pw_below_drewN | apply below_drew1 | refine below_set ?_ GE208.out) | exact HB.out))⟩; clear BK208 HB hq_; have BK208 := n0_; have HB := n1_; clear n0_ n1_)); (try have hcy208_0 : wc.cell? ⟨gb208, 0, none⟩ = some (.int .i64 0) := (blk_cell BK208.out 0).trans rfl); (try have hfy208_0 := blk_frozen BK208.out 0); (try have hcy208_1 : wc.cell? ⟨gb208, 1, none⟩ = some (.int .i64 0) := (blk_cell BK208.out 1).trans rfl); (try have hfy208_1 := blk_frozen BK208.out 1); (try have hcy208_2 : wc.cell? ⟨gb208, 2, none⟩ = some (.int .i64 0) := (blk_cell BK208.out 2).trans rfl); (try have hfy208_2 := blk_frozen BK208.out 2)) | ((with_reducible refine gate_callee (f := 32) rfl ?_); refine goesL_ (some 117) rfl rfl Tryd.func32 (by kernel_rfl) rfl #[.int .u8 (bt a3 1)] rfl (by (try simp only [List.map_toArray, List.map_cons, List.map_nil]); first | done | rfl | (simp only [List.length_drop, List.length_take]; rfl)) ?_; (with_reducible refine (object_opener.calls (bt a3 1) t221 _ A49.out).mono ?_); rintro e w' ⟨rfl, ⟨nd, rfl⟩⟩; refine ⟨_, rfl, ?_⟩; (try (rw [drewN_self wc]; generalize hq_ : World.drewN wc _ = wc; have n0_ : Aside0 (wc.heap[gb208]? = some (.cells #[.int .i64 0, .int .i64 0, .int .i64 0] 29 (0, 0))) := ⟨by rw [← hq_]; exact (by (with_reducible repeat (first | refine blk_drewN ?_ _ | refine blk_drew ?_ | refine blk_alloc ?_ _)); exact BK208.out)⟩; have n1_ : Aside0 (Below w.heap.size w wc) := ⟨by rw [← hq_]; exact (by repeat (first | (with_reducible first | exact HB.out | apply below_alloc | apply pw_below_drewN | apply below_drew1 | refine below_set ?_ GE208.out) | exact HB.out))⟩; clear BK208 HB hq_; have BK208 := n0_; have HB := n1_; clear n0_ n1_)); (try have hcy208_0 : wc.cell? ⟨gb208, 0, none⟩ = some (.int .i64 0) := (blk_cell BK208.out 0).trans rfl); (try have hfy208_0 := blk_frozen BK208.out 0); (try have hcy208_1 : wc.cell? ⟨gb208, 1, none⟩ = some (.int .i64 0) := (blk_cell BK208.out 1).trans rfl); (try have hfy208_1 := blk_frozen BK208.out 1); (try have hcy208_2 : wc.cell? ⟨gb208, 2, none⟩ = some (.int .i64 0) := (blk_cell BK208.out 2).trans rfl); (try have hfy208_2 := blk_frozen BK208.out 2)) | ((with_reducible refine gate_callee (f := 31) rfl ?_); refine goesL_ (some 119) rfl rfl Tryd.func31 (by kernel_rfl) rfl #[.slice A0 l0.length c0, .int .i64 a1, .int .i64 a2, .int .u8 t221, .bool ((bt a3 0) == 97)] rfl (by (try simp only [List.map_toArray, List.map_cons, List.map_nil]); first | done | rfl | (simp only [List.length_drop, List.length_take]; rfl)) ?_; (with_reducible refine (object_bracketed.calls kj38 _ _ l0 a1 a2 t221 ((bt a3 0) == 97) t222 t223 false _ ?side1 ?side2 A50.out).mono ?_); (case side1 => repeat (first | exact (Kd.C_below HR0.out HB.out) | (with_reducible refine Kd.C_alloc ?_ _) | (with_reducible refine Kd.C_drewN ?_ _) | (with_reducible refine Kd.C_drew ?_))); (case side2 => exact HC0.out); rintro e w54 ⟨rfl, hb⟩; refine ⟨_, rfl, ?_⟩; have n0_ := Aside0.mk (blk_below (g := gb208) (o := .cells #[.int .i64 0, .int .i64 0, .int .i64 0] 29 (0, 0)) (by (with_reducible repeat (first | refine blk_drewN ?_ _ | refine blk_drew ?_ | refine blk_alloc ?_ _)); exact BK208.out) hb); have n1_ := Aside0.mk (below_step (by repeat (first | (with_reducible first | exact HB.out | apply below_alloc | apply pw_below_drewN | apply below_drew1 | refine below_set ?_ GE208.out) | exact HB.out)) hb); clear BK208; clear HB; have BK208 := n0_; have HB := n1_; clear n0_ n1_; (try clear hb); (try clear hb2); (try clear hk); (try clear hi); have hcz55_0 : w54.cell? ⟨gb208, 0, none⟩ = some (.int .i64 0) := (blk_cell BK208.out 0).trans rfl; have hcz55_1 : w54.cell? ⟨gb208, 1, none⟩ = some (.int .i64 0) := (blk_cell BK208.out 1).trans rfl; have hcz55_2 : w54.cell? ⟨gb208, 2, none⟩ = some (.int .i64 0) := (blk_cell BK208.out 2).trans rfl; have hfz55_0 := blk_frozen BK208.out 0; have hfz55_1 := blk_frozen BK208.out 1; have hfz55_2 := blk_frozen BK208.out 2))
                              refine bodyPost_ret (results_ct rfl _ _ gb208 29 #[.int .i64 0, .int .i64 0, .int .i64 0] (0, 0) _ rfl (by (with_reducible repeat (first | refine blk_drewN ?_ _ | refine blk_drew ?_ | refine blk_alloc ?_ _)); refine blk_put (cs := #[.int .i64 0, .int .i64 0, .int .i64 0]) ?_ 2 _ rfl; (with_reducible repeat (first | refine blk_drewN ?_ _ | refine blk_drew ?_ | refine blk_alloc ?_ _)); refine blk_put (cs := #[.int .i64 0, .int .i64 0, .int .i64 0]) ?_ 1 _ rfl; (with_reducible repeat (first | refine blk_drewN ?_ _ | refine blk_drew ?_ | refine blk_alloc ?_ _)); refine blk_put (cs := #[.int .i64 0, .int .i64 0, .int .i64 0]) ?_ 0 _ rfl; (with_reducible repeat (first | refine blk_drewN ?_ _ | refine blk_drew ?_ | refine blk_alloc ?_ _)); exact BK208.out) Tryd.underlying29 rfl (by kernel_rfl)) rfl ?_
                              exact ⟨by first | rfl | (simp [errW_none, errW_some] <;> rfl) | (simp [*, errW_none, errW_some] <;> rfl), by repeat (first | (with_reducible first | exact HB.out | apply below_alloc | apply pw_below_drewN | apply below_drew1 | refine below_set ?_ GE208.out) | exact HB.out)⟩
                          · rw [if_neg c48] at H
                            have c48b0 : decide (0 ≤ t220) = false := decide_eq_false c48
                            clear c48
                            simp only [Option.some.injEq, Prod.mk.injEq] at H
                            obtain ⟨rfl, rfl, rfl, rfl⟩ := H
                            go_wp2_with (first | ((with_reducible refine gate_callee (f := 30) rfl ?_); refine goesL_ (some 110) rfl rfl Tryd.func30 (by kernel_rfl) rfl #[.string (⟨#[40, 41, 98, 91, 93, 123, 125, 66]⟩ : ByteArray), .int .u8 (bt a3 1)] rfl (by (try simp only [List.map_toArray, List.map_cons, List.map_nil]); first | done | rfl | (simp only [List.length_drop, List.length_take]; rfl)) ?_; (with_reducible refine (strings_IndexByte.calls (⟨#[40, 41, 98, 91, 93, 123, 125, 66]⟩ : ByteArray) (bt a3 1) t220 _ A47.out).mono ?_); rintro e w' ⟨rfl, ⟨nd, rfl⟩⟩; refine ⟨_, rfl, ?_⟩; (try (rw [drewN_self wc]; generalize hq_ : World.drewN wc _ = wc; have n0_ : Aside0 (wc.heap[gb208]? = some (.cells #[.int .i64 0, .int .i64 0, .int .i64 0] 29 (0, 0))) := ⟨by rw [← hq_]; exact (by (with_reducible repeat (first | refine blk_drewN ?_ _ | refine blk_drew ?_ | refine blk_alloc ?_ _)); exact BK208.out)⟩; have n1_ : Aside0 (Below w.heap.size w wc) := ⟨by rw [← hq_]; exact (by repeat (first | (with_reducible first | exact HB.out | apply below_alloc | apply pw_below_drewN | apply below_drew1 | refine below_set ?_ GE208.out) | exact HB.out))⟩; clear BK208 HB hq_; have BK208 := n0_; have HB := n1_; clear n0_ n1_)); (try have hcy208_0 : wc.cell? ⟨gb208, 0, none⟩ = some (.int .i64 0) := (blk_cell BK208.out 0).trans rfl); (try have hfy208_0 := blk_frozen BK208.out 0); (try have hcy208_1 : wc.cell? ⟨gb208, 1, none⟩ = some (.int .i64 0) := (blk_cell BK208.out 1).trans rfl); (try have hfy208_1 := blk_frozen BK208.out 1); (try have hcy208_2 : wc.cell? ⟨gb208, 2, none⟩ = some (.int .i64 0) := (blk_cell BK208.out 2).trans rfl); (try have hfy208_2 := blk_frozen BK208.out 2); have hcz56_0 : wc.cell? ⟨gb208, 0, none⟩ = some (.int .i64 0) := (blk_cell BK208.out 0).trans rfl; have hcz56_1 : wc.cell? ⟨gb208, 1, none⟩ = some (.int .i64 0) := (blk_cell BK208.out 1).trans rfl; have hcz56_2 : wc.cell? ⟨gb208, 2, none⟩ = some (.int .i64 0) := (blk_cell BK208.out 2).trans rfl; have hfz56_0 := blk_frozen BK208.out 0; have hfz56_1 := blk_frozen BK208.out 1; have hfz56_2 := blk_frozen BK208.out 2))
                            refine bodyPost_ret (results_ct rfl _ _ gb208 29 #[.int .i64 0, .int .i64 0, .int .i64 0] (0, 0) _ rfl (by (with_reducible repeat (first | refine blk_drewN ?_ _ | refine blk_drew ?_ | refine blk_alloc ?_ _)); refine blk_put (cs := #[.int .i64 0, .int .i64 0, .int .i64 0]) ?_ 2 _ rfl; (with_reducible repeat (first | refine blk_drewN ?_ _ | refine blk_drew ?_ | refine blk_alloc ?_ _)); refine blk_put (cs := #[.int .i64 0, .int .i64 0, .int .i64 0]) ?_ 1 _ rfl; (with_reducible repeat (first | refine blk_drewN ?_ _ | refine blk_drew ?_ | refine blk_alloc ?_ _)); refine blk_put (cs := #[.int .i64 0, .int .i64 0, .int .i64 0]) ?_ 0 _ rfl; (with_reducible repeat (first | refine blk_drewN ?_ _ | refine blk_drew ?_ | refine blk_alloc ?_ _)); exact BK208.out) Tryd.underlying29 rfl (by kernel_rfl)) rfl ?_
                            exact ⟨by first | rfl | (simp [errW_none, errW_some] <;> rfl) | (simp [*, errW_none, errW_some] <;> rfl), by repeat (first | (with_reducible first | exact HB.out | apply below_alloc | apply pw_below_drewN | apply below_drew1 | refine below_set ?_ GE208.out) | exact HB.out)⟩
          · rw [if_neg c21] at H
            exact absurd H (by simp)
        · rw [if_neg c19] at H
          exact absurd H (by simp)

end Go.Proofs.YtcochbkdgjgaeaaDoor.X
end
section
-- Written by wip/xprint.py over the kit's print.py: the Lean function of each Go function, and the proof that the Go text comes to it.
namespace Go.Proofs.YtcochbkdgjgaeaaDoor.X
open Go.RowKit Go.Proofs.YtcochbkdgjgaeaaDoorW.PrintWords Go.Proofs.YtcochbkdgjgaeaaDoorW.PrintLast Go.Proofs.YtcochbkdgjgaeaaDoorW.PrintMore
attribute [local go_sem] max2_int min2_int max_two min_two max_three min_three max_four min_four   -- for this text's walks alone
set_option linter.unusedVariables false
set_option linter.unusedSimpArgs false

attribute [local go_sem high] eqA29
/-! ### quoinlaw13_awake: function 7 -/
def quoinlaw13_awake.f (k : Nat)  : Option (Bool) := (object_Select.f k (([102, 111, 111, 32, 98, 97, 114, 46, 98, 97, 122] : List Int)) 5 1 (⟨#[97, 119]⟩ : ByteArray)).bind fun bt228 => ((object_Select.f k (([102, 40, 97, 40, 98, 41, 99, 41] : List Int)) 5 2 (⟨#[105, 40]⟩ : ByteArray)).bind fun bt236 => (if bt228.2.2.2 = 0 then (if bt236.2.2.2 = 0 then (if (bt228.1 == 3 && (bt228.2.1 == 7 && (bt228.2.2.1 == 1))) = true then (some (bt236.1 == 2 && (bt236.2.1 == 7 && (bt236.2.2.1 == 1)))) else (some false)) else (some false)) else (some false)))
theorem quoinlaw13_awake.mono : ∀ k, LeO (quoinlaw13_awake.f k ) (quoinlaw13_awake.f (k + 1) ) := by
  intro  k
  unfold quoinlaw13_awake.f
  repeat' first
      | (with_reducible exact object_Select.mono _ _ _ _ _)
      | (with_reducible exact LeO.refl _)
      | (with_reducible exact LeO.none _)
      | (with_reducible refine LeO.ite ?_ ?_)
      | (with_reducible refine LeO.bind ?_ (fun _ => ?_))
      | exact object_Select.mono _ _ _ _ _
      | exact LeO.none _
      | refine LeO.ite ?_ ?_
      | refine LeO.bind ?_ (fun _ => ?_)
set_option maxHeartbeats 8000000 in
set_option maxRecDepth 100000 in
theorem quoinlaw13_awake.calls (k : Nat)  (r : Bool) (w : World) (h : quoinlaw13_awake.f k  = some r) :
    Calls Tryd.prog 7 #[] w fun e w' => e = .returned (.bool r) ∧ Below w.heap.size w w' := by
  have hu29 := Tryd.underlying29
  have HB := Aside0.mk (Below.refl w.heap.size w)
  have H : ((object_Select.f k (([102, 111, 111, 32, 98, 97, 114, 46, 98, 97, 122] : List Int)) 5 1 (⟨#[97, 119]⟩ : ByteArray)).bind fun bt228 => ((object_Select.f k (([102, 40, 97, 40, 98, 41, 99, 41] : List Int)) 5 2 (⟨#[105, 40]⟩ : ByteArray)).bind fun bt236 => (if bt228.2.2.2 = 0 then (if bt236.2.2.2 = 0 then (if (bt228.1 == 3 && (bt228.2.1 == 7 && (bt228.2.2.1 == 1))) = true then (some (bt236.1 == 2 && (bt236.2.1 == 7 && (bt236.2.2.1 == 1)))) else (some false)) else (some false)) else (some false)))) = some r := h
  clear h
  obtain ⟨y225, hy225⟩ : ∃ y_ : List Int, y_ = (([102, 111, 111, 32, 98, 97, 114, 46, 98, 97, 122] : List Int)) := ⟨_, rfl⟩
  replace H : ((object_Select.f k y225 5 1 (⟨#[97, 119]⟩ : ByteArray)).bind fun bt228 => ((object_Select.f k (([102, 40, 97, 40, 98, 41, 99, 41] : List Int)) 5 2 (⟨#[105, 40]⟩ : ByteArray)).bind fun bt236 => (if bt228.2.2.2 = 0 then (if bt236.2.2.2 = 0 then (if (bt228.1 == 3 && (bt228.2.1 == 7 && (bt228.2.2.1 == 1))) = true then (some (bt236.1 == 2 && (bt236.2.1 == 7 && (bt236.2.2.1 == 1)))) else (some false)) else (some false)) else (some false)))) = some r := by first | (rw [hy225]; with_reducible exact H) | (have H2_ := (Option.bind_some _ _).symm.trans H; rw [hy225]; with_reducible exact H2_) | (have H2_ := (Option.bind_some _ _).symm.trans H; with_reducible exact H2_) | with_reducible exact H | (rw [hy225]; exact H) | exact H
  have Ny225 := Aside0.mk hy225
  clear hy225
  replace H := Option.bind_eq_some_iff.mp H
  obtain ⟨⟨t228, t229, t230, t231⟩, A10, H⟩ := H
  replace H : ((object_Select.f k (([102, 40, 97, 40, 98, 41, 99, 41] : List Int)) 5 2 (⟨#[105, 40]⟩ : ByteArray)).bind fun bt236 => (if t231 = 0 then (if bt236.2.2.2 = 0 then (if (t228 == 3 && (t229 == 7 && (t230 == 1))) = true then (some (bt236.1 == 2 && (bt236.2.1 == 7 && (bt236.2.2.1 == 1)))) else (some false)) else (some false)) else (some false))) = some r := H
  have A1 := Aside0.mk A10
  clear A10
  obtain ⟨y233, hy233⟩ : ∃ y_ : List Int, y_ = (([102, 40, 97, 40, 98, 41, 99, 41] : List Int)) := ⟨_, rfl⟩
  replace H : ((object_Select.f k y233 5 2 (⟨#[105, 40]⟩ : ByteArray)).bind fun bt236 => (if t231 = 0 then (if bt236.2.2.2 = 0 then (if (t228 == 3 && (t229 == 7 && (t230 == 1))) = true then (some (bt236.1 == 2 && (bt236.2.1 == 7 && (bt236.2.2.1 == 1)))) else (some false)) else (some false)) else (some false))) = some r := by first | (rw [hy233]; with_reducible exact H) | (have H2_ := (Option.bind_some _ _).symm.trans H; rw [hy233]; with_reducible exact H2_) | (have H2_ := (Option.bind_some _ _).symm.trans H; with_reducible exact H2_) | with_reducible exact H | (rw [hy233]; exact H) | exact H
  have Ny233 := Aside0.mk hy233
  clear hy233
  replace H := Option.bind_eq_some_iff.mp H
  obtain ⟨⟨t236, t237, t238, t239⟩, A20, H⟩ := H
  replace H : (if t231 = 0 then (if t239 = 0 then (if (t228 == 3 && (t229 == 7 && (t230 == 1))) = true then (some (t236 == 2 && (t237 == 7 && (t238 == 1)))) else (some false)) else (some false)) else (some false)) = some r := H
  have A2 := Aside0.mk A20
  clear A20
  by_cases c3 : t231 = 0
  · rw [if_pos c3] at H
    have c3b0 : (t231 == 0) = true := beq_iff_eq.mpr c3
    have c3b1 : (t231 != 0) = false := bne_eq_false_iff_eq.mpr c3
    clear c3
    by_cases c4 : t239 = 0
    · rw [if_pos c4] at H
      have c4b0 : (t239 == 0) = true := beq_iff_eq.mpr c4
      have c4b1 : (t239 != 0) = false := bne_eq_false_iff_eq.mpr c4
      clear c4
      by_cases c5 : (t228 == 3 && (t229 == 7 && (t230 == 1))) = true
      · rw [if_pos c5] at H
        have c5b0 : (t228 == 3 && (t229 == 7 && (t230 == 1))) = true := c5
        (try (have c5b1 : decide (t228 = 3 && (t229 == 7 && (t230 == 1))) = true := by simpa using c5))
        (try (have c5b2 : (t228 == 3 && (t229 == 7 && (t230 == 1))) = true := by simpa using c5))
        clear c5
        obtain rfl := Option.some.inj H
        go_enter Tryd.func7, Tryd.ntmps7
        go_wp2_with (first | ((with_reducible refine gate_dst (N := 7) rfl ?_); refine Kd.V_conv 5 ?hg (N := 7) ?hd ([102, 111, 111, 32, 98, 97, 114, 46, 98, 97, 122] : List Int) (cs := #[.int .u8 102, .int .u8 111, .int .u8 111, .int .u8 32, .int .u8 98, .int .u8 97, .int .u8 114, .int .u8 46, .int .u8 98, .int .u8 97, .int .u8 122]) ?hc ?hr (by simp) ?_; (case hd => rfl); (case hg => rfl); (case hc => rfl); (case hr => have kc_ := fun (w_ : World) (C_ : Array Value) (n_ c_ : Nat) => Lib.run_convert_bytes_const (P := Tryd.prog) w_ 22 5 C_ n_ c_ Tryd.underlying22 Tryd.underlying5; first | (go_simp; done) | (go_simp; rfl) | (have kd_ : ∀ (w_ : World) (C_ : Array Value) (n_ c_ s_ : Nat) (h_ : w_.heap.size = s_), (convert 22 22 (.slice (some ⟨s_, 0, none⟩) n_ c_)).run Tryd.prog (w_.alloc (.cells C_ 5)) = .ok (.slice (some ⟨s_, 0, none⟩) n_ c_) (w_.alloc (.cells C_ 5 (C_.size, C_.size + 1))) := fun w_ C_ n_ c_ s_ h_ => by subst h_; exact kc_ w_ C_ n_ c_); first | (go_simp; done) | (go_simp; rfl)); intro v226 w6 ho7 hb; (first | rw [← Ny225.out] at ho7 | (simp only [Int.reduceToNat] at ho7; rw [← Ny225.out] at ho7)); have n0_ := Aside0.mk (Kd.V_lower (Kd.V_mono (ok' := fun k_ => True) ho7 (fun k_ hk_ => trivial)) (below_size (by repeat (first | (with_reducible first | exact HB.out | apply below_alloc | apply pw_below_drewN | apply below_drew1) | exact HB.out)))); have n1_ := Aside0.mk (below_step (by repeat (first | (with_reducible first | exact HB.out | apply below_alloc | apply pw_below_drewN | apply below_drew1) | exact HB.out)) hb); clear HB; have HO227 := n0_; have HB := n1_; clear n0_ n1_; clear hb ho7; obtain ⟨Ao8, co8, eo8⟩ := Kd.V_slice HO227.out; subst eo8) | ((with_reducible refine gate_callee (f := 10) rfl ?_); refine goesL_ (some 8) rfl rfl Tryd.func10 (by kernel_rfl) rfl #[.slice Ao8 y225.length co8, .int .i64 5, .int .i64 1, .string (⟨#[97, 119]⟩ : ByteArray)] rfl (by (try simp only [List.map_toArray, List.map_cons, List.map_nil]); first | done | rfl | (simp only [List.length_drop, List.length_take]; rfl)) ?_; (with_reducible refine (object_Select.calls k _ _ y225 5 1 (⟨#[97, 119]⟩ : ByteArray) t228 t229 t230 t231 _ ?side1 ?side2 A1.out).mono ?_); (case side1 => repeat (first | exact (Kd.V_reads' HO227.out).2.2 | (with_reducible refine Kd.C_alloc ?_ _) | (with_reducible refine Kd.C_drewN ?_ _) | (with_reducible refine Kd.C_drew ?_))); (case side2 => exact (Kd.V_reads' HO227.out).2.1); rintro e w9 ⟨rfl, hb⟩; refine ⟨_, rfl, ?_⟩; have n0_ := Aside0.mk (Kd.V_below (by (with_reducible repeat (first | apply Kd.V_alloc | apply Kd.V_drewN | apply Kd.V_drew)); exact HO227.out) hb); have n1_ := Aside0.mk (below_step (by repeat (first | (with_reducible first | exact HB.out | apply below_alloc | apply pw_below_drewN | apply below_drew1) | exact HB.out)) hb); clear HO227; clear HB; have HO227 := n0_; have HB := n1_; clear n0_ n1_; (try clear hb); (try clear hb2); (try clear hk); (try clear hi)) | ((with_reducible refine gate_dst (N := 1) rfl ?_); refine box_event ?hg (N := 1) ?hd (cs := #[.int .i64 0, .int .i64 0, .int .i64 0]) (t := 29) ?hr ?_; (case hd => rfl); (case hg => rfl); (case hr => first | (go_simp; done) | (go_simp; rfl)); intro gb232 hg w10 hbox hb; have n0_ := Aside0.mk (Kd.V_below (Kd.V_elderB (by (with_reducible repeat (first | apply Kd.V_alloc | apply Kd.V_drewN | apply Kd.V_drew)); exact HO227.out) gb232 (Nat.le_of_eq hg.symm)) hb); have n1_ := Aside0.mk (below_step (by repeat (first | (with_reducible first | exact HB.out | apply below_alloc | apply pw_below_drewN | apply below_drew1) | exact HB.out)) hb); have n2_ := Aside0.mk (hbox); have n3_ := Aside0.mk ((by rw [hg]; exact (below_size (by repeat (first | (with_reducible first | exact HB.out | apply below_alloc | apply pw_below_drewN | apply below_drew1) | exact HB.out))) : w.heap.size ≤ gb232)); have n4_ := Aside0.mk ((by rw [hg]; exact (below_size (by repeat (first | (with_reducible first | exact HB.out | apply below_alloc | apply pw_below_drewN | apply below_drew1) | exact HB.out))) : w.heap.size ≤ gb232)); clear HO227; clear HB; have HO227 := n0_; have HB := n1_; have BK232 := n2_; have GW232 := n3_; have GE232 := n4_; clear n0_ n1_ n2_ n3_ n4_; clear hb hbox hg; have hcz11_0 : w10.cell? ⟨gb232, 0, none⟩ = some (.int .i64 0) := (blk_cell BK232.out 0).trans rfl; have hcz11_1 : w10.cell? ⟨gb232, 1, none⟩ = some (.int .i64 0) := (blk_cell BK232.out 1).trans rfl; have hcz11_2 : w10.cell? ⟨gb232, 2, none⟩ = some (.int .i64 0) := (blk_cell BK232.out 2).trans rfl; have hfz11_0 := blk_frozen BK232.out 0; have hfz11_1 := blk_frozen BK232.out 1; have hfz11_2 := blk_frozen BK232.out 2) | ((with_reducible refine gate_dst (N := 13) rfl ?_); refine Kd.V_conv 5 ?hg (N := 13) ?hd ([102, 40, 97, 40, 98, 41, 99, 41] : List Int) (cs := #[.int .u8 102, .int .u8 40, .int .u8 97, .int .u8 40, .int .u8 98, .int .u8 41, .int .u8 99, .int .u8 41]) ?hc ?hr (by simp) ?_; (case hd => rfl); (case hg => rfl); (case hc => rfl); (case hr => have kc_ := fun (w_ : World) (C_ : Array Value) (n_ c_ : Nat) => Lib.run_convert_bytes_const (P := Tryd.prog) w_ 22 5 C_ n_ c_ Tryd.underlying22 Tryd.underlying5; first | (go_simp; done) | (go_simp; rfl) | (have kd_ : ∀ (w_ : World) (C_ : Array Value) (n_ c_ s_ : Nat) (h_ : w_.heap.size = s_), (convert 22 22 (.slice (some ⟨s_, 0, none⟩) n_ c_)).run Tryd.prog (w_.alloc (.cells C_ 5)) = .ok (.slice (some ⟨s_, 0, none⟩) n_ c_) (w_.alloc (.cells C_ 5 (C_.size, C_.size + 1))) := fun w_ C_ n_ c_ s_ h_ => by subst h_; exact kc_ w_ C_ n_ c_); first | (go_simp; done) | (go_simp; rfl)); intro v234 w12 ho13 hb; (first | rw [← Ny233.out] at ho13 | (simp only [Int.reduceToNat] at ho13; rw [← Ny233.out] at ho13)); have n0_ := Aside0.mk (Kd.V_below (by (with_reducible repeat (first | apply Kd.V_alloc | apply Kd.V_drewN | apply Kd.V_drew)); exact (Kd.V_mono (Kd.V_far (p := ⟨gb232, 2, none⟩) (Kd.V_far (p := ⟨gb232, 1, none⟩) (Kd.V_far (p := ⟨gb232, 0, none⟩) (Kd.V_mono HO227.out (fun k_ hk => (⟨hk, hk.2⟩ : _ ∧ k_ ≠ gb232))) (fun _ hk => hk.2) (.int .i64 t228)) (fun _ hk => hk.2) (.int .i64 t229)) (fun _ hk => hk.2) (.int .i64 t230)) (fun _ h_ => h_.1))) hb); have n1_ := Aside0.mk (Kd.V_lower (Kd.V_mono (ok' := fun k_ => k_ ≠ gb232) ho13 (fun k_ hk_ => (Kd.freshB (g := gb232) (o := .cells #[.int .i64 t228, .int .i64 t229, .int .i64 t230] 29 (0, 0)) (by (with_reducible repeat (first | refine blk_drewN ?_ _ | refine blk_drew ?_ | refine blk_alloc ?_ _)); refine blk_put (cs := #[.int .i64 t228, .int .i64 t229, .int .i64 0]) ?_ 2 _ rfl; (with_reducible repeat (first | refine blk_drewN ?_ _ | refine blk_drew ?_ | refine blk_alloc ?_ _)); refine blk_put (cs := #[.int .i64 t228, .int .i64 0, .int .i64 0]) ?_ 1 _ rfl; (with_reducible repeat (first | refine blk_drewN ?_ _ | refine blk_drew ?_ | refine blk_alloc ?_ _)); refine blk_put (cs := #[.int .i64 0, .int .i64 0, .int .i64 0]) ?_ 0 _ rfl; (with_reducible repeat (first | refine blk_drewN ?_ _ | refine blk_drew ?_ | refine blk_alloc ?_ _)); exact BK232.out) k_ hk_))) (below_size (by repeat (first | (with_reducible first | exact HB.out | apply below_alloc | apply pw_below_drewN | apply below_drew1 | refine below_set ?_ GE232.out) | exact HB.out)))); have n2_ := Aside0.mk (blk_below (g := gb232) (o := .cells #[.int .i64 t228, .int .i64 t229, .int .i64 t230] 29 (0, 0)) (by (with_reducible repeat (first | refine blk_drewN ?_ _ | refine blk_drew ?_ | refine blk_alloc ?_ _)); refine blk_put (cs := #[.int .i64 t228, .int .i64 t229, .int .i64 0]) ?_ 2 _ rfl; (with_reducible repeat (first | refine blk_drewN ?_ _ | refine blk_drew ?_ | refine blk_alloc ?_ _)); refine blk_put (cs := #[.int .i64 t228, .int .i64 0, .int .i64 0]) ?_ 1 _ rfl; (with_reducible repeat (first | refine blk_drewN ?_ _ | refine blk_drew ?_ | refine blk_alloc ?_ _)); refine blk_put (cs := #[.int .i64 0, .int .i64 0, .int .i64 0]) ?_ 0 _ rfl; (with_reducible repeat (first | refine blk_drewN ?_ _ | refine blk_drew ?_ | refine blk_alloc ?_ _)); exact BK232.out) hb); have n3_ := Aside0.mk (below_step (by repeat (first | (with_reducible first | exact HB.out | apply below_alloc | apply pw_below_drewN | apply below_drew1 | refine below_set ?_ GE232.out) | exact HB.out)) hb); clear HO227; clear BK232; clear HB; have HO227 := n0_; have HO235 := n1_; have BK232 := n2_; have HB := n3_; clear n0_ n1_ n2_ n3_; clear hb ho13; obtain ⟨Ao14, co14, eo14⟩ := Kd.V_slice HO235.out; subst eo14) | ((with_reducible refine gate_callee (f := 10) rfl ?_); refine goesL_ (some 14) rfl rfl Tryd.func10 (by kernel_rfl) rfl #[.slice Ao14 y233.length co14, .int .i64 5, .int .i64 2, .string (⟨#[105, 40]⟩ : ByteArray)] rfl (by (try simp only [List.map_toArray, List.map_cons, List.map_nil]); first | done | rfl | (simp only [List.length_drop, List.length_take]; rfl)) ?_; (with_reducible refine (object_Select.calls k _ _ y233 5 2 (⟨#[105, 40]⟩ : ByteArray) t236 t237 t238 t239 _ ?side1 ?side2 A2.out).mono ?_); (case side1 => repeat (first | exact (Kd.V_reads' HO235.out).2.2 | (with_reducible refine Kd.C_alloc ?_ _) | (with_reducible refine Kd.C_drewN ?_ _) | (with_reducible refine Kd.C_drew ?_))); (case side2 => exact (Kd.V_reads' HO235.out).2.1); rintro e w15 ⟨rfl, hb⟩; refine ⟨_, rfl, ?_⟩; have n0_ := Aside0.mk (Kd.V_below (by (with_reducible repeat (first | apply Kd.V_alloc | apply Kd.V_drewN | apply Kd.V_drew)); exact HO227.out) hb); have n1_ := Aside0.mk (Kd.V_below (by (with_reducible repeat (first | apply Kd.V_alloc | apply Kd.V_drewN | apply Kd.V_drew)); exact HO235.out) hb); have n2_ := Aside0.mk (blk_below (g := gb232) (o := .cells #[.int .i64 t228, .int .i64 t229, .int .i64 t230] 29 (0, 0)) (by (with_reducible repeat (first | refine blk_drewN ?_ _ | refine blk_drew ?_ | refine blk_alloc ?_ _)); exact BK232.out) hb); have n3_ := Aside0.mk (below_step (by repeat (first | (with_reducible first | exact HB.out | apply below_alloc | apply pw_below_drewN | apply below_drew1 | refine below_set ?_ GE232.out) | exact HB.out)) hb); clear HO227; clear HO235; clear BK232; clear HB; have HO227 := n0_; have HO235 := n1_; have BK232 := n2_; have HB := n3_; clear n0_ n1_ n2_ n3_; (try clear hb); (try clear hb2); (try clear hk); (try clear hi)) | ((with_reducible refine gate_dst (N := 3) rfl ?_); refine box_event ?hg (N := 3) ?hd (cs := #[.int .i64 0, .int .i64 0, .int .i64 0]) (t := 29) ?hr ?_; (case hd => rfl); (case hg => rfl); (case hr => first | (go_simp; done) | (go_simp; rfl)); intro gb240 hg w16 hbox hb; have n0_ := Aside0.mk (Kd.V_below (Kd.V_elderB (by (with_reducible repeat (first | apply Kd.V_alloc | apply Kd.V_drewN | apply Kd.V_drew)); exact HO227.out) gb240 (Nat.le_of_eq hg.symm)) hb); have n1_ := Aside0.mk (Kd.V_below (Kd.V_elderB (by (with_reducible repeat (first | apply Kd.V_alloc | apply Kd.V_drewN | apply Kd.V_drew)); exact HO235.out) gb240 (Nat.le_of_eq hg.symm)) hb); have n2_ := Aside0.mk (blk_below (g := gb232) (o := .cells #[.int .i64 t228, .int .i64 t229, .int .i64 t230] 29 (0, 0)) (by (with_reducible repeat (first | refine blk_drewN ?_ _ | refine blk_drew ?_ | refine blk_alloc ?_ _)); exact BK232.out) hb); have n3_ := Aside0.mk (below_step (by repeat (first | (with_reducible first | exact HB.out | apply below_alloc | apply pw_below_drewN | apply below_drew1 | refine below_set ?_ GE232.out) | exact HB.out)) hb); have n4_ := Aside0.mk (hbox); have n5_ := Aside0.mk ((by rw [hg]; exact (below_size (by repeat (first | (with_reducible first | exact HB.out | apply below_alloc | apply pw_below_drewN | apply below_drew1 | refine below_set ?_ GE232.out) | exact HB.out))) : w.heap.size ≤ gb240)); have n6_ := Aside0.mk ((by rw [hg]; exact (below_size (by repeat (first | (with_reducible first | exact HB.out | apply below_alloc | apply pw_below_drewN | apply below_drew1 | refine below_set ?_ GE232.out) | exact HB.out))) : w.heap.size ≤ gb240)); have n7_ := Aside0.mk ((by rw [hg]; exact Nat.ne_of_lt (blk_lt (g := gb232) (o := .cells #[.int .i64 t228, .int .i64 t229, .int .i64 t230] 29 (0, 0)) (by (with_reducible repeat (first | refine blk_drewN ?_ _ | refine blk_drew ?_ | refine blk_alloc ?_ _)); exact BK232.out)) : gb232 ≠ gb240)); have n8_ := Aside0.mk ((by rw [hg]; exact Nat.ne_of_gt (blk_lt (g := gb232) (o := .cells #[.int .i64 t228, .int .i64 t229, .int .i64 t230] 29 (0, 0)) (by (with_reducible repeat (first | refine blk_drewN ?_ _ | refine blk_drew ?_ | refine blk_alloc ?_ _)); exact BK232.out)) : gb240 ≠ gb232)); clear HO227; clear HO235; clear BK232; clear HB; have HO227 := n0_; have HO235 := n1_; have BK232 := n2_; have HB := n3_; have BK240 := n4_; have GW240 := n5_; have GE240 := n6_; have NB232_240 := n7_; have NB240_232 := n8_; clear n0_ n1_ n2_ n3_ n4_ n5_ n6_ n7_ n8_; clear hb hbox hg; have hnb17 := NB240_232.out; have hnc17 := NB232_240.out; have hcz18_0 : w16.cell? ⟨gb240, 0, none⟩ = some (.int .i64 0) := (blk_cell BK240.out 0).trans rfl; have hcz18_1 : w16.cell? ⟨gb240, 1, none⟩ = some (.int .i64 0) := (blk_cell BK240.out 1).trans rfl; have hcz18_2 : w16.cell? ⟨gb240, 2, none⟩ = some (.int .i64 0) := (blk_cell BK240.out 2).trans rfl; have hfz18_0 := blk_frozen BK240.out 0; have hfz18_1 := blk_frozen BK240.out 1; have hfz18_2 := blk_frozen BK240.out 2; have hcz19_0 : w16.cell? ⟨gb232, 0, none⟩ = some (.int .i64 t228) := (blk_cell BK232.out 0).trans rfl; have hcz19_1 : w16.cell? ⟨gb232, 1, none⟩ = some (.int .i64 t229) := (blk_cell BK232.out 1).trans rfl; have hcz19_2 : w16.cell? ⟨gb232, 2, none⟩ = some (.int .i64 t230) := (blk_cell BK232.out 2).trans rfl; have hfz19_0 := blk_frozen BK232.out 0; have hfz19_1 := blk_frozen BK232.out 1; have hfz19_2 := blk_frozen BK232.out 2))
        go_ret
        exact ⟨by first | rfl | (simp [errW_none, errW_some] <;> rfl) | (simp [*, errW_none, errW_some] <;> rfl), by repeat (first | (with_reducible first | exact HB.out | apply below_alloc | apply pw_below_drewN | apply below_drew1 | refine below_set ?_ GE232.out | refine below_set ?_ GE240.out) | exact HB.out)⟩
      · rw [if_neg c5] at H
        have c5b0 : (t228 == 3 && (t229 == 7 && (t230 == 1))) = false := by simpa using c5
        (try (have c5b1 : decide (t228 = 3 && (t229 == 7 && (t230 == 1))) = false := by simpa using c5))
        (try (have c5b2 : (t228 == 3 && (t229 == 7 && (t230 == 1))) = false := by simpa using c5))
        (try (have c5b3 : ¬ (t228 = 3 && (t229 == 7 && (t230 == 1))) := by simpa using c5))
        clear c5
        obtain rfl := Option.some.inj H
        go_enter Tryd.func7, Tryd.ntmps7
        go_wp2_with (first | ((with_reducible refine gate_dst (N := 7) rfl ?_); refine Kd.V_conv 5 ?hg (N := 7) ?hd ([102, 111, 111, 32, 98, 97, 114, 46, 98, 97, 122] : List Int) (cs := #[.int .u8 102, .int .u8 111, .int .u8 111, .int .u8 32, .int .u8 98, .int .u8 97, .int .u8 114, .int .u8 46, .int .u8 98, .int .u8 97, .int .u8 122]) ?hc ?hr (by simp) ?_; (case hd => rfl); (case hg => rfl); (case hc => rfl); (case hr => have kc_ := fun (w_ : World) (C_ : Array Value) (n_ c_ : Nat) => Lib.run_convert_bytes_const (P := Tryd.prog) w_ 22 5 C_ n_ c_ Tryd.underlying22 Tryd.underlying5; first | (go_simp; done) | (go_simp; rfl) | (have kd_ : ∀ (w_ : World) (C_ : Array Value) (n_ c_ s_ : Nat) (h_ : w_.heap.size = s_), (convert 22 22 (.slice (some ⟨s_, 0, none⟩) n_ c_)).run Tryd.prog (w_.alloc (.cells C_ 5)) = .ok (.slice (some ⟨s_, 0, none⟩) n_ c_) (w_.alloc (.cells C_ 5 (C_.size, C_.size + 1))) := fun w_ C_ n_ c_ s_ h_ => by subst h_; exact kc_ w_ C_ n_ c_); first | (go_simp; done) | (go_simp; rfl)); intro v226 w20 ho21 hb; (first | rw [← Ny225.out] at ho21 | (simp only [Int.reduceToNat] at ho21; rw [← Ny225.out] at ho21)); have n0_ := Aside0.mk (Kd.V_lower (Kd.V_mono (ok' := fun k_ => True) ho21 (fun k_ hk_ => trivial)) (below_size (by repeat (first | (with_reducible first | exact HB.out | apply below_alloc | apply pw_below_drewN | apply below_drew1) | exact HB.out)))); have n1_ := Aside0.mk (below_step (by repeat (first | (with_reducible first | exact HB.out | apply below_alloc | apply pw_below_drewN | apply below_drew1) | exact HB.out)) hb); clear HB; have HO227 := n0_; have HB := n1_; clear n0_ n1_; clear hb ho21; obtain ⟨Ao22, co22, eo22⟩ := Kd.V_slice HO227.out; subst eo22) | ((with_reducible refine gate_callee (f := 10) rfl ?_); refine goesL_ (some 8) rfl rfl Tryd.func10 (by kernel_rfl) rfl #[.slice Ao22 y225.length co22, .int .i64 5, .int .i64 1, .string (⟨#[97, 119]⟩ : ByteArray)] rfl (by (try simp only [List.map_toArray, List.map_cons, List.map_nil]); first | done | rfl | (simp only [List.length_drop, List.length_take]; rfl)) ?_; (with_reducible refine (object_Select.calls k _ _ y225 5 1 (⟨#[97, 119]⟩ : ByteArray) t228 t229 t230 t231 _ ?side1 ?side2 A1.out).mono ?_); (case side1 => repeat (first | exact (Kd.V_reads' HO227.out).2.2 | (with_reducible refine Kd.C_alloc ?_ _) | (with_reducible refine Kd.C_drewN ?_ _) | (with_reducible refine Kd.C_drew ?_))); (case side2 => exact (Kd.V_reads' HO227.out).2.1); rintro e w23 ⟨rfl, hb⟩; refine ⟨_, rfl, ?_⟩; have n0_ := Aside0.mk (Kd.V_below (by (with_reducible repeat (first | apply Kd.V_alloc | apply Kd.V_drewN | apply Kd.V_drew)); exact HO227.out) hb); have n1_ := Aside0.mk (below_step (by repeat (first | (with_reducible first | exact HB.out | apply below_alloc | apply pw_below_drewN | apply below_drew1) | exact HB.out)) hb); clear HO227; clear HB; have HO227 := n0_; have HB := n1_; clear n0_ n1_; (try clear hb); (try clear hb2); (try clear hk); (try clear hi)) | ((with_reducible refine gate_dst (N := 1) rfl ?_); refine box_event ?hg (N := 1) ?hd (cs := #[.int .i64 0, .int .i64 0, .int .i64 0]) (t := 29) ?hr ?_; (case hd => rfl); (case hg => rfl); (case hr => first | (go_simp; done) | (go_simp; rfl)); intro gb232 hg w24 hbox hb; have n0_ := Aside0.mk (Kd.V_below (Kd.V_elderB (by (with_reducible repeat (first | apply Kd.V_alloc | apply Kd.V_drewN | apply Kd.V_drew)); exact HO227.out) gb232 (Nat.le_of_eq hg.symm)) hb); have n1_ := Aside0.mk (below_step (by repeat (first | (with_reducible first | exact HB.out | apply below_alloc | apply pw_below_drewN | apply below_drew1) | exact HB.out)) hb); have n2_ := Aside0.mk (hbox); have n3_ := Aside0.mk ((by rw [hg]; exact (below_size (by repeat (first | (with_reducible first | exact HB.out | apply below_alloc | apply pw_below_drewN | apply below_drew1) | exact HB.out))) : w.heap.size ≤ gb232)); have n4_ := Aside0.mk ((by rw [hg]; exact (below_size (by repeat (first | (with_reducible first | exact HB.out | apply below_alloc | apply pw_below_drewN | apply below_drew1) | exact HB.out))) : w.heap.size ≤ gb232)); clear HO227; clear HB; have HO227 := n0_; have HB := n1_; have BK232 := n2_; have GW232 := n3_; have GE232 := n4_; clear n0_ n1_ n2_ n3_ n4_; clear hb hbox hg; have hcz25_0 : w24.cell? ⟨gb232, 0, none⟩ = some (.int .i64 0) := (blk_cell BK232.out 0).trans rfl; have hcz25_1 : w24.cell? ⟨gb232, 1, none⟩ = some (.int .i64 0) := (blk_cell BK232.out 1).trans rfl; have hcz25_2 : w24.cell? ⟨gb232, 2, none⟩ = some (.int .i64 0) := (blk_cell BK232.out 2).trans rfl; have hfz25_0 := blk_frozen BK232.out 0; have hfz25_1 := blk_frozen BK232.out 1; have hfz25_2 := blk_frozen BK232.out 2) | ((with_reducible refine gate_dst (N := 13) rfl ?_); refine Kd.V_conv 5 ?hg (N := 13) ?hd ([102, 40, 97, 40, 98, 41, 99, 41] : List Int) (cs := #[.int .u8 102, .int .u8 40, .int .u8 97, .int .u8 40, .int .u8 98, .int .u8 41, .int .u8 99, .int .u8 41]) ?hc ?hr (by simp) ?_; (case hd => rfl); (case hg => rfl); (case hc => rfl); (case hr => have kc_ := fun (w_ : World) (C_ : Array Value) (n_ c_ : Nat) => Lib.run_convert_bytes_const (P := Tryd.prog) w_ 22 5 C_ n_ c_ Tryd.underlying22 Tryd.underlying5; first | (go_simp; done) | (go_simp; rfl) | (have kd_ : ∀ (w_ : World) (C_ : Array Value) (n_ c_ s_ : Nat) (h_ : w_.heap.size = s_), (convert 22 22 (.slice (some ⟨s_, 0, none⟩) n_ c_)).run Tryd.prog (w_.alloc (.cells C_ 5)) = .ok (.slice (some ⟨s_, 0, none⟩) n_ c_) (w_.alloc (.cells C_ 5 (C_.size, C_.size + 1))) := fun w_ C_ n_ c_ s_ h_ => by subst h_; exact kc_ w_ C_ n_ c_); first | (go_simp; done) | (go_simp; rfl)); intro v234 w26 ho27 hb; (first | rw [← Ny233.out] at ho27 | (simp only [Int.reduceToNat] at ho27; rw [← Ny233.out] at ho27)); have n0_ := Aside0.mk (Kd.V_below (by (with_reducible repeat (first | apply Kd.V_alloc | apply Kd.V_drewN | apply Kd.V_drew)); exact (Kd.V_mono (Kd.V_far (p := ⟨gb232, 2, none⟩) (Kd.V_far (p := ⟨gb232, 1, none⟩) (Kd.V_far (p := ⟨gb232, 0, none⟩) (Kd.V_mono HO227.out (fun k_ hk => (⟨hk, hk.2⟩ : _ ∧ k_ ≠ gb232))) (fun _ hk => hk.2) (.int .i64 t228)) (fun _ hk => hk.2) (.int .i64 t229)) (fun _ hk => hk.2) (.int .i64 t230)) (fun _ h_ => h_.1))) hb); have n1_ := Aside0.mk (Kd.V_lower (Kd.V_mono (ok' := fun k_ => k_ ≠ gb232) ho27 (fun k_ hk_ => (Kd.freshB (g := gb232) (o := .cells #[.int .i64 t228, .int .i64 t229, .int .i64 t230] 29 (0, 0)) (by (with_reducible repeat (first | refine blk_drewN ?_ _ | refine blk_drew ?_ | refine blk_alloc ?_ _)); refine blk_put (cs := #[.int .i64 t228, .int .i64 t229, .int .i64 0]) ?_ 2 _ rfl; (with_reducible repeat (first | refine blk_drewN ?_ _ | refine blk_drew ?_ | refine blk_alloc ?_ _)); refine blk_put (cs := #[.int .i64 t228, .int .i64 0, .int .i64 0]) ?_ 1 _ rfl; (with_reducible repeat (first | refine blk_drewN ?_ _ | refine blk_drew ?_ | refine blk_alloc ?_ _)); refine blk_put (cs := #[.int .i64 0, .int .i64 0, .int .i64 0]) ?_ 0 _ rfl; (with_reducible repeat (first | refine blk_drewN ?_ _ | refine blk_drew ?_ | refine blk_alloc ?_ _)); exact BK232.out) k_ hk_))) (below_size (by repeat (first | (with_reducible first | exact HB.out | apply below_alloc | apply pw_below_drewN | apply below_drew1 | refine below_set ?_ GE232.out) | exact HB.out)))); have n2_ := Aside0.mk (blk_below (g := gb232) (o := .cells #[.int .i64 t228, .int .i64 t229, .int .i64 t230] 29 (0, 0)) (by (with_reducible repeat (first | refine blk_drewN ?_ _ | refine blk_drew ?_ | refine blk_alloc ?_ _)); refine blk_put (cs := #[.int .i64 t228, .int .i64 t229, .int .i64 0]) ?_ 2 _ rfl; (with_reducible repeat (first | refine blk_drewN ?_ _ | refine blk_drew ?_ | refine blk_alloc ?_ _)); refine blk_put (cs := #[.int .i64 t228, .int .i64 0, .int .i64 0]) ?_ 1 _ rfl; (with_reducible repeat (first | refine blk_drewN ?_ _ | refine blk_drew ?_ | refine blk_alloc ?_ _)); refine blk_put (cs := #[.int .i64 0, .int .i64 0, .int .i64 0]) ?_ 0 _ rfl; (with_reducible repeat (first | refine blk_drewN ?_ _ | refine blk_drew ?_ | refine blk_alloc ?_ _)); exact BK232.out) hb); have n3_ := Aside0.mk (below_step (by repeat (first | (with_reducible first | exact HB.out | apply below_alloc | apply pw_below_drewN | apply below_drew1 | refine below_set ?_ GE232.out) | exact HB.out)) hb); clear HO227; clear BK232; clear HB; have HO227 := n0_; have HO235 := n1_; have BK232 := n2_; have HB := n3_; clear n0_ n1_ n2_ n3_; clear hb ho27; obtain ⟨Ao28, co28, eo28⟩ := Kd.V_slice HO235.out; subst eo28) | ((with_reducible refine gate_callee (f := 10) rfl ?_); refine goesL_ (some 14) rfl rfl Tryd.func10 (by kernel_rfl) rfl #[.slice Ao28 y233.length co28, .int .i64 5, .int .i64 2, .string (⟨#[105, 40]⟩ : ByteArray)] rfl (by (try simp only [List.map_toArray, List.map_cons, List.map_nil]); first | done | rfl | (simp only [List.length_drop, List.length_take]; rfl)) ?_; (with_reducible refine (object_Select.calls k _ _ y233 5 2 (⟨#[105, 40]⟩ : ByteArray) t236 t237 t238 t239 _ ?side1 ?side2 A2.out).mono ?_); (case side1 => repeat (first | exact (Kd.V_reads' HO235.out).2.2 | (with_reducible refine Kd.C_alloc ?_ _) | (with_reducible refine Kd.C_drewN ?_ _) | (with_reducible refine Kd.C_drew ?_))); (case side2 => exact (Kd.V_reads' HO235.out).2.1); rintro e w29 ⟨rfl, hb⟩; refine ⟨_, rfl, ?_⟩; have n0_ := Aside0.mk (Kd.V_below (by (with_reducible repeat (first | apply Kd.V_alloc | apply Kd.V_drewN | apply Kd.V_drew)); exact HO227.out) hb); have n1_ := Aside0.mk (Kd.V_below (by (with_reducible repeat (first | apply Kd.V_alloc | apply Kd.V_drewN | apply Kd.V_drew)); exact HO235.out) hb); have n2_ := Aside0.mk (blk_below (g := gb232) (o := .cells #[.int .i64 t228, .int .i64 t229, .int .i64 t230] 29 (0, 0)) (by (with_reducible repeat (first | refine blk_drewN ?_ _ | refine blk_drew ?_ | refine blk_alloc ?_ _)); exact BK232.out) hb); have n3_ := Aside0.mk (below_step (by repeat (first | (with_reducible first | exact HB.out | apply below_alloc | apply pw_below_drewN | apply below_drew1 | refine below_set ?_ GE232.out) | exact HB.out)) hb); clear HO227; clear HO235; clear BK232; clear HB; have HO227 := n0_; have HO235 := n1_; have BK232 := n2_; have HB := n3_; clear n0_ n1_ n2_ n3_; (try clear hb); (try clear hb2); (try clear hk); (try clear hi)) | ((with_reducible refine gate_dst (N := 3) rfl ?_); refine box_event ?hg (N := 3) ?hd (cs := #[.int .i64 0, .int .i64 0, .int .i64 0]) (t := 29) ?hr ?_; (case hd => rfl); (case hg => rfl); (case hr => first | (go_simp; done) | (go_simp; rfl)); intro gb240 hg w30 hbox hb; have n0_ := Aside0.mk (Kd.V_below (Kd.V_elderB (by (with_reducible repeat (first | apply Kd.V_alloc | apply Kd.V_drewN | apply Kd.V_drew)); exact HO227.out) gb240 (Nat.le_of_eq hg.symm)) hb); have n1_ := Aside0.mk (Kd.V_below (Kd.V_elderB (by (with_reducible repeat (first | apply Kd.V_alloc | apply Kd.V_drewN | apply Kd.V_drew)); exact HO235.out) gb240 (Nat.le_of_eq hg.symm)) hb); have n2_ := Aside0.mk (blk_below (g := gb232) (o := .cells #[.int .i64 t228, .int .i64 t229, .int .i64 t230] 29 (0, 0)) (by (with_reducible repeat (first | refine blk_drewN ?_ _ | refine blk_drew ?_ | refine blk_alloc ?_ _)); exact BK232.out) hb); have n3_ := Aside0.mk (below_step (by repeat (first | (with_reducible first | exact HB.out | apply below_alloc | apply pw_below_drewN | apply below_drew1 | refine below_set ?_ GE232.out) | exact HB.out)) hb); have n4_ := Aside0.mk (hbox); have n5_ := Aside0.mk ((by rw [hg]; exact (below_size (by repeat (first | (with_reducible first | exact HB.out | apply below_alloc | apply pw_below_drewN | apply below_drew1 | refine below_set ?_ GE232.out) | exact HB.out))) : w.heap.size ≤ gb240)); have n6_ := Aside0.mk ((by rw [hg]; exact (below_size (by repeat (first | (with_reducible first | exact HB.out | apply below_alloc | apply pw_below_drewN | apply below_drew1 | refine below_set ?_ GE232.out) | exact HB.out))) : w.heap.size ≤ gb240)); have n7_ := Aside0.mk ((by rw [hg]; exact Nat.ne_of_lt (blk_lt (g := gb232) (o := .cells #[.int .i64 t228, .int .i64 t229, .int .i64 t230] 29 (0, 0)) (by (with_reducible repeat (first | refine blk_drewN ?_ _ | refine blk_drew ?_ | refine blk_alloc ?_ _)); exact BK232.out)) : gb232 ≠ gb240)); have n8_ := Aside0.mk ((by rw [hg]; exact Nat.ne_of_gt (blk_lt (g := gb232) (o := .cells #[.int .i64 t228, .int .i64 t229, .int .i64 t230] 29 (0, 0)) (by (with_reducible repeat (first | refine blk_drewN ?_ _ | refine blk_drew ?_ | refine blk_alloc ?_ _)); exact BK232.out)) : gb240 ≠ gb232)); clear HO227; clear HO235; clear BK232; clear HB; have HO227 := n0_; have HO235 := n1_; have BK232 := n2_; have HB := n3_; have BK240 := n4_; have GW240 := n5_; have GE240 := n6_; have NB232_240 := n7_; have NB240_232 := n8_; clear n0_ n1_ n2_ n3_ n4_ n5_ n6_ n7_ n8_; clear hb hbox hg; have hnb31 := NB240_232.out; have hnc31 := NB232_240.out; have hcz32_0 : w30.cell? ⟨gb240, 0, none⟩ = some (.int .i64 0) := (blk_cell BK240.out 0).trans rfl; have hcz32_1 : w30.cell? ⟨gb240, 1, none⟩ = some (.int .i64 0) := (blk_cell BK240.out 1).trans rfl; have hcz32_2 : w30.cell? ⟨gb240, 2, none⟩ = some (.int .i64 0) := (blk_cell BK240.out 2).trans rfl; have hfz32_0 := blk_frozen BK240.out 0; have hfz32_1 := blk_frozen BK240.out 1; have hfz32_2 := blk_frozen BK240.out 2; have hcz33_0 : w30.cell? ⟨gb232, 0, none⟩ = some (.int .i64 t228) := (blk_cell BK232.out 0).trans rfl; have hcz33_1 : w30.cell? ⟨gb232, 1, none⟩ = some (.int .i64 t229) := (blk_cell BK232.out 1).trans rfl; have hcz33_2 : w30.cell? ⟨gb232, 2, none⟩ = some (.int .i64 t230) := (blk_cell BK232.out 2).trans rfl; have hfz33_0 := blk_frozen BK232.out 0; have hfz33_1 := blk_frozen BK232.out 1; have hfz33_2 := blk_frozen BK232.out 2))
        go_ret
        exact ⟨by first | rfl | (simp [errW_none, errW_some] <;> rfl) | (simp [*, errW_none, errW_some] <;> rfl), by repeat (first | (with_reducible first | exact HB.out | apply below_alloc | apply pw_below_drewN | apply below_drew1 | refine below_set ?_ GE232.out | refine below_set ?_ GE240.out) | exact HB.out)⟩
    · rw [if_neg c4] at H
      have c4b0 : (t239 == 0) = false := beq_eq_false_iff_ne.mpr c4
      have c4b1 : (t239 != 0) = true := bne_iff_ne.mpr c4
      obtain rfl := Option.some.inj H
      go_enter Tryd.func7, Tryd.ntmps7
      go_wp2_with (first | ((with_reducible refine gate_dst (N := 7) rfl ?_); refine Kd.V_conv 5 ?hg (N := 7) ?hd ([102, 111, 111, 32, 98, 97, 114, 46, 98, 97, 122] : List Int) (cs := #[.int .u8 102, .int .u8 111, .int .u8 111, .int .u8 32, .int .u8 98, .int .u8 97, .int .u8 114, .int .u8 46, .int .u8 98, .int .u8 97, .int .u8 122]) ?hc ?hr (by simp) ?_; (case hd => rfl); (case hg => rfl); (case hc => rfl); (case hr => have kc_ := fun (w_ : World) (C_ : Array Value) (n_ c_ : Nat) => Lib.run_convert_bytes_const (P := Tryd.prog) w_ 22 5 C_ n_ c_ Tryd.underlying22 Tryd.underlying5; first | (go_simp; done) | (go_simp; rfl) | (have kd_ : ∀ (w_ : World) (C_ : Array Value) (n_ c_ s_ : Nat) (h_ : w_.heap.size = s_), (convert 22 22 (.slice (some ⟨s_, 0, none⟩) n_ c_)).run Tryd.prog (w_.alloc (.cells C_ 5)) = .ok (.slice (some ⟨s_, 0, none⟩) n_ c_) (w_.alloc (.cells C_ 5 (C_.size, C_.size + 1))) := fun w_ C_ n_ c_ s_ h_ => by subst h_; exact kc_ w_ C_ n_ c_); first | (go_simp; done) | (go_simp; rfl)); intro v226 w34 ho35 hb; (first | rw [← Ny225.out] at ho35 | (simp only [Int.reduceToNat] at ho35; rw [← Ny225.out] at ho35)); have n0_ := Aside0.mk (Kd.V_lower (Kd.V_mono (ok' := fun k_ => True) ho35 (fun k_ hk_ => trivial)) (below_size (by repeat (first | (with_reducible first | exact HB.out | apply below_alloc | apply pw_below_drewN | apply below_drew1) | exact HB.out)))); have n1_ := Aside0.mk (below_step (by repeat (first | (with_reducible first | exact HB.out | apply below_alloc | apply pw_below_drewN | apply below_drew1) | exact HB.out)) hb); clear HB; have HO227 := n0_; have HB := n1_; clear n0_ n1_; clear hb ho35; obtain ⟨Ao36, co36, eo36⟩ := Kd.V_slice HO227.out; subst eo36) | ((with_reducible refine gate_callee (f := 10) rfl ?_); refine goesL_ (some 8) rfl rfl Tryd.func10 (by kernel_rfl) rfl #[.slice Ao36 y225.length co36, .int .i64 5, .int .i64 1, .string (⟨#[97, 119]⟩ : ByteArray)] rfl (by (try simp only [List.map_toArray, List.map_cons, List.map_nil]); first | done | rfl | (simp only [List.length_drop, List.length_take]; rfl)) ?_; (with_reducible refine (object_Select.calls k _ _ y225 5 1 (⟨#[97, 119]⟩ : ByteArray) t228 t229 t230 t231 _ ?side1 ?side2 A1.out).mono ?_); (case side1 => repeat (first | exact (Kd.V_reads' HO227.out).2.2 | (with_reducible refine Kd.C_alloc ?_ _) | (with_reducible refine Kd.C_drewN ?_ _) | (with_reducible refine Kd.C_drew ?_))); (case side2 => exact (Kd.V_reads' HO227.out).2.1); rintro e w37 ⟨rfl, hb⟩; refine ⟨_, rfl, ?_⟩; have n0_ := Aside0.mk (Kd.V_below (by (with_reducible repeat (first | apply Kd.V_alloc | apply Kd.V_drewN | apply Kd.V_drew)); exact HO227.out) hb); have n1_ := Aside0.mk (below_step (by repeat (first | (with_reducible first | exact HB.out | apply below_alloc | apply pw_below_drewN | apply below_drew1) | exact HB.out)) hb); clear HO227; clear HB; have HO227 := n0_; have HB := n1_; clear n0_ n1_; (try clear hb); (try clear hb2); (try clear hk); (try clear hi)) | ((with_reducible refine gate_dst (N := 1) rfl ?_); refine box_event ?hg (N := 1) ?hd (cs := #[.int .i64 0, .int .i64 0, .int .i64 0]) (t := 29) ?hr ?_; (case hd => rfl); (case hg => rfl); (case hr => first | (go_simp; done) | (go_simp; rfl)); intro gb232 hg w38 hbox hb; have n0_ := Aside0.mk (Kd.V_below (Kd.V_elderB (by (with_reducible repeat (first | apply Kd.V_alloc | apply Kd.V_drewN | apply Kd.V_drew)); exact HO227.out) gb232 (Nat.le_of_eq hg.symm)) hb); have n1_ := Aside0.mk (below_step (by repeat (first | (with_reducible first | exact HB.out | apply below_alloc | apply pw_below_drewN | apply below_drew1) | exact HB.out)) hb); have n2_ := Aside0.mk (hbox); have n3_ := Aside0.mk ((by rw [hg]; exact (below_size (by repeat (first | (with_reducible first | exact HB.out | apply below_alloc | apply pw_below_drewN | apply below_drew1) | exact HB.out))) : w.heap.size ≤ gb232)); have n4_ := Aside0.mk ((by rw [hg]; exact (below_size (by repeat (first | (with_reducible first | exact HB.out | apply below_alloc | apply pw_below_drewN | apply below_drew1) | exact HB.out))) : w.heap.size ≤ gb232)); clear HO227; clear HB; have HO227 := n0_; have HB := n1_; have BK232 := n2_; have GW232 := n3_; have GE232 := n4_; clear n0_ n1_ n2_ n3_ n4_; clear hb hbox hg; have hcz39_0 : w38.cell? ⟨gb232, 0, none⟩ = some (.int .i64 0) := (blk_cell BK232.out 0).trans rfl; have hcz39_1 : w38.cell? ⟨gb232, 1, none⟩ = some (.int .i64 0) := (blk_cell BK232.out 1).trans rfl; have hcz39_2 : w38.cell? ⟨gb232, 2, none⟩ = some (.int .i64 0) := (blk_cell BK232.out 2).trans rfl; have hfz39_0 := blk_frozen BK232.out 0; have hfz39_1 := blk_frozen BK232.out 1; have hfz39_2 := blk_frozen BK232.out 2) | ((with_reducible refine gate_dst (N := 13) rfl ?_); refine Kd.V_conv 5 ?hg (N := 13) ?hd ([102, 40, 97, 40, 98, 41, 99, 41] : List Int) (cs := #[.int .u8 102, .int .u8 40, .int .u8 97, .int .u8 40, .int .u8 98, .int .u8 41, .int .u8 99, .int .u8 41]) ?hc ?hr (by simp) ?_; (case hd => rfl); (case hg => rfl); (case hc => rfl); (case hr => have kc_ := fun (w_ : World) (C_ : Array Value) (n_ c_ : Nat) => Lib.run_convert_bytes_const (P := Tryd.prog) w_ 22 5 C_ n_ c_ Tryd.underlying22 Tryd.underlying5; first | (go_simp; done) | (go_simp; rfl) | (have kd_ : ∀ (w_ : World) (C_ : Array Value) (n_ c_ s_ : Nat) (h_ : w_.heap.size = s_), (convert 22 22 (.slice (some ⟨s_, 0, none⟩) n_ c_)).run Tryd.prog (w_.alloc (.cells C_ 5)) = .ok (.slice (some ⟨s_, 0, none⟩) n_ c_) (w_.alloc (.cells C_ 5 (C_.size, C_.size + 1))) := fun w_ C_ n_ c_ s_ h_ => by subst h_; exact kc_ w_ C_ n_ c_); first | (go_simp; done) | (go_simp; rfl)); intro v234 w40 ho41 hb; (first | rw [← Ny233.out] at ho41 | (simp only [Int.reduceToNat] at ho41; rw [← Ny233.out] at ho41)); have n0_ := Aside0.mk (Kd.V_below (by (with_reducible repeat (first | apply Kd.V_alloc | apply Kd.V_drewN | apply Kd.V_drew)); exact (Kd.V_mono (Kd.V_far (p := ⟨gb232, 2, none⟩) (Kd.V_far (p := ⟨gb232, 1, none⟩) (Kd.V_far (p := ⟨gb232, 0, none⟩) (Kd.V_mono HO227.out (fun k_ hk => (⟨hk, hk.2⟩ : _ ∧ k_ ≠ gb232))) (fun _ hk => hk.2) (.int .i64 t228)) (fun _ hk => hk.2) (.int .i64 t229)) (fun _ hk => hk.2) (.int .i64 t230)) (fun _ h_ => h_.1))) hb); have n1_ := Aside0.mk (Kd.V_lower (Kd.V_mono (ok' := fun k_ => k_ ≠ gb232) ho41 (fun k_ hk_ => (Kd.freshB (g := gb232) (o := .cells #[.int .i64 t228, .int .i64 t229, .int .i64 t230] 29 (0, 0)) (by (with_reducible repeat (first | refine blk_drewN ?_ _ | refine blk_drew ?_ | refine blk_alloc ?_ _)); refine blk_put (cs := #[.int .i64 t228, .int .i64 t229, .int .i64 0]) ?_ 2 _ rfl; (with_reducible repeat (first | refine blk_drewN ?_ _ | refine blk_drew ?_ | refine blk_alloc ?_ _)); refine blk_put (cs := #[.int .i64 t228, .int .i64 0, .int .i64 0]) ?_ 1 _ rfl; (with_reducible repeat (first | refine blk_drewN ?_ _ | refine blk_drew ?_ | refine blk_alloc ?_ _)); refine blk_put (cs := #[.int .i64 0, .int .i64 0, .int .i64 0]) ?_ 0 _ rfl; (with_reducible repeat (first | refine blk_drewN ?_ _ | refine blk_drew ?_ | refine blk_alloc ?_ _)); exact BK232.out) k_ hk_))) (below_size (by repeat (first | (with_reducible first | exact HB.out | apply below_alloc | apply pw_below_drewN | apply below_drew1 | refine below_set ?_ GE232.out) | exact HB.out)))); have n2_ := Aside0.mk (blk_below (g := gb232) (o := .cells #[.int .i64 t228, .int .i64 t229, .int .i64 t230] 29 (0, 0)) (by (with_reducible repeat (first | refine blk_drewN ?_ _ | refine blk_drew ?_ | refine blk_alloc ?_ _)); refine blk_put (cs := #[.int .i64 t228, .int .i64 t229, .int .i64 0]) ?_ 2 _ rfl; (with_reducible repeat (first | refine blk_drewN ?_ _ | refine blk_drew ?_ | refine blk_alloc ?_ _)); refine blk_put (cs := #[.int .i64 t228, .int .i64 0, .int .i64 0]) ?_ 1 _ rfl; (with_reducible repeat (first | refine blk_drewN ?_ _ | refine blk_drew ?_ | refine blk_alloc ?_ _)); refine blk_put (cs := #[.int .i64 0, .int .i64 0, .int .i64 0]) ?_ 0 _ rfl; (with_reducible repeat (first | refine blk_drewN ?_ _ | refine blk_drew ?_ | refine blk_alloc ?_ _)); exact BK232.out) hb); have n3_ := Aside0.mk (below_step (by repeat (first | (with_reducible first | exact HB.out | apply below_alloc | apply pw_below_drewN | apply below_drew1 | refine below_set ?_ GE232.out) | exact HB.out)) hb); clear HO227; clear BK232; clear HB; have HO227 := n0_; have HO235 := n1_; have BK232 := n2_; have HB := n3_; clear n0_ n1_ n2_ n3_; clear hb ho41; obtain ⟨Ao42, co42, eo42⟩ := Kd.V_slice HO235.out; subst eo42) | ((with_reducible refine gate_callee (f := 10) rfl ?_); refine goesL_ (some 14) rfl rfl Tryd.func10 (by kernel_rfl) rfl #[.slice Ao42 y233.length co42, .int .i64 5, .int .i64 2, .string (⟨#[105, 40]⟩ : ByteArray)] rfl (by (try simp only [List.map_toArray, List.map_cons, List.map_nil]); first | done | rfl | (simp only [List.length_drop, List.length_take]; rfl)) ?_; (with_reducible refine (object_Select.calls k _ _ y233 5 2 (⟨#[105, 40]⟩ : ByteArray) t236 t237 t238 t239 _ ?side1 ?side2 A2.out).mono ?_); (case side1 => repeat (first | exact (Kd.V_reads' HO235.out).2.2 | (with_reducible refine Kd.C_alloc ?_ _) | (with_reducible refine Kd.C_drewN ?_ _) | (with_reducible refine Kd.C_drew ?_))); (case side2 => exact (Kd.V_reads' HO235.out).2.1); rintro e w43 ⟨rfl, hb⟩; refine ⟨_, rfl, ?_⟩; have n0_ := Aside0.mk (Kd.V_below (by (with_reducible repeat (first | apply Kd.V_alloc | apply Kd.V_drewN | apply Kd.V_drew)); exact HO227.out) hb); have n1_ := Aside0.mk (Kd.V_below (by (with_reducible repeat (first | apply Kd.V_alloc | apply Kd.V_drewN | apply Kd.V_drew)); exact HO235.out) hb); have n2_ := Aside0.mk (blk_below (g := gb232) (o := .cells #[.int .i64 t228, .int .i64 t229, .int .i64 t230] 29 (0, 0)) (by (with_reducible repeat (first | refine blk_drewN ?_ _ | refine blk_drew ?_ | refine blk_alloc ?_ _)); exact BK232.out) hb); have n3_ := Aside0.mk (below_step (by repeat (first | (with_reducible first | exact HB.out | apply below_alloc | apply pw_below_drewN | apply below_drew1 | refine below_set ?_ GE232.out) | exact HB.out)) hb); clear HO227; clear HO235; clear BK232; clear HB; have HO227 := n0_; have HO235 := n1_; have BK232 := n2_; have HB := n3_; clear n0_ n1_ n2_ n3_; (try clear hb); (try clear hb2); (try clear hk); (try clear hi)) | ((with_reducible refine gate_dst (N := 3) rfl ?_); refine box_event ?hg (N := 3) ?hd (cs := #[.int .i64 0, .int .i64 0, .int .i64 0]) (t := 29) ?hr ?_; (case hd => rfl); (case hg => rfl); (case hr => first | (go_simp; done) | (go_simp; rfl)); intro gb240 hg w44 hbox hb; have n0_ := Aside0.mk (Kd.V_below (Kd.V_elderB (by (with_reducible repeat (first | apply Kd.V_alloc | apply Kd.V_drewN | apply Kd.V_drew)); exact HO227.out) gb240 (Nat.le_of_eq hg.symm)) hb); have n1_ := Aside0.mk (Kd.V_below (Kd.V_elderB (by (with_reducible repeat (first | apply Kd.V_alloc | apply Kd.V_drewN | apply Kd.V_drew)); exact HO235.out) gb240 (Nat.le_of_eq hg.symm)) hb); have n2_ := Aside0.mk (blk_below (g := gb232) (o := .cells #[.int .i64 t228, .int .i64 t229, .int .i64 t230] 29 (0, 0)) (by (with_reducible repeat (first | refine blk_drewN ?_ _ | refine blk_drew ?_ | refine blk_alloc ?_ _)); exact BK232.out) hb); have n3_ := Aside0.mk (below_step (by repeat (first | (with_reducible first | exact HB.out | apply below_alloc | apply pw_below_drewN | apply below_drew1 | refine below_set ?_ GE232.out) | exact HB.out)) hb); have n4_ := Aside0.mk (hbox); have n5_ := Aside0.mk ((by rw [hg]; exact (below_size (by repeat (first | (with_reducible first | exact HB.out | apply below_alloc | apply pw_below_drewN | apply below_drew1 | refine below_set ?_ GE232.out) | exact HB.out))) : w.heap.size ≤ gb240)); have n6_ := Aside0.mk ((by rw [hg]; exact (below_size (by repeat (first | (with_reducible first | exact HB.out | apply below_alloc | apply pw_below_drewN | apply below_drew1 | refine below_set ?_ GE232.out) | exact HB.out))) : w.heap.size ≤ gb240)); have n7_ := Aside0.mk ((by rw [hg]; exact Nat.ne_of_lt (blk_lt (g := gb232) (o := .cells #[.int .i64 t228, .int .i64 t229, .int .i64 t230] 29 (0, 0)) (by (with_reducible repeat (first | refine blk_drewN ?_ _ | refine blk_drew ?_ | refine blk_alloc ?_ _)); exact BK232.out)) : gb232 ≠ gb240)); have n8_ := Aside0.mk ((by rw [hg]; exact Nat.ne_of_gt (blk_lt (g := gb232) (o := .cells #[.int .i64 t228, .int .i64 t229, .int .i64 t230] 29 (0, 0)) (by (with_reducible repeat (first | refine blk_drewN ?_ _ | refine blk_drew ?_ | refine blk_alloc ?_ _)); exact BK232.out)) : gb240 ≠ gb232)); clear HO227; clear HO235; clear BK232; clear HB; have HO227 := n0_; have HO235 := n1_; have BK232 := n2_; have HB := n3_; have BK240 := n4_; have GW240 := n5_; have GE240 := n6_; have NB232_240 := n7_; have NB240_232 := n8_; clear n0_ n1_ n2_ n3_ n4_ n5_ n6_ n7_ n8_; clear hb hbox hg; have hnb45 := NB240_232.out; have hnc45 := NB232_240.out; have hcz46_0 : w44.cell? ⟨gb240, 0, none⟩ = some (.int .i64 0) := (blk_cell BK240.out 0).trans rfl; have hcz46_1 : w44.cell? ⟨gb240, 1, none⟩ = some (.int .i64 0) := (blk_cell BK240.out 1).trans rfl; have hcz46_2 : w44.cell? ⟨gb240, 2, none⟩ = some (.int .i64 0) := (blk_cell BK240.out 2).trans rfl; have hfz46_0 := blk_frozen BK240.out 0; have hfz46_1 := blk_frozen BK240.out 1; have hfz46_2 := blk_frozen BK240.out 2))
      go_ret
      exact ⟨by first | rfl | (simp [errW_none, errW_some] <;> rfl) | (simp [*, errW_none, errW_some] <;> rfl), by repeat (first | (with_reducible first | exact HB.out | apply below_alloc | apply pw_below_drewN | apply below_drew1 | refine below_set ?_ GE232.out | refine below_set ?_ GE240.out) | exact HB.out)⟩
  · rw [if_neg c3] at H
    have c3b0 : (t231 == 0) = false := beq_eq_false_iff_ne.mpr c3
    have c3b1 : (t231 != 0) = true := bne_iff_ne.mpr c3
    obtain rfl := Option.some.inj H
    go_enter Tryd.func7, Tryd.ntmps7
    go_wp2_with (first | ((with_reducible refine gate_dst (N := 7) rfl ?_); refine Kd.V_conv 5 ?hg (N := 7) ?hd ([102, 111, 111, 32, 98, 97, 114, 46, 98, 97, 122] : List Int) (cs := #[.int .u8 102, .int .u8 111, .int .u8 111, .int .u8 32, .int .u8 98, .int .u8 97, .int .u8 114, .int .u8 46, .int .u8 98, .int .u8 97, .int .u8 122]) ?hc ?hr (by simp) ?_; (case hd => rfl); (case hg => rfl); (case hc => rfl); (case hr => have kc_ := fun (w_ : World) (C_ : Array Value) (n_ c_ : Nat) => Lib.run_convert_bytes_const (P := Tryd.prog) w_ 22 5 C_ n_ c_ Tryd.underlying22 Tryd.underlying5; first | (go_simp; done) | (go_simp; rfl) | (have kd_ : ∀ (w_ : World) (C_ : Array Value) (n_ c_ s_ : Nat) (h_ : w_.heap.size = s_), (convert 22 22 (.slice (some ⟨s_, 0, none⟩) n_ c_)).run Tryd.prog (w_.alloc (.cells C_ 5)) = .ok (.slice (some ⟨s_, 0, none⟩) n_ c_) (w_.alloc (.cells C_ 5 (C_.size, C_.size + 1))) := fun w_ C_ n_ c_ s_ h_ => by subst h_; exact kc_ w_ C_ n_ c_); first | (go_simp; done) | (go_simp; rfl)); intro v226 w47 ho48 hb; (first | rw [← Ny225.out] at ho48 | (simp only [Int.reduceToNat] at ho48; rw [← Ny225.out] at ho48)); have n0_ := Aside0.mk (Kd.V_lower (Kd.V_mono (ok' := fun k_ => True) ho48 (fun k_ hk_ => trivial)) (below_size (by repeat (first | (with_reducible first | exact HB.out | apply below_alloc | apply pw_below_drewN | apply below_drew1) | exact HB.out)))); have n1_ := Aside0.mk (below_step (by repeat (first | (with_reducible first | exact HB.out | apply below_alloc | apply pw_below_drewN | apply below_drew1) | exact HB.out)) hb); clear HB; have HO227 := n0_; have HB := n1_; clear n0_ n1_; clear hb ho48; obtain ⟨Ao49, co49, eo49⟩ := Kd.V_slice HO227.out; subst eo49) | ((with_reducible refine gate_callee (f := 10) rfl ?_); refine goesL_ (some 8) rfl rfl Tryd.func10 (by kernel_rfl) rfl #[.slice Ao49 y225.length co49, .int .i64 5, .int .i64 1, .string (⟨#[97, 119]⟩ : ByteArray)] rfl (by (try simp only [List.map_toArray, List.map_cons, List.map_nil]); first | done | rfl | (simp only [List.length_drop, List.length_take]; rfl)) ?_; (with_reducible refine (object_Select.calls k _ _ y225 5 1 (⟨#[97, 119]⟩ : ByteArray) t228 t229 t230 t231 _ ?side1 ?side2 A1.out).mono ?_); (case side1 => repeat (first | exact (Kd.V_reads' HO227.out).2.2 | (with_reducible refine Kd.C_alloc ?_ _) | (with_reducible refine Kd.C_drewN ?_ _) | (with_reducible refine Kd.C_drew ?_))); (case side2 => exact (Kd.V_reads' HO227.out).2.1); rintro e w50 ⟨rfl, hb⟩; refine ⟨_, rfl, ?_⟩; have n0_ := Aside0.mk (Kd.V_below (by (with_reducible repeat (first | apply Kd.V_alloc | apply Kd.V_drewN | apply Kd.V_drew)); exact HO227.out) hb); have n1_ := Aside0.mk (below_step (by repeat (first | (with_reducible first | exact HB.out | apply below_alloc | apply pw_below_drewN | apply below_drew1) | exact HB.out)) hb); clear HO227; clear HB; have HO227 := n0_; have HB := n1_; clear n0_ n1_; (try clear hb); (try clear hb2); (try clear hk); (try clear hi)) | ((with_reducible refine gate_dst (N := 1) rfl ?_); refine box_event ?hg (N := 1) ?hd (cs := #[.int .i64 0, .int .i64 0, .int .i64 0]) (t := 29) ?hr ?_; (case hd => rfl); (case hg => rfl); (case hr => first | (go_simp; done) | (go_simp; rfl)); intro gb232 hg w51 hbox hb; have n0_ := Aside0.mk (Kd.V_below (Kd.V_elderB (by (with_reducible repeat (first | apply Kd.V_alloc | apply Kd.V_drewN | apply Kd.V_drew)); exact HO227.out) gb232 (Nat.le_of_eq hg.symm)) hb); have n1_ := Aside0.mk (below_step (by repeat (first | (with_reducible first | exact HB.out | apply below_alloc | apply pw_below_drewN | apply below_drew1) | exact HB.out)) hb); have n2_ := Aside0.mk (hbox); have n3_ := Aside0.mk ((by rw [hg]; exact (below_size (by repeat (first | (with_reducible first | exact HB.out | apply below_alloc | apply pw_below_drewN | apply below_drew1) | exact HB.out))) : w.heap.size ≤ gb232)); have n4_ := Aside0.mk ((by rw [hg]; exact (below_size (by repeat (first | (with_reducible first | exact HB.out | apply below_alloc | apply pw_below_drewN | apply below_drew1) | exact HB.out))) : w.heap.size ≤ gb232)); clear HO227; clear HB; have HO227 := n0_; have HB := n1_; have BK232 := n2_; have GW232 := n3_; have GE232 := n4_; clear n0_ n1_ n2_ n3_ n4_; clear hb hbox hg; have hcz52_0 : w51.cell? ⟨gb232, 0, none⟩ = some (.int .i64 0) := (blk_cell BK232.out 0).trans rfl; have hcz52_1 : w51.cell? ⟨gb232, 1, none⟩ = some (.int .i64 0) := (blk_cell BK232.out 1).trans rfl; have hcz52_2 : w51.cell? ⟨gb232, 2, none⟩ = some (.int .i64 0) := (blk_cell BK232.out 2).trans rfl; have hfz52_0 := blk_frozen BK232.out 0; have hfz52_1 := blk_frozen BK232.out 1; have hfz52_2 := blk_frozen BK232.out 2) | ((with_reducible refine gate_dst (N := 13) rfl ?_); refine Kd.V_conv 5 ?hg (N := 13) ?hd ([102, 40, 97, 40, 98, 41, 99, 41] : List Int) (cs := #[.int .u8 102, .int .u8 40, .int .u8 97, .int .u8 40, .int .u8 98, .int .u8 41, .int .u8 99, .int .u8 41]) ?hc ?hr (by simp) ?_; (case hd => rfl); (case hg => rfl); (case hc => rfl); (case hr => have kc_ := fun (w_ : World) (C_ : Array Value) (n_ c_ : Nat) => Lib.run_convert_bytes_const (P := Tryd.prog) w_ 22 5 C_ n_ c_ Tryd.underlying22 Tryd.underlying5; first | (go_simp; done) | (go_simp; rfl) | (have kd_ : ∀ (w_ : World) (C_ : Array Value) (n_ c_ s_ : Nat) (h_ : w_.heap.size = s_), (convert 22 22 (.slice (some ⟨s_, 0, none⟩) n_ c_)).run Tryd.prog (w_.alloc (.cells C_ 5)) = .ok (.slice (some ⟨s_, 0, none⟩) n_ c_) (w_.alloc (.cells C_ 5 (C_.size, C_.size + 1))) := fun w_ C_ n_ c_ s_ h_ => by subst h_; exact kc_ w_ C_ n_ c_); first | (go_simp; done) | (go_simp; rfl)); intro v234 w53 ho54 hb; (first | rw [← Ny233.out] at ho54 | (simp only [Int.reduceToNat] at ho54; rw [← Ny233.out] at ho54)); have n0_ := Aside0.mk (Kd.V_below (by (with_reducible repeat (first | apply Kd.V_alloc | apply Kd.V_drewN | apply Kd.V_drew)); exact (Kd.V_mono (Kd.V_far (p := ⟨gb232, 2, none⟩) (Kd.V_far (p := ⟨gb232, 1, none⟩) (Kd.V_far (p := ⟨gb232, 0, none⟩) (Kd.V_mono HO227.out (fun k_ hk => (⟨hk, hk.2⟩ : _ ∧ k_ ≠ gb232))) (fun _ hk => hk.2) (.int .i64 t228)) (fun _ hk => hk.2) (.int .i64 t229)) (fun _ hk => hk.2) (.int .i64 t230)) (fun _ h_ => h_.1))) hb); have n1_ := Aside0.mk (Kd.V_lower (Kd.V_mono (ok' := fun k_ => k_ ≠ gb232) ho54 (fun k_ hk_ => (Kd.freshB (g := gb232) (o := .cells #[.int .i64 t228, .int .i64 t229, .int .i64 t230] 29 (0, 0)) (by (with_reducible repeat (first | refine blk_drewN ?_ _ | refine blk_drew ?_ | refine blk_alloc ?_ _)); refine blk_put (cs := #[.int .i64 t228, .int .i64 t229, .int .i64 0]) ?_ 2 _ rfl; (with_reducible repeat (first | refine blk_drewN ?_ _ | refine blk_drew ?_ | refine blk_alloc ?_ _)); refine blk_put (cs := #[.int .i64 t228, .int .i64 0, .int .i64 0]) ?_ 1 _ rfl; (with_reducible repeat (first | refine blk_drewN ?_ _ | refine blk_drew ?_ | refine blk_alloc ?_ _)); refine blk_put (cs := #[.int .i64 0, .int .i64 0, .int .i64 0]) ?_ 0 _ rfl; (with_reducible repeat (first | refine blk_drewN ?_ _ | refine blk_drew ?_ | refine blk_alloc ?_ _)); exact BK232.out) k_ hk_))) (below_size (by repeat (first | (with_reducible first | exact HB.out | apply below_alloc | apply pw_below_drewN | apply below_drew1 | refine below_set ?_ GE232.out) | exact HB.out)))); have n2_ := Aside0.mk (blk_below (g := gb232) (o := .cells #[.int .i64 t228, .int .i64 t229, .int .i64 t230] 29 (0, 0)) (by (with_reducible repeat (first | refine blk_drewN ?_ _ | refine blk_drew ?_ | refine blk_alloc ?_ _)); refine blk_put (cs := #[.int .i64 t228, .int .i64 t229, .int .i64 0]) ?_ 2 _ rfl; (with_reducible repeat (first | refine blk_drewN ?_ _ | refine blk_drew ?_ | refine blk_alloc ?_ _)); refine blk_put (cs := #[.int .i64 t228, .int .i64 0, .int .i64 0]) ?_ 1 _ rfl; (with_reducible repeat (first | refine blk_drewN ?_ _ | refine blk_drew ?_ | refine blk_alloc ?_ _)); refine blk_put (cs := #[.int .i64 0, .int .i64 0, .int .i64 0]) ?_ 0 _ rfl; (with_reducible repeat (first | refine blk_drewN ?_ _ | refine blk_drew ?_ | refine blk_alloc ?_ _)); exact BK232.out) hb); have n3_ := Aside0.mk (below_step (by repeat (first | (with_reducible first | exact HB.out | apply below_alloc | apply pw_below_drewN | apply below_drew1 | refine below_set ?_ GE232.out) | exact HB.out)) hb); clear HO227; clear BK232; clear HB; have HO227 := n0_; have HO235 := n1_; have BK232 := n2_; have HB := n3_; clear n0_ n1_ n2_ n3_; clear hb ho54; obtain ⟨Ao55, co55, eo55⟩ := Kd.V_slice HO235.out; subst eo55) | ((with_reducible refine gate_callee (f := 10) rfl ?_); refine goesL_ (some 14) rfl rfl Tryd.func10 (by kernel_rfl) rfl #[.slice Ao55 y233.length co55, .int .i64 5, .int .i64 2, .string (⟨#[105, 40]⟩ : ByteArray)] rfl (by (try simp only [List.map_toArray, List.map_cons, List.map_nil]); first | done | rfl | (simp only [List.length_drop, List.length_take]; rfl)) ?_; (with_reducible refine (object_Select.calls k _ _ y233 5 2 (⟨#[105, 40]⟩ : ByteArray) t236 t237 t238 t239 _ ?side1 ?side2 A2.out).mono ?_); (case side1 => repeat (first | exact (Kd.V_reads' HO235.out).2.2 | (with_reducible refine Kd.C_alloc ?_ _) | (with_reducible refine Kd.C_drewN ?_ _) | (with_reducible refine Kd.C_drew ?_))); (case side2 => exact (Kd.V_reads' HO235.out).2.1); rintro e w56 ⟨rfl, hb⟩; refine ⟨_, rfl, ?_⟩; have n0_ := Aside0.mk (Kd.V_below (by (with_reducible repeat (first | apply Kd.V_alloc | apply Kd.V_drewN | apply Kd.V_drew)); exact HO227.out) hb); have n1_ := Aside0.mk (Kd.V_below (by (with_reducible repeat (first | apply Kd.V_alloc | apply Kd.V_drewN | apply Kd.V_drew)); exact HO235.out) hb); have n2_ := Aside0.mk (blk_below (g := gb232) (o := .cells #[.int .i64 t228, .int .i64 t229, .int .i64 t230] 29 (0, 0)) (by (with_reducible repeat (first | refine blk_drewN ?_ _ | refine blk_drew ?_ | refine blk_alloc ?_ _)); exact BK232.out) hb); have n3_ := Aside0.mk (below_step (by repeat (first | (with_reducible first | exact HB.out | apply below_alloc | apply pw_below_drewN | apply below_drew1 | refine below_set ?_ GE232.out) | exact HB.out)) hb); clear HO227; clear HO235; clear BK232; clear HB; have HO227 := n0_; have HO235 := n1_; have BK232 := n2_; have HB := n3_; clear n0_ n1_ n2_ n3_; (try clear hb); (try clear hb2); (try clear hk); (try clear hi)) | ((with_reducible refine gate_dst (N := 3) rfl ?_); refine box_event ?hg (N := 3) ?hd (cs := #[.int .i64 0, .int .i64 0, .int .i64 0]) (t := 29) ?hr ?_; (case hd => rfl); (case hg => rfl); (case hr => first | (go_simp; done) | (go_simp; rfl)); intro gb240 hg w57 hbox hb; have n0_ := Aside0.mk (Kd.V_below (Kd.V_elderB (by (with_reducible repeat (first | apply Kd.V_alloc | apply Kd.V_drewN | apply Kd.V_drew)); exact HO227.out) gb240 (Nat.le_of_eq hg.symm)) hb); have n1_ := Aside0.mk (Kd.V_below (Kd.V_elderB (by (with_reducible repeat (first | apply Kd.V_alloc | apply Kd.V_drewN | apply Kd.V_drew)); exact HO235.out) gb240 (Nat.le_of_eq hg.symm)) hb); have n2_ := Aside0.mk (blk_below (g := gb232) (o := .cells #[.int .i64 t228, .int .i64 t229, .int .i64 t230] 29 (0, 0)) (by (with_reducible repeat (first | refine blk_drewN ?_ _ | refine blk_drew ?_ | refine blk_alloc ?_ _)); exact BK232.out) hb); have n3_ := Aside0.mk (below_step (by repeat (first | (with_reducible first | exact HB.out | apply below_alloc | apply pw_below_drewN | apply below_drew1 | refine below_set ?_ GE232.out) | exact HB.out)) hb); have n4_ := Aside0.mk (hbox); have n5_ := Aside0.mk ((by rw [hg]; exact (below_size (by repeat (first | (with_reducible first | exact HB.out | apply below_alloc | apply pw_below_drewN | apply below_drew1 | refine below_set ?_ GE232.out) | exact HB.out))) : w.heap.size ≤ gb240)); have n6_ := Aside0.mk ((by rw [hg]; exact (below_size (by repeat (first | (with_reducible first | exact HB.out | apply below_alloc | apply pw_below_drewN | apply below_drew1 | refine below_set ?_ GE232.out) | exact HB.out))) : w.heap.size ≤ gb240)); have n7_ := Aside0.mk ((by rw [hg]; exact Nat.ne_of_lt (blk_lt (g := gb232) (o := .cells #[.int .i64 t228, .int .i64 t229, .int .i64 t230] 29 (0, 0)) (by (with_reducible repeat (first | refine blk_drewN ?_ _ | refine blk_drew ?_ | refine blk_alloc ?_ _)); exact BK232.out)) : gb232 ≠ gb240)); have n8_ := Aside0.mk ((by rw [hg]; exact Nat.ne_of_gt (blk_lt (g := gb232) (o := .cells #[.int .i64 t228, .int .i64 t229, .int .i64 t230] 29 (0, 0)) (by (with_reducible repeat (first | refine blk_drewN ?_ _ | refine blk_drew ?_ | refine blk_alloc ?_ _)); exact BK232.out)) : gb240 ≠ gb232)); clear HO227; clear HO235; clear BK232; clear HB; have HO227 := n0_; have HO235 := n1_; have BK232 := n2_; have HB := n3_; have BK240 := n4_; have GW240 := n5_; have GE240 := n6_; have NB232_240 := n7_; have NB240_232 := n8_; clear n0_ n1_ n2_ n3_ n4_ n5_ n6_ n7_ n8_; clear hb hbox hg; have hnb58 := NB240_232.out; have hnc58 := NB232_240.out; have hcz59_0 : w57.cell? ⟨gb240, 0, none⟩ = some (.int .i64 0) := (blk_cell BK240.out 0).trans rfl; have hcz59_1 : w57.cell? ⟨gb240, 1, none⟩ = some (.int .i64 0) := (blk_cell BK240.out 1).trans rfl; have hcz59_2 : w57.cell? ⟨gb240, 2, none⟩ = some (.int .i64 0) := (blk_cell BK240.out 2).trans rfl; have hfz59_0 := blk_frozen BK240.out 0; have hfz59_1 := blk_frozen BK240.out 1; have hfz59_2 := blk_frozen BK240.out 2))
    go_ret
    exact ⟨by first | rfl | (simp [errW_none, errW_some] <;> rfl) | (simp [*, errW_none, errW_some] <;> rfl), by repeat (first | (with_reducible first | exact HB.out | apply below_alloc | apply pw_below_drewN | apply below_drew1 | refine below_set ?_ GE232.out | refine below_set ?_ GE240.out) | exact HB.out)⟩

end Go.Proofs.YtcochbkdgjgaeaaDoor.X
end
section
-- Written by wip/xprint.py over the kit's print.py: the Lean function of each Go function, and the proof that the Go text comes to it.
namespace Go.Proofs.YtcochbkdgjgaeaaDoor.X
open Go.RowKit Go.Proofs.YtcochbkdgjgaeaaDoorW.PrintWords Go.Proofs.YtcochbkdgjgaeaaDoorW.PrintLast Go.Proofs.YtcochbkdgjgaeaaDoorW.PrintMore
attribute [local go_sem] max2_int min2_int max_two min_two max_three min_three max_four min_four   -- for this text's walks alone
set_option linter.unusedVariables false
set_option linter.unusedSimpArgs false

/-! ### quoinlaw13_place: function 12 -/
def quoinlaw13_place.f (a0 : Int) (a1 : Int) : Option (Int) := if a0 < 0 then (if a1 = 0 then (none) else (some (Int.tmod (wrap64 (-(wrap64 (a0 + 1)))) a1))) else (if a1 = 0 then (none) else (some (Int.tmod a0 a1)))
set_option maxHeartbeats 8000000 in
set_option maxRecDepth 100000 in
theorem quoinlaw13_place.calls (a0 : Int) (a1 : Int) (r : Int) (w : World) (h : quoinlaw13_place.f a0 a1 = some r) :
    Calls Tryd.prog 12 #[.int .i64 a0, .int .i64 a1] w fun e w' => e = .returned (.int .i64 r) ∧ Drawn0 w w' := by
  have H : (if a0 < 0 then (if a1 = 0 then (none) else (some (Int.tmod (wrap64 (-(wrap64 (a0 + 1)))) a1))) else (if a1 = 0 then (none) else (some (Int.tmod a0 a1)))) = some r := h
  clear h
  by_cases c3 : a0 < 0
  · rw [if_pos c3] at H
    have c3b0 : decide (a0 < 0) = true := decide_eq_true c3
    clear c3
    by_cases c4 : a1 = 0
    · rw [if_pos c4] at H
      exact absurd H (by simp)
    · rw [if_neg c4] at H
      have c4b0 : (a1 == 0) = false := beq_eq_false_iff_ne.mpr c4
      have c4b1 : (a1 != 0) = true := bne_iff_ne.mpr c4
      obtain rfl := Option.some.inj H
      go_enter Tryd.func12, Tryd.ntmps12
      go_wp2
      go_ret
      exact ⟨by first | rfl | (simp; done) | (simp [*]; done), by repeat (first | exact Drawn0.refl _ | apply Drawn0.step)⟩
  · rw [if_neg c3] at H
    have c3b0 : decide (a0 < 0) = false := decide_eq_false c3
    clear c3
    by_cases c5 : a1 = 0
    · rw [if_pos c5] at H
      exact absurd H (by simp)
    · rw [if_neg c5] at H
      have c5b0 : (a1 == 0) = false := beq_eq_false_iff_ne.mpr c5
      have c5b1 : (a1 != 0) = true := bne_iff_ne.mpr c5
      obtain rfl := Option.some.inj H
      go_enter Tryd.func12, Tryd.ntmps12
      go_wp2
      go_ret
      exact ⟨by first | rfl | (simp; done) | (simp [*]; done), by repeat (first | exact Drawn0.refl _ | apply Drawn0.step)⟩

end Go.Proofs.YtcochbkdgjgaeaaDoor.X
end
section
-- Written by wip/xprint.py over the kit's print.py: the Lean function of each Go function, and the proof that the Go text comes to it.
namespace Go.Proofs.YtcochbkdgjgaeaaDoor.X
open Go.RowKit Go.Proofs.YtcochbkdgjgaeaaDoorW.PrintWords Go.Proofs.YtcochbkdgjgaeaaDoorW.PrintLast Go.Proofs.YtcochbkdgjgaeaaDoorW.PrintMore
attribute [local go_sem] max2_int min2_int max_two min_two max_three min_three max_four min_four   -- for this text's walks alone
set_option linter.unusedVariables false
set_option linter.unusedSimpArgs false

attribute [local go_sem high] eqA29
/-! ### quoinlaw13_ObjectRuns: function 6 -/
mutual
def quoinlaw13_ObjectRuns.j0 : Nat → List Int → Bool → Int → ByteArray → Option (Bool)
 | 0, _, _, _, _ => none
 | k + 1, x0, x2, x7, x8 => (object_Select.f k x0 x7 1 x8).bind fun bt462 => (if x7 = (x0.length : Int) then (quoinlaw13_ObjectRuns.j1 k x0 x2 x7 x8 bt462.2.2.2 ((bt462.2.2.2 != 0) != true) bt462.1 bt462.2.1 bt462.2.2.1) else (if 0 ≤ x7 then (if x7 < (x0.length : Int) then (quoinlaw13_ObjectRuns.j1 k x0 x2 x7 x8 bt462.2.2.2 ((bt462.2.2.2 != 0) != ((rd x0 x7) == 10)) bt462.1 bt462.2.1 bt462.2.2.1) else (none)) else (none)))
def quoinlaw13_ObjectRuns.j1 : Nat → List Int → Bool → Int → ByteArray → Int → Bool → Int → Int → Int → Option (Bool)
 | 0, _, _, _, _, _, _, _, _, _ => none
 | k + 1, x0, x2, x7, x8, x10, x49, x467000, x467001, x467002 => if x49 = true then (some false) else (if x10 = 0 then (if 0 ≤ x7 then (if x7 < (x0.length : Int) then ((class_Of.f k (rd x0 x7) x2).bind fun t469 => (if x467000 > x7 then (quoinlaw13_ObjectRuns.j2 k x0 x2 x7 x8 t469 true x467000 x467001 x467002) else (if x467001 ≤ x7 then (quoinlaw13_ObjectRuns.j2 k x0 x2 x7 x8 t469 true x467000 x467001 x467002) else (if x467000 < 0 then (quoinlaw13_ObjectRuns.j2 k x0 x2 x7 x8 t469 true x467000 x467001 x467002) else (quoinlaw13_ObjectRuns.j2 k x0 x2 x7 x8 t469 (decide (x467001 > (x0.length : Int))) x467000 x467001 x467002))))) else (none)) else (none)) else (quoinlaw13_ObjectRuns.j6 k x0 x7))
def quoinlaw13_ObjectRuns.j6 : Nat → List Int → Int → Option (Bool)
 | 0, _, _ => none
 | k + 1, x0, x7 => (object_Select.f k x0 x7 1 (⟨#[105, 112]⟩ : ByteArray)).bind fun bt490 => (if bt490.2.2.2 = 0 then (if bt490.1 > x7 then (quoinlaw13_ObjectRuns.j7 k x0 true bt490.1 bt490.2.1 bt490.2.2.1) else (if bt490.2.1 < 0 then (quoinlaw13_ObjectRuns.j7 k x0 true bt490.1 bt490.2.1 bt490.2.2.1) else (if bt490.2.1 > (x0.length : Int) then (quoinlaw13_ObjectRuns.j7 k x0 true bt490.1 bt490.2.1 bt490.2.2.1) else (quoinlaw13_ObjectRuns.j7 k x0 (decide (bt490.1 < 0)) bt490.1 bt490.2.1 bt490.2.2.1)))) else (quoinlaw13_ObjectRuns.j7 k x0 true bt490.1 bt490.2.1 bt490.2.2.1))
def quoinlaw13_ObjectRuns.j7 : Nat → List Int → Bool → Int → Int → Int → Option (Bool)
 | 0, _, _, _, _, _ => none
 | k + 1, x0, x222, x495000, x495001, x495002 => if x222 = true then (some false) else (if x495000 = (x0.length : Int) then (quoinlaw13_ObjectRuns.j8 k x0 true x495000 x495001 x495002) else (if 0 ≤ x495000 then (if x495000 < (x0.length : Int) then (quoinlaw13_ObjectRuns.j8 k x0 ((rd x0 x495000) == 10) x495000 x495001 x495002) else (none)) else (none)))
def quoinlaw13_ObjectRuns.j8 : Nat → List Int → Bool → Int → Int → Int → Option (Bool)
 | 0, _, _, _, _, _ => none
 | k + 1, x0, x19, x495000, x495001, x495002 => quoinlaw13_ObjectRuns.l1 k x0 x19 x495000 x495000 x495001 x495002
def quoinlaw13_ObjectRuns.l1 : Nat → List Int → Bool → Int → Int → Int → Int → Option (Bool)
 | 0, _, _, _, _, _, _ => none
 | k + 1, x0, x19, x20, x495000, x495001, x495002 => if x20 ≤ x495001 then (if x20 = 0 then (if x20 = (x0.length : Int) then (if (true != x19) = true then (some false) else (quoinlaw13_ObjectRuns.l1 k x0 x19 (wrap64 (x20 + 1)) x495000 x495001 x495002)) else (if 0 ≤ x20 then (if x20 < (x0.length : Int) then (if (((rd x0 x20) == 10) != x19) = true then (some false) else (quoinlaw13_ObjectRuns.l1 k x0 x19 (wrap64 (x20 + 1)) x495000 x495001 x495002)) else (none)) else (none))) else (if 0 ≤ (wrap64 (x20 - 1)) then (if (wrap64 (x20 - 1)) < (x0.length : Int) then (if (rd x0 (wrap64 (x20 - 1))) = 10 then (if x20 = (x0.length : Int) then (if (true != x19) = true then (some false) else (quoinlaw13_ObjectRuns.l1 k x0 x19 (wrap64 (x20 + 1)) x495000 x495001 x495002)) else (if 0 ≤ x20 then (if x20 < (x0.length : Int) then (if (((rd x0 x20) == 10) != x19) = true then (some false) else (quoinlaw13_ObjectRuns.l1 k x0 x19 (wrap64 (x20 + 1)) x495000 x495001 x495002)) else (none)) else (none))) else (quoinlaw13_ObjectRuns.l1 k x0 x19 (wrap64 (x20 + 1)) x495000 x495001 x495002)) else (none)) else (none))) else (some true)
def quoinlaw13_ObjectRuns.j2 : Nat → List Int → Bool → Int → ByteArray → Int → Bool → Int → Int → Int → Option (Bool)
 | 0, _, _, _, _, _, _, _, _, _ => none
 | k + 1, x0, x2, x7, x8, x11, x79, x467000, x467001, x467002 => if x79 = true then (some false) else (if 0 ≤ x467000 then (if x467000 ≤ x467001 then (if x467001 ≤ (x0.length : Int) then (quoinlaw13_ObjectRuns.l0 k x0 x2 x7 x8 x11 ((x0.take (x467001 : Int).toNat).drop (x467000 : Int).toNat) (((x0.take (x467001 : Int).toNat).drop (x467000 : Int).toNat).length : Int) 0 x467000 x467001 x467002) else (none)) else (none)) else (none))
def quoinlaw13_ObjectRuns.l0 : Nat → List Int → Bool → Int → ByteArray → Int → List Int → Int → Int → Int → Int → Int → Option (Bool)
 | 0, _, _, _, _, _, _, _, _, _, _, _ => none
 | k + 1, x0, x2, x7, x8, x11, x85, x86, x87, x467000, x467001, x467002 => if x87 < x86 then (if 0 ≤ x87 then (if x87 < (x85.length : Int) then ((class_Of.f k (rd x85 x87) x2).bind fun t472 => (if t472 = x11 then (quoinlaw13_ObjectRuns.l0 k x0 x2 x7 x8 x11 x85 x86 (wrap64 (x87 + 1)) x467000 x467001 x467002) else (some false))) else (none)) else (none)) else (if x467000 > 0 then (if 0 ≤ (wrap64 (x467000 - 1)) then (if (wrap64 (x467000 - 1)) < (x0.length : Int) then ((class_Of.f k (rd x0 (wrap64 (x467000 - 1))) x2).bind fun t474 => (if t474 = x11 then (quoinlaw13_ObjectRuns.j4 k x0 x7 x8 true x467000 x467001 x467002) else (if x467001 < (x0.length : Int) then (if 0 ≤ x467001 then ((class_Of.f k (rd x0 x467001) x2).bind fun t476 => (quoinlaw13_ObjectRuns.j4 k x0 x7 x8 (t476 == x11) x467000 x467001 x467002)) else (none)) else (quoinlaw13_ObjectRuns.j4 k x0 x7 x8 false x467000 x467001 x467002)))) else (none)) else (none)) else (if x467001 < (x0.length : Int) then (if 0 ≤ x467001 then ((class_Of.f k (rd x0 x467001) x2).bind fun t478 => (quoinlaw13_ObjectRuns.j4 k x0 x7 x8 (t478 == x11) x467000 x467001 x467002)) else (none)) else (quoinlaw13_ObjectRuns.j4 k x0 x7 x8 false x467000 x467001 x467002)))
def quoinlaw13_ObjectRuns.j4 : Nat → List Int → Int → ByteArray → Bool → Int → Int → Int → Option (Bool)
 | 0, _, _, _, _, _, _, _ => none
 | k + 1, x0, x7, x8, x129, x467000, x467001, x467002 => if x129 = true then (some false) else ((object_Select.f k x0 x7 2 x8).bind fun bt479 => (if x467001 = (x0.length : Int) then (quoinlaw13_ObjectRuns.j5 k x0 x7 x8 bt479.2.2.2 true x467000 x467001 x467002 bt479.1 bt479.2.1 bt479.2.2.1) else (if 0 ≤ x467001 then (if x467001 < (x0.length : Int) then (quoinlaw13_ObjectRuns.j5 k x0 x7 x8 bt479.2.2.2 ((rd x0 x467001) == 10) x467000 x467001 x467002 bt479.1 bt479.2.1 bt479.2.2.1) else (none)) else (none))))
def quoinlaw13_ObjectRuns.j5 : Nat → List Int → Int → ByteArray → Int → Bool → Int → Int → Int → Int → Int → Int → Option (Bool)
 | 0, _, _, _, _, _, _, _, _, _, _, _ => none
 | k + 1, x0, x7, x8, x15, x149, x467000, x467001, x467002, x484000, x484001, x484002 => if x149 = true then (if x15 = 130 then (some (x484000 == 0 && (x484001 == 0 && (x484002 == 0)))) else (some false)) else ((object_Select.f k x0 x467001 1 x8).bind fun bt485 => (if x15 = 0 then (if bt485.2.2.2 = 0 then (if x484000 = x467000 then (if x484001 = bt485.2.1 then (if bt485.1 = x467001 then (quoinlaw13_ObjectRuns.j6 k x0 x7) else (some false)) else (some false)) else (some false)) else (some false)) else (some false)))
end
def quoinlaw13_ObjectRuns.f (k : Nat) (l0 : List Int) (a1 : Int) (a2 : Bool) : Option (Bool) := (quoinlaw13_awake.f k).bind fun t460 => (if t460 = true then ((quoinlaw13_place.f a1 (wrap64 ((l0.length : Int) + 1))).bind fun t461 => (if a2 = true then (quoinlaw13_ObjectRuns.j0 k l0 a2 t461 (⟨#[105, 87]⟩ : ByteArray)) else (quoinlaw13_ObjectRuns.j0 k l0 a2 t461 (⟨#[105, 119]⟩ : ByteArray)))) else (some false))
theorem quoinlaw13_ObjectRuns.mono_l : ∀ k, (∀ y0 y1 y2 y3, LeO (quoinlaw13_ObjectRuns.j0 k y0 y1 y2 y3) (quoinlaw13_ObjectRuns.j0 (k + 1) y0 y1 y2 y3)) ∧ (∀ y0 y1 y2 y3 y4 y5 y6 y7 y8, LeO (quoinlaw13_ObjectRuns.j1 k y0 y1 y2 y3 y4 y5 y6 y7 y8) (quoinlaw13_ObjectRuns.j1 (k + 1) y0 y1 y2 y3 y4 y5 y6 y7 y8)) ∧ (∀ y0 y1, LeO (quoinlaw13_ObjectRuns.j6 k y0 y1) (quoinlaw13_ObjectRuns.j6 (k + 1) y0 y1)) ∧ (∀ y0 y1 y2 y3 y4, LeO (quoinlaw13_ObjectRuns.j7 k y0 y1 y2 y3 y4) (quoinlaw13_ObjectRuns.j7 (k + 1) y0 y1 y2 y3 y4)) ∧ (∀ y0 y1 y2 y3 y4, LeO (quoinlaw13_ObjectRuns.j8 k y0 y1 y2 y3 y4) (quoinlaw13_ObjectRuns.j8 (k + 1) y0 y1 y2 y3 y4)) ∧ (∀ y0 y1 y2 y3 y4 y5, LeO (quoinlaw13_ObjectRuns.l1 k y0 y1 y2 y3 y4 y5) (quoinlaw13_ObjectRuns.l1 (k + 1) y0 y1 y2 y3 y4 y5)) ∧ (∀ y0 y1 y2 y3 y4 y5 y6 y7 y8, LeO (quoinlaw13_ObjectRuns.j2 k y0 y1 y2 y3 y4 y5 y6 y7 y8) (quoinlaw13_ObjectRuns.j2 (k + 1) y0 y1 y2 y3 y4 y5 y6 y7 y8)) ∧ (∀ y0 y1 y2 y3 y4 y5 y6 y7 y8 y9 y10, LeO (quoinlaw13_ObjectRuns.l0 k y0 y1 y2 y3 y4 y5 y6 y7 y8 y9 y10) (quoinlaw13_ObjectRuns.l0 (k + 1) y0 y1 y2 y3 y4 y5 y6 y7 y8 y9 y10)) ∧ (∀ y0 y1 y2 y3 y4 y5 y6, LeO (quoinlaw13_ObjectRuns.j4 k y0 y1 y2 y3 y4 y5 y6) (quoinlaw13_ObjectRuns.j4 (k + 1) y0 y1 y2 y3 y4 y5 y6)) ∧ (∀ y0 y1 y2 y3 y4 y5 y6 y7 y8 y9 y10, LeO (quoinlaw13_ObjectRuns.j5 k y0 y1 y2 y3 y4 y5 y6 y7 y8 y9 y10) (quoinlaw13_ObjectRuns.j5 (k + 1) y0 y1 y2 y3 y4 y5 y6 y7 y8 y9 y10))
 | 0 => ⟨fun _ _ _ _ r h => by simp [quoinlaw13_ObjectRuns.j0] at h, fun _ _ _ _ _ _ _ _ _ r h => by simp [quoinlaw13_ObjectRuns.j1] at h, fun _ _ r h => by simp [quoinlaw13_ObjectRuns.j6] at h, fun _ _ _ _ _ r h => by simp [quoinlaw13_ObjectRuns.j7] at h, fun _ _ _ _ _ r h => by simp [quoinlaw13_ObjectRuns.j8] at h, fun _ _ _ _ _ _ r h => by simp [quoinlaw13_ObjectRuns.l1] at h, fun _ _ _ _ _ _ _ _ _ r h => by simp [quoinlaw13_ObjectRuns.j2] at h, fun _ _ _ _ _ _ _ _ _ _ _ r h => by simp [quoinlaw13_ObjectRuns.l0] at h, fun _ _ _ _ _ _ _ r h => by simp [quoinlaw13_ObjectRuns.j4] at h, fun _ _ _ _ _ _ _ _ _ _ _ r h => by simp [quoinlaw13_ObjectRuns.j5] at h⟩
 | k + 1 => by
  obtain ⟨ih0, ih1, ih2, ih3, ih4, ih5, ih6, ih7, ih8, ih9⟩ := quoinlaw13_ObjectRuns.mono_l k
  refine ⟨?_, ?_, ?_, ?_, ?_, ?_, ?_, ?_, ?_, ?_⟩
  ·intro y0 y1 y2 y3
   unfold quoinlaw13_ObjectRuns.j0
   repeat' first
   | (with_reducible exact ih0 _ _ _ _)
   | (with_reducible exact ih1 _ _ _ _ _ _ _ _ _)
   | (with_reducible exact ih2 _ _)
   | (with_reducible exact ih3 _ _ _ _ _)
   | (with_reducible exact ih4 _ _ _ _ _)
   | (with_reducible exact ih5 _ _ _ _ _ _)
   | (with_reducible exact ih6 _ _ _ _ _ _ _ _ _)
   | (with_reducible exact ih7 _ _ _ _ _ _ _ _ _ _ _)
   | (with_reducible exact ih8 _ _ _ _ _ _ _)
   | (with_reducible exact ih9 _ _ _ _ _ _ _ _ _ _ _)
   | (with_reducible exact class_Of.mono _ _ _)
   | (with_reducible exact object_Select.mono _ _ _ _ _)
   | (with_reducible exact quoinlaw13_awake.mono _)
   | (with_reducible exact LeO.refl _)
   | (with_reducible exact LeO.none _)
   | (with_reducible refine LeO.ite ?_ ?_)
   | (with_reducible refine LeO.bind ?_ (fun _ => ?_))
   | exact ih0 _ _ _ _
   | exact ih1 _ _ _ _ _ _ _ _ _
   | exact ih2 _ _
   | exact ih3 _ _ _ _ _
   | exact ih4 _ _ _ _ _
   | exact ih5 _ _ _ _ _ _
   | exact ih6 _ _ _ _ _ _ _ _ _
   | exact ih7 _ _ _ _ _ _ _ _ _ _ _
   | exact ih8 _ _ _ _ _ _ _
   | exact ih9 _ _ _ _ _ _ _ _ _ _ _
   | exact class_Of.mono _ _ _
   | exact object_Select.mono _ _ _ _ _
   | exact quoinlaw13_awake.mono _
   | exact LeO.none _
   | refine LeO.ite ?_ ?_
   | refine LeO.bind ?_ (fun _ => ?_)
  ·intro y0 y1 y2 y3 y4 y5 y6 y7 y8
   unfold quoinlaw13_ObjectRuns.j1
   repeat' first
   | (with_reducible exact ih0 _ _ _ _)
   | (with_reducible exact ih1 _ _ _ _ _ _ _ _ _)
   | (with_reducible exact ih2 _ _)
   | (with_reducible exact ih3 _ _ _ _ _)
   | (with_reducible exact ih4 _ _ _ _ _)
   | (with_reducible exact ih5 _ _ _ _ _ _)
   | (with_reducible exact ih6 _ _ _ _ _ _ _ _ _)
   | (with_reducible exact ih7 _ _ _ _ _ _ _ _ _ _ _)
   | (with_reducible exact ih8 _ _ _ _ _ _ _)
   | (with_reducible exact ih9 _ _ _ _ _ _ _ _ _ _ _)
   | (with_reducible exact class_Of.mono _ _ _)
   | (with_reducible exact object_Select.mono _ _ _ _ _)
   | (with_reducible exact quoinlaw13_awake.mono _)
   | (with_reducible exact LeO.refl _)
   | (with_reducible exact LeO.none _)
   | (with_reducible refine LeO.ite ?_ ?_)
   | (with_reducible refine LeO.bind ?_ (fun _ => ?_))
   | exact ih0 _ _ _ _
   | exact ih1 _ _ _ _ _ _ _ _ _
   | exact ih2 _ _
   | exact ih3 _ _ _ _ _
   | exact ih4 _ _ _ _ _
   | exact ih5 _ _ _ _ _ _
   | exact ih6 _ _ _ _ _ _ _ _ _
   | exact ih7 _ _ _ _ _ _ _ _ _ _ _
   | exact ih8 _ _ _ _ _ _ _
   | exact ih9 _ _ _ _ _ _ _ _ _ _ _
   | exact class_Of.mono _ _ _
   | exact object_Select.mono _ _ _ _ _
   | exact quoinlaw13_awake.mono _
   | exact LeO.none _
   | refine LeO.ite ?_ ?_
   | refine LeO.bind ?_ (fun _ => ?_)
  ·intro y0 y1
   unfold quoinlaw13_ObjectRuns.j6
   repeat' first
   | (with_reducible exact ih0 _ _ _ _)
   | (with_reducible exact ih1 _ _ _ _ _ _ _ _ _)
   | (with_reducible exact ih2 _ _)
   | (with_reducible exact ih3 _ _ _ _ _)
   | (with_reducible exact ih4 _ _ _ _ _)
   | (with_reducible exact ih5 _ _ _ _ _ _)
   | (with_reducible exact ih6 _ _ _ _ _ _ _ _ _)
   | (with_reducible exact ih7 _ _ _ _ _ _ _ _ _ _ _)
   | (with_reducible exact ih8 _ _ _ _ _ _ _)
   | (with_reducible exact ih9 _ _ _ _ _ _ _ _ _ _ _)
   | (with_reducible exact class_Of.mono _ _ _)
   | (with_reducible exact object_Select.mono _ _ _ _ _)
   | (with_reducible exact quoinlaw13_awake.mono _)
   | (with_reducible exact LeO.refl _)
   | (with_reducible exact LeO.none _)
   | (with_reducible refine LeO.ite ?_ ?_)
   | (with_reducible refine LeO.bind ?_ (fun _ => ?_))
   | exact ih0 _ _ _ _
   | exact ih1 _ _ _ _ _ _ _ _ _
   | exact ih2 _ _
   | exact ih3 _ _ _ _ _
   | exact ih4 _ _ _ _ _
   | exact ih5 _ _ _ _ _ _
   | exact ih6 _ _ _ _ _ _ _ _ _
   | exact ih7 _ _ _ _ _ _ _ _ _ _ _
   | exact ih8 _ _ _ _ _ _ _
   | exact ih9 _ _ _ _ _ _ _ _ _ _ _
   | exact class_Of.mono _ _ _
   | exact object_Select.mono _ _ _ _ _
   | exact quoinlaw13_awake.mono _
   | exact LeO.none _
   | refine LeO.ite ?_ ?_
   | refine LeO.bind ?_ (fun _ => ?_)
  ·intro y0 y1 y2 y3 y4
   unfold quoinlaw13_ObjectRuns.j7
   repeat' first
   | (with_reducible exact ih0 _ _ _ _)
   | (with_reducible exact ih1 _ _ _ _ _ _ _ _ _)
   | (with_reducible exact ih2 _ _)
   | (with_reducible exact ih3 _ _ _ _ _)
   | (with_reducible exact ih4 _ _ _ _ _)
   | (with_reducible exact ih5 _ _ _ _ _ _)
   | (with_reducible exact ih6 _ _ _ _ _ _ _ _ _)
   | (with_reducible exact ih7 _ _ _ _ _ _ _ _ _ _ _)
   | (with_reducible exact ih8 _ _ _ _ _ _ _)
   | (with_reducible exact ih9 _ _ _ _ _ _ _ _ _ _ _)
   | (with_reducible exact class_Of.mono _ _ _)
   | (with_reducible exact object_Select.mono _ _ _ _ _)
   | (with_reducible exact quoinlaw13_awake.mono _)
   | (with_reducible exact LeO.refl _)
   | (with_reducible exact LeO.none _)
   | (with_reducible refine LeO.ite ?_ ?_)
   | (with_reducible refine LeO.bind ?_ (fun _ => ?_))
   | exact ih0 _ _ _ _
   | exact ih1 _ _ _ _ _ _ _ _ _
   | exact ih2 _ _
   | exact ih3 _ _ _ _ _
   | exact ih4 _ _ _ _ _
   | exact ih5 _ _ _ _ _ _
   | exact ih6 _ _ _ _ _ _ _ _ _
   | exact ih7 _ _ _ _ _ _ _ _ _ _ _
   | exact ih8 _ _ _ _ _ _ _
   | exact ih9 _ _ _ _ _ _ _ _ _ _ _
   | exact class_Of.mono _ _ _
   | exact object_Select.mono _ _ _ _ _
   | exact quoinlaw13_awake.mono _
   | exact LeO.none _
   | refine LeO.ite ?_ ?_
   | refine LeO.bind ?_ (fun _ => ?_)
  ·intro y0 y1 y2 y3 y4
   unfold quoinlaw13_ObjectRuns.j8
   repeat' first
   | (with_reducible exact ih0 _ _ _ _)
   | (with_reducible exact ih1 _ _ _ _ _ _ _ _ _)
   | (with_reducible exact ih2 _ _)
   | (with_reducible exact ih3 _ _ _ _ _)
   | (with_reducible exact ih4 _ _ _ _ _)
   | (with_reducible exact ih5 _ _ _ _ _ _)
   | (with_reducible exact ih6 _ _ _ _ _ _ _ _ _)
   | (with_reducible exact ih7 _ _ _ _ _ _ _ _ _ _ _)
   | (with_reducible exact ih8 _ _ _ _ _ _ _)
   | (with_reducible exact ih9 _ _ _ _ _ _ _ _ _ _ _)
   | (with_reducible exact class_Of.mono _ _ _)
   | (with_reducible exact object_Select.mono _ _ _ _ _)
   | (with_reducible exact quoinlaw13_awake.mono _)
   | (with_reducible exact LeO.refl _)
   | (with_reducible exact LeO.none _)
   | (with_reducible refine LeO.ite ?_ ?_)
   | (with_reducible refine LeO.bind ?_ (fun _ => ?_))
   | exact ih0 _ _ _ _
   | exact ih1 _ _ _ _ _ _ _ _ _
   | exact ih2 _ _
   | exact ih3 _ _ _ _ _
   | exact ih4 _ _ _ _ _
   | exact ih5 _ _ _ _ _ _
   | exact ih6 _ _ _ _ _ _ _ _ _
   | exact ih7 _ _ _ _ _ _ _ _ _ _ _
   | exact ih8 _ _ _ _ _ _ _
   | exact ih9 _ _ _ _ _ _ _ _ _ _ _
   | exact class_Of.mono _ _ _
   | exact object_Select.mono _ _ _ _ _
   | exact quoinlaw13_awake.mono _
   | exact LeO.none _
   | refine LeO.ite ?_ ?_
   | refine LeO.bind ?_ (fun _ => ?_)
  ·intro y0 y1 y2 y3 y4 y5
   unfold quoinlaw13_ObjectRuns.l1
   repeat' first
   | (with_reducible exact ih0 _ _ _ _)
   | (with_reducible exact ih1 _ _ _ _ _ _ _ _ _)
   | (with_reducible exact ih2 _ _)
   | (with_reducible exact ih3 _ _ _ _ _)
   | (with_reducible exact ih4 _ _ _ _ _)
   | (with_reducible exact ih5 _ _ _ _ _ _)
   | (with_reducible exact ih6 _ _ _ _ _ _ _ _ _)
   | (with_reducible exact ih7 _ _ _ _ _ _ _ _ _ _ _)
   | (with_reducible exact ih8 _ _ _ _ _ _ _)
   | (with_reducible exact ih9 _ _ _ _ _ _ _ _ _ _ _)
   | (with_reducible exact class_Of.mono _ _ _)
   | (with_reducible exact object_Select.mono _ _ _ _ _)
   | (with_reducible exact quoinlaw13_awake.mono _)
   | (with_reducible exact LeO.refl _)
   | (with_reducible exact LeO.none _)
   | (with_reducible refine LeO.ite ?_ ?_)
   | (with_reducible refine LeO.bind ?_ (fun _ => ?_))
   | exact ih0 _ _ _ _
   | exact ih1 _ _ _ _ _ _ _ _ _
   | exact ih2 _ _
   | exact ih3 _ _ _ _ _
   | exact ih4 _ _ _ _ _
   | exact ih5 _ _ _ _ _ _
   | exact ih6 _ _ _ _ _ _ _ _ _
   | exact ih7 _ _ _ _ _ _ _ _ _ _ _
   | exact ih8 _ _ _ _ _ _ _
   | exact ih9 _ _ _ _ _ _ _ _ _ _ _
   | exact class_Of.mono _ _ _
   | exact object_Select.mono _ _ _ _ _
   | exact quoinlaw13_awake.mono _
   | exact LeO.none _
   | refine LeO.ite ?_ ?_
   | refine LeO.bind ?_ (fun _ => ?_)
  ·intro y0 y1 y2 y3 y4 y5 y6 y7 y8
   unfold quoinlaw13_ObjectRuns.j2
   repeat' first
   | (with_reducible exact ih0 _ _ _ _)
   | (with_reducible exact ih1 _ _ _ _ _ _ _ _ _)
   | (with_reducible exact ih2 _ _)
   | (with_reducible exact ih3 _ _ _ _ _)
   | (with_reducible exact ih4 _ _ _ _ _)
   | (with_reducible exact ih5 _ _ _ _ _ _)
   | (with_reducible exact ih6 _ _ _ _ _ _ _ _ _)
   | (with_reducible exact ih7 _ _ _ _ _ _ _ _ _ _ _)
   | (with_reducible exact ih8 _ _ _ _ _ _ _)
   | (with_reducible exact ih9 _ _ _ _ _ _ _ _ _ _ _)
   | (with_reducible exact class_Of.mono _ _ _)
   | (with_reducible exact object_Select.mono _ _ _ _ _)
   | (with_reducible exact quoinlaw13_awake.mono _)
   | (with_reducible exact LeO.refl _)
   | (with_reducible exact LeO.none _)
   | (with_reducible refine LeO.ite ?_ ?_)
   | (with_reducible refine LeO.bind ?_ (fun _ => ?_))
   | exact ih0 _ _ _ _
   | exact ih1 _ _ _ _ _ _ _ _ _
   | exact ih2 _ _
   | exact ih3 _ _ _ _ _
   | exact ih4 _ _ _ _ _
   | exact ih5 _ _ _ _ _ _
   | exact ih6 _ _ _ _ _ _ _ _ _
   | exact ih7 _ _ _ _ _ _ _ _ _ _ _
   | exact ih8 _ _ _ _ _ _ _
   | exact ih9 _ _ _ _ _ _ _ _ _ _ _
   | exact class_Of.mono _ _ _
   | exact object_Select.mono _ _ _ _ _
   | exact quoinlaw13_awake.mono _
   | exact LeO.none _
   | refine LeO.ite ?_ ?_
   | refine LeO.bind ?_ (fun _ => ?_)
  ·intro y0 y1 y2 y3 y4 y5 y6 y7 y8 y9 y10
   unfold quoinlaw13_ObjectRuns.l0
   repeat' first
   | (with_reducible exact ih0 _ _ _ _)
   | (with_reducible exact ih1 _ _ _ _ _ _ _ _ _)
   | (with_reducible exact ih2 _ _)
   | (with_reducible exact ih3 _ _ _ _ _)
   | (with_reducible exact ih4 _ _ _ _ _)
   | (with_reducible exact ih5 _ _ _ _ _ _)
   | (with_reducible exact ih6 _ _ _ _ _ _ _ _ _)
   | (with_reducible exact ih7 _ _ _ _ _ _ _ _ _ _ _)
   | (with_reducible exact ih8 _ _ _ _ _ _ _)
   | (with_reducible exact ih9 _ _ _ _ _ _ _ _ _ _ _)
   | (with_reducible exact class_Of.mono _ _ _)
   | (with_reducible exact object_Select.mono _ _ _ _ _)
   | (with_reducible exact quoinlaw13_awake.mono _)
   | (with_reducible exact LeO.refl _)
   | (with_reducible exact LeO.none _)
   | (with_reducible refine LeO.ite ?_ ?_)
   | (with_reducible refine LeO.bind ?_ (fun _ => ?_))
   | exact ih0 _ _ _ _
   | exact ih1 _ _ _ _ _ _ _ _ _
   | exact ih2 _ _
   | exact ih3 _ _ _ _ _
   | exact ih4 _ _ _ _ _
   | exact ih5 _ _ _ _ _ _
   | exact ih6 _ _ _ _ _ _ _ _ _
   | exact ih7 _ _ _ _ _ _ _ _ _ _ _
   | exact ih8 _ _ _ _ _ _ _
   | exact ih9 _ _ _ _ _ _ _ _ _ _ _
   | exact class_Of.mono _ _ _
   | exact object_Select.mono _ _ _ _ _
   | exact quoinlaw13_awake.mono _
   | exact LeO.none _
   | refine LeO.ite ?_ ?_
   | refine LeO.bind ?_ (fun _ => ?_)
  ·intro y0 y1 y2 y3 y4 y5 y6
   unfold quoinlaw13_ObjectRuns.j4
   repeat' first
   | (with_reducible exact ih0 _ _ _ _)
   | (with_reducible exact ih1 _ _ _ _ _ _ _ _ _)
   | (with_reducible exact ih2 _ _)
   | (with_reducible exact ih3 _ _ _ _ _)
   | (with_reducible exact ih4 _ _ _ _ _)
   | (with_reducible exact ih5 _ _ _ _ _ _)
   | (with_reducible exact ih6 _ _ _ _ _ _ _ _ _)
   | (with_reducible exact ih7 _ _ _ _ _ _ _ _ _ _ _)
   | (with_reducible exact ih8 _ _ _ _ _ _ _)
   | (with_reducible exact ih9 _ _ _ _ _ _ _ _ _ _ _)
   | (with_reducible exact class_Of.mono _ _ _)
   | (with_reducible exact object_Select.mono _ _ _ _ _)
   | (with_reducible exact quoinlaw13_awake.mono _)
   | (with_reducible exact LeO.refl _)
   | (with_reducible exact LeO.none _)
   | (with_reducible refine LeO.ite ?_ ?_)
   | (with_reducible refine LeO.bind ?_ (fun _ => ?_))
   | exact ih0 _ _ _ _
   | exact ih1 _ _ _ _ _ _ _ _ _
   | exact ih2 _ _
   | exact ih3 _ _ _ _ _
   | exact ih4 _ _ _ _ _
   | exact ih5 _ _ _ _ _ _
   | exact ih6 _ _ _ _ _ _ _ _ _
   | exact ih7 _ _ _ _ _ _ _ _ _ _ _
   | exact ih8 _ _ _ _ _ _ _
   | exact ih9 _ _ _ _ _ _ _ _ _ _ _
   | exact class_Of.mono _ _ _
   | exact object_Select.mono _ _ _ _ _
   | exact quoinlaw13_awake.mono _
   | exact LeO.none _
   | refine LeO.ite ?_ ?_
   | refine LeO.bind ?_ (fun _ => ?_)
  ·intro y0 y1 y2 y3 y4 y5 y6 y7 y8 y9 y10
   unfold quoinlaw13_ObjectRuns.j5
   repeat' first
   | (with_reducible exact ih0 _ _ _ _)
   | (with_reducible exact ih1 _ _ _ _ _ _ _ _ _)
   | (with_reducible exact ih2 _ _)
   | (with_reducible exact ih3 _ _ _ _ _)
   | (with_reducible exact ih4 _ _ _ _ _)
   | (with_reducible exact ih5 _ _ _ _ _ _)
   | (with_reducible exact ih6 _ _ _ _ _ _ _ _ _)
   | (with_reducible exact ih7 _ _ _ _ _ _ _ _ _ _ _)
   | (with_reducible exact ih8 _ _ _ _ _ _ _)
   | (with_reducible exact ih9 _ _ _ _ _ _ _ _ _ _ _)
   | (with_reducible exact class_Of.mono _ _ _)
   | (with_reducible exact object_Select.mono _ _ _ _ _)
   | (with_reducible exact quoinlaw13_awake.mono _)
   | (with_reducible exact LeO.refl _)
   | (with_reducible exact LeO.none _)
   | (with_reducible refine LeO.ite ?_ ?_)
   | (with_reducible refine LeO.bind ?_ (fun _ => ?_))
   | exact ih0 _ _ _ _
   | exact ih1 _ _ _ _ _ _ _ _ _
   | exact ih2 _ _
   | exact ih3 _ _ _ _ _
   | exact ih4 _ _ _ _ _
   | exact ih5 _ _ _ _ _ _
   | exact ih6 _ _ _ _ _ _ _ _ _
   | exact ih7 _ _ _ _ _ _ _ _ _ _ _
   | exact ih8 _ _ _ _ _ _ _
   | exact ih9 _ _ _ _ _ _ _ _ _ _ _
   | exact class_Of.mono _ _ _
   | exact object_Select.mono _ _ _ _ _
   | exact quoinlaw13_awake.mono _
   | exact LeO.none _
   | refine LeO.ite ?_ ?_
   | refine LeO.bind ?_ (fun _ => ?_)
theorem quoinlaw13_ObjectRuns.mono : ∀ a0 a1 a2 k, LeO (quoinlaw13_ObjectRuns.f k a0 a1 a2) (quoinlaw13_ObjectRuns.f (k + 1) a0 a1 a2) := by
 intro a0 a1 a2 k
 obtain ⟨ih0, ih1, ih2, ih3, ih4, ih5, ih6, ih7, ih8, ih9⟩ := quoinlaw13_ObjectRuns.mono_l k
 unfold quoinlaw13_ObjectRuns.f
 repeat' first
   | (with_reducible exact ih0 _ _ _ _)
   | (with_reducible exact ih1 _ _ _ _ _ _ _ _ _)
   | (with_reducible exact ih2 _ _)
   | (with_reducible exact ih3 _ _ _ _ _)
   | (with_reducible exact ih4 _ _ _ _ _)
   | (with_reducible exact ih5 _ _ _ _ _ _)
   | (with_reducible exact ih6 _ _ _ _ _ _ _ _ _)
   | (with_reducible exact ih7 _ _ _ _ _ _ _ _ _ _ _)
   | (with_reducible exact ih8 _ _ _ _ _ _ _)
   | (with_reducible exact ih9 _ _ _ _ _ _ _ _ _ _ _)
   | (with_reducible exact class_Of.mono _ _ _)
   | (with_reducible exact object_Select.mono _ _ _ _ _)
   | (with_reducible exact quoinlaw13_awake.mono _)
   | (with_reducible exact LeO.refl _)
   | (with_reducible exact LeO.none _)
   | (with_reducible refine LeO.ite ?_ ?_)
   | (with_reducible refine LeO.bind ?_ (fun _ => ?_))
   | exact ih0 _ _ _ _
   | exact ih1 _ _ _ _ _ _ _ _ _
   | exact ih2 _ _
   | exact ih3 _ _ _ _ _
   | exact ih4 _ _ _ _ _
   | exact ih5 _ _ _ _ _ _
   | exact ih6 _ _ _ _ _ _ _ _ _
   | exact ih7 _ _ _ _ _ _ _ _ _ _ _
   | exact ih8 _ _ _ _ _ _ _
   | exact ih9 _ _ _ _ _ _ _ _ _ _ _
   | exact class_Of.mono _ _ _
   | exact object_Select.mono _ _ _ _ _
   | exact quoinlaw13_awake.mono _
   | exact LeO.none _
   | refine LeO.ite ?_ ?_
   | refine LeO.bind ?_ (fun _ => ?_)

end Go.Proofs.YtcochbkdgjgaeaaDoor.X
end
