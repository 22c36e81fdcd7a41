/-
  Texts of one proof in one file (wip/bundle.py): X22, MV, X1.
  Conditions: none.
-/
import Derived.Test.YtofkcdnkbjpmmaaBPlaces1
import Derived.Test.YtofkcdnkbjpmmaaBPlaces4
import Derived.Test.YtofkcdnkbjpmmaaBPlaces5
import Derived.Test.YtofkcdnkbjpmmaaBPlaces2
import Derived.Test.YtofkcdnkbjpmmaaBPlaces3
section
-- Written by wip/xprint.py over the kit's print.py: the Lean function of each Go function, and the proof that the Go text comes to it.
namespace Go.Proofs.Ytofkcdnkbjpmmaa.X
open Go.RowKit Go.Proofs.YtofkcdnkbjpmmaaW.PrintWords Go.Proofs.YtofkcdnkbjpmmaaW.PrintLast Go.Proofs.YtofkcdnkbjpmmaaW.PrintMore
attribute [local go_sem] max2_int min2_int max_two min_two max_three min_three max_four min_four   -- for this text's walks alone
set_option linter.unusedVariables false
set_option linter.unusedSimpArgs false

/-! ### step_Move: function 10 -/
def step_Move.j0 : Nat → List Int → Int → Int → Int → ByteArray → Int → Bool → Option (Int × Int × Int × Int × Int)
  | 0, _, _, _, _, _, _, _ => none
  | k + 1, x0, x1, x2, x3, x4, x13, x43 => if x43 = true then (some (0, 0, 0, 0, 2)) else ((lines_Count.f x0).bind fun t253 => ((lines_Start.f k x0 x13).bind fun bt255 => ((lines_End.f k x0 x13).bind fun bt257 => ((step_walk_bytes.f k x0 x1 x2 (mx x3 1) (decide (x3 > 0)) x13 (wrap64 (t253 - 1)) bt255.1 bt257.1 x4).bind fun bt259 => (if bt259.2.2.2.2.2 = true then (some (bt259.1, bt259.2.1, bt259.2.2.1, bt259.2.2.2.1, bt259.2.2.2.2.1)) else ((step_walk_lines.f k x0 x1 x2 (mx x3 1) (decide (x3 > 0)) x13 (wrap64 (t253 - 1)) bt255.1 bt257.1 x4).bind fun bt266 => (if bt266.2.2.2.2.2 = true then (some (bt266.1, bt266.2.1, bt266.2.2.1, bt266.2.2.2.1, bt266.2.2.2.2.1)) else (some (0, 0, 0, 0, 2)))))))))
def step_Move.f (k : Nat) (l0 : List Int) (a1 : Int) (a2 : Int) (a3 : Int) (a4 : ByteArray) : Option (Int × Int × Int × Int × Int) := (lines_Of.f l0 a1).bind fun bt251 => (if bt251.2 = 0 then (if a2 < (-1) then (step_Move.j0 k l0 a1 a2 a3 a4 bt251.1 true) else (if a3 < 0 then (step_Move.j0 k l0 a1 a2 a3 a4 bt251.1 true) else (step_Move.j0 k l0 a1 a2 a3 a4 bt251.1 (decide (a3 > 9999))))) else (step_Move.j0 k l0 a1 a2 a3 a4 bt251.1 true))
theorem step_Move.mono_l : ∀ k, (∀ y0 y1 y2 y3 y4 y5 y6, LeO (step_Move.j0 k y0 y1 y2 y3 y4 y5 y6) (step_Move.j0 (k + 1) y0 y1 y2 y3 y4 y5 y6))
  | 0 => fun _ _ _ _ _ _ _ r h => by simp [step_Move.j0] at h
  | k + 1 => by
    have ih0 := step_Move.mono_l k
    · intro y0 y1 y2 y3 y4 y5 y6
      unfold step_Move.j0
      repeat' first
      | (with_reducible exact ih0 _ _ _ _ _ _ _)
      | (with_reducible exact lines_End.mono _ _ _)
      | (with_reducible exact lines_Start.mono _ _ _)
      | (with_reducible exact step_walk_bytes.mono _ _ _ _ _ _ _ _ _ _ _)
      | (with_reducible exact step_walk_lines.mono _ _ _ _ _ _ _ _ _ _ _)
      | (with_reducible exact LeO.refl _)
      | (with_reducible exact LeO.none _)
      | (with_reducible refine LeO.ite ?_ ?_)
      | (with_reducible refine LeO.bind ?_ (fun _ => ?_))
      | exact ih0 _ _ _ _ _ _ _
      | exact lines_End.mono _ _ _
      | exact lines_Start.mono _ _ _
      | exact step_walk_bytes.mono _ _ _ _ _ _ _ _ _ _ _
      | exact step_walk_lines.mono _ _ _ _ _ _ _ _ _ _ _
      | exact LeO.none _
      | refine LeO.ite ?_ ?_
      | refine LeO.bind ?_ (fun _ => ?_)
theorem step_Move.mono : ∀ a0 a1 a2 a3 a4 k, LeO (step_Move.f k a0 a1 a2 a3 a4) (step_Move.f (k + 1) a0 a1 a2 a3 a4) := by
  intro a0 a1 a2 a3 a4 k
  have ih0 := step_Move.mono_l k
  unfold step_Move.f
  repeat' first
      | (with_reducible exact ih0 _ _ _ _ _ _ _)
      | (with_reducible exact lines_End.mono _ _ _)
      | (with_reducible exact lines_Start.mono _ _ _)
      | (with_reducible exact step_walk_bytes.mono _ _ _ _ _ _ _ _ _ _ _)
      | (with_reducible exact step_walk_lines.mono _ _ _ _ _ _ _ _ _ _ _)
      | (with_reducible exact LeO.refl _)
      | (with_reducible exact LeO.none _)
      | (with_reducible refine LeO.ite ?_ ?_)
      | (with_reducible refine LeO.bind ?_ (fun _ => ?_))
      | exact ih0 _ _ _ _ _ _ _
      | exact lines_End.mono _ _ _
      | exact lines_Start.mono _ _ _
      | exact step_walk_bytes.mono _ _ _ _ _ _ _ _ _ _ _
      | exact step_walk_lines.mono _ _ _ _ _ _ _ _ _ _ _
      | exact LeO.none _
      | refine LeO.ite ?_ ?_
      | refine LeO.bind ?_ (fun _ => ?_)
set_option maxHeartbeats 8000000 in
set_option maxRecDepth 100000 in
theorem step_Move.calls (k : Nat) (A0 : Option Addr) (c0 : Nat) (l0 : List Int) (a1 : Int) (a2 : Int) (a3 : Int) (a4 : ByteArray) (r1 : Int) (r2 : Int) (r3 : Int) (r4 : Int) (r5 : Int) (w : World) (hr0 : Kd.C (Kd.int .u8) w A0 l0.length l0) (hc0 : l0.length ≤ c0) (h : step_Move.f k l0 a1 a2 a3 a4 = some (r1, r2, r3, r4, r5)) :
    Calls Try.prog 10 #[.slice A0 l0.length c0, .int .i64 a1, .int .i64 a2, .int .i64 a3, .string a4] w fun e w' => e = .returned (.tuple #[.agg #[.int .i64 r1, .int .i64 r2, .int .i64 r3], .int .i64 r4, .int .i64 r5]) ∧ Below w.heap.size w w' := by
  have hu29 := Try.underlying29
  have hu51 := Try.underlying51
  have HR0 := Aside0.mk hr0
  have HC0 := Aside0.mk hc0
  clear hr0 hc0
  have HB := Aside0.mk (Below.refl w.heap.size w)
  have H : ((lines_Of.f l0 a1).bind fun bt251 => (if bt251.2 = 0 then (if a2 < (-1) then (step_Move.j0 k l0 a1 a2 a3 a4 bt251.1 true) else (if a3 < 0 then (step_Move.j0 k l0 a1 a2 a3 a4 bt251.1 true) else (step_Move.j0 k l0 a1 a2 a3 a4 bt251.1 (decide (a3 > 9999))))) else (step_Move.j0 k l0 a1 a2 a3 a4 bt251.1 true))) = some (r1, r2, r3, r4, r5) := h
  clear h
  replace H := Option.bind_eq_some_iff.mp H
  obtain ⟨⟨t251, t252⟩, A60, H⟩ := H
  replace H : (if t252 = 0 then (if a2 < (-1) then (step_Move.j0 k l0 a1 a2 a3 a4 t251 true) else (if a3 < 0 then (step_Move.j0 k l0 a1 a2 a3 a4 t251 true) else (step_Move.j0 k l0 a1 a2 a3 a4 t251 (decide (a3 > 9999))))) else (step_Move.j0 k l0 a1 a2 a3 a4 t251 true)) = some (r1, r2, r3, r4, r5) := H
  have A6 := Aside0.mk A60
  clear A60
  have HC7 := Aside0.mk H
  clear H
  go_enter Try.func10, Try.ntmps10
  go_upto_region 2 with (first | ((with_reducible refine gate_dst (N := 10) rfl ?_); refine box_event ?hg (N := 10) ?hd (cs := #[.int .i64 0, .int .i64 0, .int .i64 0]) (t := 29) ?hr ?_; (case hd => rfl); (case hg => rfl); (case hr => first | (go_simp; done) | (go_simp; rfl)); intro gb250 hg w8 hbox hb; have n0_ := Aside0.mk (below_step (by repeat (first | (with_reducible first | exact HB.out | apply below_alloc | apply pw_below_drewN | apply below_drew1) | exact HB.out)) hb); have n1_ := Aside0.mk (hbox); have n2_ := Aside0.mk ((by rw [hg]; exact (below_size (by repeat (first | (with_reducible first | exact HB.out | apply below_alloc | apply pw_below_drewN | apply below_drew1) | exact HB.out))) : w.heap.size ≤ gb250)); have n3_ := Aside0.mk ((by rw [hg]; exact (below_size (by repeat (first | (with_reducible first | exact HB.out | apply below_alloc | apply pw_below_drewN | apply below_drew1) | exact HB.out))) : w.heap.size ≤ gb250)); clear HB; have HB := n0_; have BK250 := n1_; have GW250 := n2_; have GE250 := n3_; clear n0_ n1_ n2_ n3_; clear hb hbox hg) | ((with_reducible refine gate_callee (f := 13) rfl ?_); refine goesL_ (some 27) rfl rfl Try.func13 (by kernel_rfl) rfl #[.slice A0 l0.length c0, .int .i64 a1] rfl (by (try simp only [List.map_toArray, List.map_cons, List.map_nil]); first | done | rfl | (simp only [List.length_drop, List.length_take]; rfl)) ?_; (with_reducible refine (lines_Of.calls _ _ l0 a1 t251 t252 _ ?side1 ?side2 A6.out).mono ?_); (case side1 => repeat (first | exact (Kd.C_below HR0.out HB.out) | (with_reducible refine Kd.C_alloc ?_ _) | (with_reducible refine Kd.C_drewN ?_ _) | (with_reducible refine Kd.C_drew ?_))); (case side2 => exact HC0.out); rintro e w9 ⟨rfl, hb⟩; refine ⟨_, rfl, ?_⟩; have n0_ := Aside0.mk (blk_below (g := gb250) (o := .cells #[.int .i64 0, .int .i64 0, .int .i64 0] 29 (0, 0)) (by (with_reducible repeat (first | refine blk_drewN ?_ _ | refine blk_drew ?_ | refine blk_alloc ?_ _)); exact BK250.out) hb); have n1_ := Aside0.mk (below_step (by repeat (first | (with_reducible first | exact HB.out | apply below_alloc | apply pw_below_drewN | apply below_drew1 | refine below_set ?_ GE250.out) | exact HB.out)) hb); clear BK250; clear HB; have BK250 := n0_; have HB := n1_; clear n0_ n1_; (try clear hb); (try clear hb2); (try clear hk); (try clear hi)))
  (try simp only [Act.put, List.setIfInBounds_toArray, List.set_cons_zero, List.set_cons_succ])
  go_cut [43] (fun v43 wc => ∃ (kq : Nat) (x43_6 : Bool), v43 = .bool x43_6 ∧ Aside0 (step_Move.j0 kq l0 a1 a2 a3 a4 t251 x43_6 = some (r1, r2, r3, r4, r5)) ∧ Aside0 (kq ≤ k) ∧ Aside0 (wc.heap[gb250]? = some (.cells #[.int .i64 0, .int .i64 0, .int .i64 0] 29 (0, 0))) ∧ Aside0 (Below w.heap.size w wc))
  case first =>
    have H := HC7.out
    clear HC7
    by_cases c10 : t252 = 0
    · rw [if_pos c10] at H
      have c10b0 : (t252 == 0) = true := beq_iff_eq.mpr c10
      have c10b1 : (t252 != 0) = false := bne_eq_false_iff_eq.mpr c10
      clear c10
      (first | rw [c10b0] | (simp only [i64_w, i32_w]; rw [c10b0]) | skip)
      by_cases c11 : a2 < (-1)
      · rw [if_pos c11] at H
        have c11b0 : decide (a2 < (-1)) = true := decide_eq_true c11
        clear c11
        have H' := Aside0.mk H
        clear H
        go_wp2
        go_meet
        case rel => exact ⟨_, (true), (by first | rfl | (simp; done) | (simp [*]; done)), H', ⟨by first | omega | exact Nat.le_refl _⟩, ⟨by (with_reducible repeat (first | refine blk_drewN ?_ _ | refine blk_drew ?_ | refine blk_alloc ?_ _)); exact BK250.out⟩, ⟨by repeat (first | (with_reducible first | exact HB.out | apply below_alloc | apply pw_below_drewN | apply below_drew1 | refine below_set ?_ GE250.out) | exact HB.out)⟩⟩
      · rw [if_neg c11] at H
        have c11b0 : decide (a2 < (-1)) = false := decide_eq_false c11
        clear c11
        by_cases c12 : a3 < 0
        · rw [if_pos c12] at H
          have c12b0 : decide (a3 < 0) = true := decide_eq_true c12
          clear c12
          have H' := Aside0.mk H
          clear H
          go_wp2
          go_meet
          case rel => exact ⟨_, (true), (by first | rfl | (simp; done) | (simp [*]; done)), H', ⟨by first | omega | exact Nat.le_refl _⟩, ⟨by (with_reducible repeat (first | refine blk_drewN ?_ _ | refine blk_drew ?_ | refine blk_alloc ?_ _)); exact BK250.out⟩, ⟨by repeat (first | (with_reducible first | exact HB.out | apply below_alloc | apply pw_below_drewN | apply below_drew1 | refine below_set ?_ GE250.out) | exact HB.out)⟩⟩
        · rw [if_neg c12] at H
          have c12b0 : decide (a3 < 0) = false := decide_eq_false c12
          clear c12
          have H' := Aside0.mk H
          clear H
          go_wp2
          go_meet
          case rel => exact ⟨_, (decide (a3 > 9999)), (by first | rfl | (simp; done) | (simp [*]; done)), H', ⟨by first | omega | exact Nat.le_refl _⟩, ⟨by (with_reducible repeat (first | refine blk_drewN ?_ _ | refine blk_drew ?_ | refine blk_alloc ?_ _)); exact BK250.out⟩, ⟨by repeat (first | (with_reducible first | exact HB.out | apply below_alloc | apply pw_below_drewN | apply below_drew1 | refine below_set ?_ GE250.out) | exact HB.out)⟩⟩
    · rw [if_neg c10] at H
      have c10b0 : (t252 == 0) = false := beq_eq_false_iff_ne.mpr c10
      have c10b1 : (t252 != 0) = true := bne_iff_ne.mpr c10
      (first | rw [c10b0] | (simp only [i64_w, i32_w]; rw [c10b0]) | skip)
      have H' := Aside0.mk H
      clear H
      go_wp2
      go_meet
      case rel => exact ⟨_, (true), (by first | rfl | (simp; done) | (simp [*]; done)), H', ⟨by first | omega | exact Nat.le_refl _⟩, ⟨by (with_reducible repeat (first | refine blk_drewN ?_ _ | refine blk_drew ?_ | refine blk_alloc ?_ _)); exact BK250.out⟩, ⟨by repeat (first | (with_reducible first | exact HB.out | apply below_alloc | apply pw_below_drewN | apply below_drew1 | refine below_set ?_ GE250.out) | exact HB.out)⟩⟩
  case rest =>
    clear HC7
    try clear c1
    try clear p2
    try clear c10
    try clear c10b0
    try clear c10b1
    try clear c11
    try clear c11b0
    try clear c12
    try clear c12b0
    obtain ⟨kq, x43_6, rfl, HA, HJ6, BK250, HB⟩ := hcut
    cases kq with
    | zero => exact absurd HA.out (by simp [step_Move.j0])
    | succ kj6 =>
      have H := HA.out
      clear HA
      simp only [step_Move.j0] at H
      by_cases c13 : x43_6 = true
      · subst c13
        have H1 : (some (0, 0, 0, 0, 2)) = some (r1, r2, r3, r4, r5) := by rw [if_pos rfl] at H; exact H
        clear H
        have H := H1
        clear H1
        simp only [Option.some.injEq, Prod.mk.injEq] at H
        obtain ⟨rfl, rfl, rfl, rfl, rfl⟩ := H
        have hcz14_0 : wc.cell? ⟨gb250, 0, none⟩ = some (.int .i64 0) := (blk_cell BK250.out 0).trans rfl
        have hcz14_1 : wc.cell? ⟨gb250, 1, none⟩ = some (.int .i64 0) := (blk_cell BK250.out 1).trans rfl
        have hcz14_2 : wc.cell? ⟨gb250, 2, none⟩ = some (.int .i64 0) := (blk_cell BK250.out 2).trans rfl
        have hfz14_0 := blk_frozen BK250.out 0
        have hfz14_1 := blk_frozen BK250.out 1
        have hfz14_2 := blk_frozen BK250.out 2
        go_wp2
        refine bodyPost_ret (results_ctt rfl _ _ gb250 29 #[.int .i64 0, .int .i64 0, .int .i64 0] (0, 0) _ rfl (by (with_reducible repeat (first | refine blk_drewN ?_ _ | refine blk_drew ?_ | refine blk_alloc ?_ _)); refine blk_put (cs := #[.int .i64 0, .int .i64 0, .int .i64 0]) ?_ 2 _ rfl; (with_reducible repeat (first | refine blk_drewN ?_ _ | refine blk_drew ?_ | refine blk_alloc ?_ _)); refine blk_put (cs := #[.int .i64 0, .int .i64 0, .int .i64 0]) ?_ 1 _ rfl; (with_reducible repeat (first | refine blk_drewN ?_ _ | refine blk_drew ?_ | refine blk_alloc ?_ _)); refine blk_put (cs := #[.int .i64 0, .int .i64 0, .int .i64 0]) ?_ 0 _ rfl; (with_reducible repeat (first | refine blk_drewN ?_ _ | refine blk_drew ?_ | refine blk_alloc ?_ _)); exact BK250.out) Try.underlying29 rfl (by kernel_rfl)) rfl ?_
        exact ⟨by first | rfl | (simp [errW_none, errW_some] <;> rfl) | (simp [*, errW_none, errW_some] <;> rfl), by repeat (first | (with_reducible first | exact HB.out | apply below_alloc | apply pw_below_drewN | apply below_drew1 | refine below_set ?_ GE250.out) | exact HB.out)⟩
      · replace c13 := Bool.eq_false_iff.mpr c13
        subst c13
        have H1 : ((lines_Count.f l0).bind fun t253 => ((lines_Start.f kj6 l0 t251).bind fun bt255 => ((lines_End.f kj6 l0 t251).bind fun bt257 => ((step_walk_bytes.f kj6 l0 a1 a2 (mx a3 1) (decide (a3 > 0)) t251 (wrap64 (t253 - 1)) bt255.1 bt257.1 a4).bind fun bt259 => (if bt259.2.2.2.2.2 = true then (some (bt259.1, bt259.2.1, bt259.2.2.1, bt259.2.2.2.1, bt259.2.2.2.2.1)) else ((step_walk_lines.f kj6 l0 a1 a2 (mx a3 1) (decide (a3 > 0)) t251 (wrap64 (t253 - 1)) bt255.1 bt257.1 a4).bind fun bt266 => (if bt266.2.2.2.2.2 = true then (some (bt266.1, bt266.2.1, bt266.2.2.1, bt266.2.2.2.1, bt266.2.2.2.2.1)) else (some (0, 0, 0, 0, 2))))))))) = some (r1, r2, r3, r4, r5) := by rw [if_neg (show ¬ (false = true) by decide)] at H; exact H
        clear H
        have H := H1
        clear H1
        obtain ⟨ji15, hji15⟩ : ∃ j_ : Int, (mx a3 1) = j_ := ⟨_, rfl⟩
        replace H : ((lines_Count.f l0).bind fun t253 => ((lines_Start.f kj6 l0 t251).bind fun bt255 => ((lines_End.f kj6 l0 t251).bind fun bt257 => ((step_walk_bytes.f kj6 l0 a1 a2 (ji15) (decide (a3 > 0)) t251 (wrap64 (t253 - 1)) bt255.1 bt257.1 a4).bind fun bt259 => (if bt259.2.2.2.2.2 = true then (some (bt259.1, bt259.2.1, bt259.2.2.1, bt259.2.2.2.1, bt259.2.2.2.2.1)) else ((step_walk_lines.f kj6 l0 a1 a2 (ji15) (decide (a3 > 0)) t251 (wrap64 (t253 - 1)) bt255.1 bt257.1 a4).bind fun bt266 => (if bt266.2.2.2.2.2 = true then (some (bt266.1, bt266.2.1, bt266.2.2.1, bt266.2.2.2.1, bt266.2.2.2.2.1)) else (some (0, 0, 0, 0, 2))))))))) = some (r1, r2, r3, r4, r5) := by first | (rw [hji15] at H; exact H) | (simp only [hji15] at H ⊢; exact H)
        have hji15_ : (if a3 < 1 then 1 else a3) = ji15 := hji15
        replace H := Option.bind_eq_some_iff.mp H
        obtain ⟨t253, A160, H⟩ := H
        replace H : ((lines_Start.f kj6 l0 t251).bind fun bt255 => ((lines_End.f kj6 l0 t251).bind fun bt257 => ((step_walk_bytes.f kj6 l0 a1 a2 (ji15) (decide (a3 > 0)) t251 (wrap64 (t253 - 1)) bt255.1 bt257.1 a4).bind fun bt259 => (if bt259.2.2.2.2.2 = true then (some (bt259.1, bt259.2.1, bt259.2.2.1, bt259.2.2.2.1, bt259.2.2.2.2.1)) else ((step_walk_lines.f kj6 l0 a1 a2 (ji15) (decide (a3 > 0)) t251 (wrap64 (t253 - 1)) bt255.1 bt257.1 a4).bind fun bt266 => (if bt266.2.2.2.2.2 = true then (some (bt266.1, bt266.2.1, bt266.2.2.1, bt266.2.2.2.1, bt266.2.2.2.2.1)) else (some (0, 0, 0, 0, 2)))))))) = some (r1, r2, r3, r4, r5) := H
        have A16 := Aside0.mk A160
        clear A160
        replace H := Option.bind_eq_some_iff.mp H
        obtain ⟨⟨t255, t256⟩, A170, H⟩ := H
        replace H : ((lines_End.f kj6 l0 t251).bind fun bt257 => ((step_walk_bytes.f kj6 l0 a1 a2 (ji15) (decide (a3 > 0)) t251 (wrap64 (t253 - 1)) t255 bt257.1 a4).bind fun bt259 => (if bt259.2.2.2.2.2 = true then (some (bt259.1, bt259.2.1, bt259.2.2.1, bt259.2.2.2.1, bt259.2.2.2.2.1)) else ((step_walk_lines.f kj6 l0 a1 a2 (ji15) (decide (a3 > 0)) t251 (wrap64 (t253 - 1)) t255 bt257.1 a4).bind fun bt266 => (if bt266.2.2.2.2.2 = true then (some (bt266.1, bt266.2.1, bt266.2.2.1, bt266.2.2.2.1, bt266.2.2.2.2.1)) else (some (0, 0, 0, 0, 2))))))) = some (r1, r2, r3, r4, r5) := H
        have A17 := Aside0.mk A170
        clear A170
        replace H := Option.bind_eq_some_iff.mp H
        obtain ⟨⟨t257, t258⟩, A180, H⟩ := H
        replace H : ((step_walk_bytes.f kj6 l0 a1 a2 (ji15) (decide (a3 > 0)) t251 (wrap64 (t253 - 1)) t255 t257 a4).bind fun bt259 => (if bt259.2.2.2.2.2 = true then (some (bt259.1, bt259.2.1, bt259.2.2.1, bt259.2.2.2.1, bt259.2.2.2.2.1)) else ((step_walk_lines.f kj6 l0 a1 a2 (ji15) (decide (a3 > 0)) t251 (wrap64 (t253 - 1)) t255 t257 a4).bind fun bt266 => (if bt266.2.2.2.2.2 = true then (some (bt266.1, bt266.2.1, bt266.2.2.1, bt266.2.2.2.1, bt266.2.2.2.2.1)) else (some (0, 0, 0, 0, 2)))))) = some (r1, r2, r3, r4, r5) := H
        have A18 := Aside0.mk A180
        clear A180
        replace H := Option.bind_eq_some_iff.mp H
        obtain ⟨⟨t259, t260, t261, t262, t263, t264⟩, A190, H⟩ := H
        replace H : (if t264 = true then (some (t259, t260, t261, t262, t263)) else ((step_walk_lines.f kj6 l0 a1 a2 (ji15) (decide (a3 > 0)) t251 (wrap64 (t253 - 1)) t255 t257 a4).bind fun bt266 => (if bt266.2.2.2.2.2 = true then (some (bt266.1, bt266.2.1, bt266.2.2.1, bt266.2.2.2.1, bt266.2.2.2.2.1)) else (some (0, 0, 0, 0, 2))))) = some (r1, r2, r3, r4, r5) := H
        have A19 := Aside0.mk A190
        clear A190
        by_cases c20 : t264 = true
        · subst c20
          have H1 : (some (t259, t260, t261, t262, t263)) = some (r1, r2, r3, r4, r5) := by rw [if_pos rfl] at H; exact H
          clear H
          have H := H1
          clear H1
          simp only [Option.some.injEq, Prod.mk.injEq] at H
          obtain ⟨rfl, rfl, rfl, rfl, rfl⟩ := H
          go_wp2_with (first | ((with_reducible refine gate_callee (f := 14) rfl ?_); refine goesL_ (some 54) rfl rfl Try.func14 (by kernel_rfl) rfl #[.slice A0 l0.length c0] rfl (by (try simp only [List.map_toArray, List.map_cons, List.map_nil]); first | done | rfl | (simp only [List.length_drop, List.length_take]; rfl)) ?_; (with_reducible refine (lines_Count.calls _ _ l0 t253 _ ?side1 ?side2 A16.out).mono ?_); (case side1 => repeat (first | exact (Kd.C_below HR0.out HB.out) | (with_reducible refine Kd.C_alloc ?_ _) | (with_reducible refine Kd.C_drewN ?_ _) | (with_reducible refine Kd.C_drew ?_))); (case side2 => exact HC0.out); rintro e w21 ⟨rfl, hb⟩; refine ⟨_, rfl, ?_⟩; have n0_ := Aside0.mk (blk_below (g := gb250) (o := .cells #[.int .i64 0, .int .i64 0, .int .i64 0] 29 (0, 0)) (by (with_reducible repeat (first | refine blk_drewN ?_ _ | refine blk_drew ?_ | refine blk_alloc ?_ _)); exact BK250.out) hb); have n1_ := Aside0.mk (below_step (by repeat (first | (with_reducible first | exact HB.out | apply below_alloc | apply pw_below_drewN | apply below_drew1 | refine below_set ?_ GE250.out) | exact HB.out)) hb); clear BK250; clear HB; have BK250 := n0_; have HB := n1_; clear n0_ n1_; (try clear hb); (try clear hb2); (try clear hk); (try clear hi)) | ((with_reducible refine gate_dst (N := 15) rfl ?_); refine box_event ?hg (N := 15) ?hd (cs := #[.slice none 0 0, .int .i64 0, .int .i64 0, .int .i64 0, .bool false, .int .i64 0, .int .i64 0, .int .i64 0, .int .i64 0]) (t := 51) ?hr ?_; (case hd => rfl); (case hg => rfl); (case hr => first | (go_simp; done) | (go_simp; rfl)); intro gb254 hg w22 hbox hb; have n0_ := Aside0.mk (blk_below (g := gb250) (o := .cells #[.int .i64 0, .int .i64 0, .int .i64 0] 29 (0, 0)) (by (with_reducible repeat (first | refine blk_drewN ?_ _ | refine blk_drew ?_ | refine blk_alloc ?_ _)); exact BK250.out) hb); have n1_ := Aside0.mk (below_step (by repeat (first | (with_reducible first | exact HB.out | apply below_alloc | apply pw_below_drewN | apply below_drew1 | refine below_set ?_ GE250.out) | exact HB.out)) hb); have n2_ := Aside0.mk (hbox); have n3_ := Aside0.mk ((by rw [hg]; exact (below_size (by repeat (first | (with_reducible first | exact HB.out | apply below_alloc | apply pw_below_drewN | apply below_drew1 | refine below_set ?_ GE250.out) | exact HB.out))) : w.heap.size ≤ gb254)); have n4_ := Aside0.mk ((by rw [hg]; exact (below_size (by repeat (first | (with_reducible first | exact HB.out | apply below_alloc | apply pw_below_drewN | apply below_drew1 | refine below_set ?_ GE250.out) | exact HB.out))) : w.heap.size ≤ gb254)); have n5_ := Aside0.mk ((by rw [hg]; exact Nat.ne_of_lt (blk_lt (g := gb250) (o := .cells #[.int .i64 0, .int .i64 0, .int .i64 0] 29 (0, 0)) (by (with_reducible repeat (first | refine blk_drewN ?_ _ | refine blk_drew ?_ | refine blk_alloc ?_ _)); exact BK250.out)) : gb250 ≠ gb254)); have n6_ := Aside0.mk ((by rw [hg]; exact Nat.ne_of_gt (blk_lt (g := gb250) (o := .cells #[.int .i64 0, .int .i64 0, .int .i64 0] 29 (0, 0)) (by (with_reducible repeat (first | refine blk_drewN ?_ _ | refine blk_drew ?_ | refine blk_alloc ?_ _)); exact BK250.out)) : gb254 ≠ gb250)); clear BK250; clear HB; have BK250 := n0_; have HB := n1_; have BK254 := n2_; have GW254 := n3_; have GE254 := n4_; have NB250_254 := n5_; have NB254_250 := n6_; clear n0_ n1_ n2_ n3_ n4_ n5_ n6_; clear hb hbox hg; have hnb23 := NB254_250.out; have hnc23 := NB250_254.out; have hcz24_0 : w22.cell? ⟨gb254, 0, none⟩ = some (.slice none 0 0) := (blk_cell BK254.out 0).trans rfl; have hcz24_1 : w22.cell? ⟨gb254, 1, none⟩ = some (.int .i64 0) := (blk_cell BK254.out 1).trans rfl; have hcz24_2 : w22.cell? ⟨gb254, 2, none⟩ = some (.int .i64 0) := (blk_cell BK254.out 2).trans rfl; have hcz24_3 : w22.cell? ⟨gb254, 3, none⟩ = some (.int .i64 0) := (blk_cell BK254.out 3).trans rfl; have hcz24_4 : w22.cell? ⟨gb254, 4, none⟩ = some (.bool false) := (blk_cell BK254.out 4).trans rfl; have hcz24_5 : w22.cell? ⟨gb254, 5, none⟩ = some (.int .i64 0) := (blk_cell BK254.out 5).trans rfl; have hcz24_6 : w22.cell? ⟨gb254, 6, none⟩ = some (.int .i64 0) := (blk_cell BK254.out 6).trans rfl; have hcz24_7 : w22.cell? ⟨gb254, 7, none⟩ = some (.int .i64 0) := (blk_cell BK254.out 7).trans rfl; have hcz24_8 : w22.cell? ⟨gb254, 8, none⟩ = some (.int .i64 0) := (blk_cell BK254.out 8).trans rfl; have hfz24_0 := blk_frozen BK254.out 0; have hfz24_1 := blk_frozen BK254.out 1; have hfz24_2 := blk_frozen BK254.out 2; have hfz24_3 := blk_frozen BK254.out 3; have hfz24_4 := blk_frozen BK254.out 4; have hfz24_5 := blk_frozen BK254.out 5; have hfz24_6 := blk_frozen BK254.out 6; have hfz24_7 := blk_frozen BK254.out 7; have hfz24_8 := blk_frozen BK254.out 8) | ((with_reducible refine gate_callee (f := 28) rfl ?_); refine goesL_ (some 60) rfl rfl Try.func28 (by kernel_rfl) rfl #[.slice A0 l0.length c0, .int .i64 t251] rfl (by (try simp only [List.map_toArray, List.map_cons, List.map_nil]); first | done | rfl | (simp only [List.length_drop, List.length_take]; rfl)) ?_; (with_reducible refine (lines_Start.calls kj6 _ _ l0 t251 t255 t256 _ ?side1 ?side2 A17.out).mono ?_); (case side1 => exact Kd.C_below HR0.out (by repeat (first | (with_reducible first | exact HB.out | apply below_alloc | apply pw_below_drewN | apply below_drew1 | refine below_set ?_ GE250.out | refine below_set ?_ GE254.out) | exact HB.out))); (case side2 => exact HC0.out); rintro e wS ⟨rfl, hdr⟩; refine ⟨_, rfl, ?_⟩; have n2_ : Aside0 (wS.heap[gb254]? = some (.cells #[.slice A0 l0.length c0, .int .i64 a1, .int .i64 a2, .int .i64 ji15, .bool (decide (0 < a3)), .int .i64 t251, .int .i64 (wrap64 (t253 - 1)), .int .i64 0, .int .i64 0] 51 (0, 0))) := ⟨by obtain ⟨nd, rfl⟩ := hdr; (with_reducible repeat (first | refine blk_drewN ?_ _ | refine blk_drew ?_ | refine blk_alloc ?_ _)); refine blk_put (cs := #[.slice A0 l0.length c0, .int .i64 a1, .int .i64 a2, .int .i64 ji15, .bool (decide (0 < a3)), .int .i64 t251, .int .i64 (wrap64 (t253 - 1)), .int .i64 0, .int .i64 0]) ?_ 8 _ rfl; (with_reducible repeat (first | refine blk_drewN ?_ _ | refine blk_drew ?_ | refine blk_alloc ?_ _)); refine blk_put (cs := #[.slice A0 l0.length c0, .int .i64 a1, .int .i64 a2, .int .i64 ji15, .bool (decide (0 < a3)), .int .i64 t251, .int .i64 (wrap64 (t253 - 1)), .int .i64 0, .int .i64 0]) ?_ 7 _ rfl; (with_reducible repeat (first | refine blk_drewN ?_ _ | refine blk_drew ?_ | refine blk_alloc ?_ _)); refine blk_put (cs := #[.slice A0 l0.length c0, .int .i64 a1, .int .i64 a2, .int .i64 ji15, .bool (decide (0 < a3)), .int .i64 t251, .int .i64 0, .int .i64 0, .int .i64 0]) ?_ 6 _ rfl; (with_reducible repeat (first | refine blk_drewN ?_ _ | refine blk_drew ?_ | refine blk_alloc ?_ _)); refine blk_put (cs := #[.slice A0 l0.length c0, .int .i64 a1, .int .i64 a2, .int .i64 ji15, .bool (decide (0 < a3)), .int .i64 0, .int .i64 0, .int .i64 0, .int .i64 0]) ?_ 5 _ rfl; (with_reducible repeat (first | refine blk_drewN ?_ _ | refine blk_drew ?_ | refine blk_alloc ?_ _)); refine blk_put (cs := #[.slice A0 l0.length c0, .int .i64 a1, .int .i64 a2, .int .i64 ji15, .bool false, .int .i64 0, .int .i64 0, .int .i64 0, .int .i64 0]) ?_ 4 _ rfl; (with_reducible repeat (first | refine blk_drewN ?_ _ | refine blk_drew ?_ | refine blk_alloc ?_ _)); refine blk_put (cs := #[.slice A0 l0.length c0, .int .i64 a1, .int .i64 a2, .int .i64 0, .bool false, .int .i64 0, .int .i64 0, .int .i64 0, .int .i64 0]) ?_ 3 _ rfl; (with_reducible repeat (first | refine blk_drewN ?_ _ | refine blk_drew ?_ | refine blk_alloc ?_ _)); refine blk_put (cs := #[.slice A0 l0.length c0, .int .i64 a1, .int .i64 0, .int .i64 0, .bool false, .int .i64 0, .int .i64 0, .int .i64 0, .int .i64 0]) ?_ 2 _ rfl; (with_reducible repeat (first | refine blk_drewN ?_ _ | refine blk_drew ?_ | refine blk_alloc ?_ _)); refine blk_put (cs := #[.slice A0 l0.length c0, .int .i64 0, .int .i64 0, .int .i64 0, .bool false, .int .i64 0, .int .i64 0, .int .i64 0, .int .i64 0]) ?_ 1 _ rfl; (with_reducible repeat (first | refine blk_drewN ?_ _ | refine blk_drew ?_ | refine blk_alloc ?_ _)); refine blk_put (cs := #[.slice none 0 0, .int .i64 0, .int .i64 0, .int .i64 0, .bool false, .int .i64 0, .int .i64 0, .int .i64 0, .int .i64 0]) ?_ 0 _ rfl; (with_reducible repeat (first | refine blk_drewN ?_ _ | refine blk_drew ?_ | refine blk_alloc ?_ _)); exact BK254.out⟩; have n0_ : Aside0 (wS.heap[gb250]? = some (.cells #[.int .i64 0, .int .i64 0, .int .i64 0] 29 (0, 0))) := ⟨by obtain ⟨nd, rfl⟩ := hdr; repeat (first | (with_reducible first | exact BK250.out | refine blk_drewN ?_ _ | refine blk_drew ?_ | refine blk_alloc ?_ _) | refine blk_far ?_ NB250_254.out _)⟩; have n1_ : Aside0 (Below w.heap.size w wS) := ⟨by obtain ⟨nd, rfl⟩ := hdr; repeat (first | (with_reducible first | exact HB.out | apply below_alloc | apply pw_below_drewN | apply below_drew1 | refine below_set ?_ GE250.out | refine below_set ?_ GE254.out) | exact HB.out)⟩; clear BK250; clear HB; clear BK254; have BK250 := n0_; have HB := n1_; have BK254 := n2_; clear n0_ n1_ n2_; clear hdr; have hcz24_7 : wS.cell? ⟨gb254, 7, none⟩ = some (.int .i64 0) := (blk_cell BK254.out 7).trans rfl; have hfz24_7 := blk_frozen BK254.out 7) | ((with_reducible refine gate_callee (f := 19) rfl ?_); refine goesL_ (some 67) rfl rfl Try.func19 (by kernel_rfl) rfl #[.slice A0 l0.length c0, .int .i64 t251] rfl (by (try simp only [List.map_toArray, List.map_cons, List.map_nil]); first | done | rfl | (simp only [List.length_drop, List.length_take]; rfl)) ?_; (with_reducible refine (lines_End.calls kj6 _ _ l0 t251 t257 t258 _ ?side1 ?side2 A18.out).mono ?_); (case side1 => exact Kd.C_below HR0.out (by repeat (first | (with_reducible first | exact HB.out | apply below_alloc | apply pw_below_drewN | apply below_drew1 | refine below_set ?_ GE250.out | refine below_set ?_ GE254.out) | exact HB.out))); (case side2 => exact HC0.out); rintro e wE ⟨rfl, hdr⟩; refine ⟨_, rfl, ?_⟩; have n2_ : Aside0 (wE.heap[gb254]? = some (.cells #[.slice A0 l0.length c0, .int .i64 a1, .int .i64 a2, .int .i64 ji15, .bool (decide (0 < a3)), .int .i64 t251, .int .i64 (wrap64 (t253 - 1)), .int .i64 t255, .int .i64 0] 51 (0, 0))) := ⟨by obtain ⟨nd, rfl⟩ := hdr; (with_reducible repeat (first | refine blk_drewN ?_ _ | refine blk_drew ?_ | refine blk_alloc ?_ _)); refine blk_put (cs := #[.slice A0 l0.length c0, .int .i64 a1, .int .i64 a2, .int .i64 ji15, .bool (decide (0 < a3)), .int .i64 t251, .int .i64 (wrap64 (t253 - 1)), .int .i64 0, .int .i64 0]) ?_ 7 _ rfl; (with_reducible repeat (first | refine blk_drewN ?_ _ | refine blk_drew ?_ | refine blk_alloc ?_ _)); exact BK254.out⟩; have n0_ : Aside0 (wE.heap[gb250]? = some (.cells #[.int .i64 0, .int .i64 0, .int .i64 0] 29 (0, 0))) := ⟨by obtain ⟨nd, rfl⟩ := hdr; repeat (first | (with_reducible first | exact BK250.out | refine blk_drewN ?_ _ | refine blk_drew ?_ | refine blk_alloc ?_ _) | refine blk_far ?_ NB250_254.out _)⟩; have n1_ : Aside0 (Below w.heap.size w wE) := ⟨by obtain ⟨nd, rfl⟩ := hdr; repeat (first | (with_reducible first | exact HB.out | apply below_alloc | apply pw_below_drewN | apply below_drew1 | refine below_set ?_ GE250.out | refine below_set ?_ GE254.out) | exact HB.out)⟩; clear BK250; clear HB; clear BK254; have BK250 := n0_; have HB := n1_; have BK254 := n2_; clear n0_ n1_ n2_; clear hdr; have hcz24_0 : wE.cell? ⟨gb254, 0, none⟩ = some (.slice A0 l0.length c0) := (blk_cell BK254.out 0).trans rfl; have hcz24_1 : wE.cell? ⟨gb254, 1, none⟩ = some (.int .i64 a1) := (blk_cell BK254.out 1).trans rfl; have hcz24_2 : wE.cell? ⟨gb254, 2, none⟩ = some (.int .i64 a2) := (blk_cell BK254.out 2).trans rfl; have hcz24_3 : wE.cell? ⟨gb254, 3, none⟩ = some (.int .i64 ji15) := (blk_cell BK254.out 3).trans rfl; have hcz24_4 : wE.cell? ⟨gb254, 4, none⟩ = some (.bool (decide (0 < a3))) := (blk_cell BK254.out 4).trans rfl; have hcz24_5 : wE.cell? ⟨gb254, 5, none⟩ = some (.int .i64 t251) := (blk_cell BK254.out 5).trans rfl; have hcz24_6 : wE.cell? ⟨gb254, 6, none⟩ = some (.int .i64 (wrap64 (t253 - 1))) := (blk_cell BK254.out 6).trans rfl; have hcz24_7 : wE.cell? ⟨gb254, 7, none⟩ = some (.int .i64 t255) := (blk_cell BK254.out 7).trans rfl; have hcz24_8 : wE.cell? ⟨gb254, 8, none⟩ = some (.int .i64 0) := (blk_cell BK254.out 8).trans rfl; have hfz24_0 := blk_frozen BK254.out 0; have hfz24_1 := blk_frozen BK254.out 1; have hfz24_2 := blk_frozen BK254.out 2; have hfz24_3 := blk_frozen BK254.out 3; have hfz24_4 := blk_frozen BK254.out 4; have hfz24_5 := blk_frozen BK254.out 5; have hfz24_6 := blk_frozen BK254.out 6; have hfz24_7 := blk_frozen BK254.out 7; have hfz24_8 := blk_frozen BK254.out 8) | ((with_reducible refine gate_callee (f := 29) rfl ?_); refine goesL_ (some 74) rfl rfl Try.func29 (by kernel_rfl) rfl #[.agg #[.slice A0 l0.length c0, .int .i64 a1, .int .i64 a2, .int .i64 ji15, .bool (decide (a3 > 0)), .int .i64 t251, .int .i64 (wrap64 (t253 - 1)), .int .i64 t255, .int .i64 t257], .string a4] rfl (by (try simp only [List.map_toArray, List.map_cons, List.map_nil]); first | done | (simp only [hji15]; rfl) | rfl | (simp only [List.length_drop, List.length_take]; rfl)) ?_; (with_reducible refine (step_walk_bytes.calls kj6 _ _ l0 a1 a2 ji15 (decide (a3 > 0)) t251 (wrap64 (t253 - 1)) t255 t257 a4 t259 t260 t261 t262 t263 true _ ?side1 ?side2 A19.out).mono ?_); (case side1 => exact Kd.C_below HR0.out (by repeat (first | (with_reducible first | exact HB.out | apply below_alloc | apply pw_below_drewN | apply below_drew1 | refine below_set ?_ GE250.out | refine below_set ?_ GE254.out) | exact HB.out))); (case side2 => exact HC0.out); rintro e w25 ⟨rfl, hb⟩; refine ⟨_, rfl, ?_⟩; have n0_ := Aside0.mk (blk_below (g := gb250) (o := .cells #[.int .i64 0, .int .i64 0, .int .i64 0] 29 (0, 0)) (by repeat (first | (with_reducible first | exact BK250.out | refine blk_drewN ?_ _ | refine blk_drew ?_ | refine blk_alloc ?_ _) | refine blk_far ?_ NB250_254.out _)) hb); have n1_ := Aside0.mk (blk_below (g := gb254) (o := .cells #[.slice A0 l0.length c0, .int .i64 a1, .int .i64 a2, .int .i64 ji15, .bool (decide (a3 > 0)), .int .i64 t251, .int .i64 (wrap64 (t253 - 1)), .int .i64 t255, .int .i64 t257] 51 (0, 0)) (by refine blk_put (cs := #[.slice A0 l0.length c0, .int .i64 a1, .int .i64 a2, .int .i64 ji15, .bool (decide (0 < a3)), .int .i64 t251, .int .i64 (wrap64 (t253 - 1)), .int .i64 t255, .int .i64 0]) ?_ 8 _ rfl; exact BK254.out) hb); have n2_ := Aside0.mk (below_step (by repeat (first | (with_reducible first | exact HB.out | apply below_alloc | apply pw_below_drewN | apply below_drew1 | refine below_set ?_ GE250.out | refine below_set ?_ GE254.out) | exact HB.out)) hb); clear BK250; clear BK254; clear HB; have BK250 := n0_; have BK254 := n1_; have HB := n2_; clear n0_ n1_ n2_; (try clear hb); (try clear hb2); (try clear hk); (try clear hi)) | ((with_reducible refine gate_dst (N := 16) rfl ?_); refine box_event ?hg (N := 16) ?hd (cs := #[.int .i64 0, .int .i64 0, .int .i64 0]) (t := 29) ?hr ?_; (case hd => rfl); (case hg => rfl); (case hr => first | (go_simp; done) | (go_simp; rfl)); intro gb265 hg w26 hbox hb; have n0_ := Aside0.mk (blk_below (g := gb250) (o := .cells #[.int .i64 0, .int .i64 0, .int .i64 0] 29 (0, 0)) (by (with_reducible repeat (first | refine blk_drewN ?_ _ | refine blk_drew ?_ | refine blk_alloc ?_ _)); exact BK250.out) hb); have n1_ := Aside0.mk (blk_below (g := gb254) (o := .cells #[.slice A0 l0.length c0, .int .i64 a1, .int .i64 a2, .int .i64 ji15, .bool (decide (a3 > 0)), .int .i64 t251, .int .i64 (wrap64 (t253 - 1)), .int .i64 t255, .int .i64 t257] 51 (0, 0)) (by (with_reducible repeat (first | refine blk_drewN ?_ _ | refine blk_drew ?_ | refine blk_alloc ?_ _)); exact BK254.out) hb); have n2_ := Aside0.mk (below_step (by repeat (first | (with_reducible first | exact HB.out | apply below_alloc | apply pw_below_drewN | apply below_drew1 | refine below_set ?_ GE250.out | refine below_set ?_ GE254.out) | exact HB.out)) hb); have n3_ := Aside0.mk (hbox); have n4_ := Aside0.mk ((by rw [hg]; exact (below_size (by repeat (first | (with_reducible first | exact HB.out | apply below_alloc | apply pw_below_drewN | apply below_drew1 | refine below_set ?_ GE250.out | refine below_set ?_ GE254.out) | exact HB.out))) : w.heap.size ≤ gb265)); have n5_ := Aside0.mk ((by rw [hg]; exact (below_size (by repeat (first | (with_reducible first | exact HB.out | apply below_alloc | apply pw_below_drewN | apply below_drew1 | refine below_set ?_ GE250.out | refine below_set ?_ GE254.out) | exact HB.out))) : w.heap.size ≤ gb265)); have n6_ := Aside0.mk ((by rw [hg]; exact Nat.ne_of_lt (blk_lt (g := gb250) (o := .cells #[.int .i64 0, .int .i64 0, .int .i64 0] 29 (0, 0)) (by (with_reducible repeat (first | refine blk_drewN ?_ _ | refine blk_drew ?_ | refine blk_alloc ?_ _)); exact BK250.out)) : gb250 ≠ gb265)); have n7_ := Aside0.mk ((by rw [hg]; exact Nat.ne_of_gt (blk_lt (g := gb250) (o := .cells #[.int .i64 0, .int .i64 0, .int .i64 0] 29 (0, 0)) (by (with_reducible repeat (first | refine blk_drewN ?_ _ | refine blk_drew ?_ | refine blk_alloc ?_ _)); exact BK250.out)) : gb265 ≠ gb250)); have n8_ := Aside0.mk ((by rw [hg]; exact Nat.ne_of_lt (blk_lt (g := gb254) (o := .cells #[.slice A0 l0.length c0, .int .i64 a1, .int .i64 a2, .int .i64 ji15, .bool (decide (a3 > 0)), .int .i64 t251, .int .i64 (wrap64 (t253 - 1)), .int .i64 t255, .int .i64 t257] 51 (0, 0)) (by (with_reducible repeat (first | refine blk_drewN ?_ _ | refine blk_drew ?_ | refine blk_alloc ?_ _)); exact BK254.out)) : gb254 ≠ gb265)); have n9_ := Aside0.mk ((by rw [hg]; exact Nat.ne_of_gt (blk_lt (g := gb254) (o := .cells #[.slice A0 l0.length c0, .int .i64 a1, .int .i64 a2, .int .i64 ji15, .bool (decide (a3 > 0)), .int .i64 t251, .int .i64 (wrap64 (t253 - 1)), .int .i64 t255, .int .i64 t257] 51 (0, 0)) (by (with_reducible repeat (first | refine blk_drewN ?_ _ | refine blk_drew ?_ | refine blk_alloc ?_ _)); exact BK254.out)) : gb265 ≠ gb254)); clear BK250; clear BK254; clear HB; have BK250 := n0_; have BK254 := n1_; have HB := n2_; have BK265 := n3_; have GW265 := n4_; have GE265 := n5_; have NB250_265 := n6_; have NB265_250 := n7_; have NB254_265 := n8_; have NB265_254 := n9_; clear n0_ n1_ n2_ n3_ n4_ n5_ n6_ n7_ n8_ n9_; clear hb hbox hg; have hnb27 := NB265_250.out; have hnc27 := NB250_265.out; have hnb28 := NB265_254.out; have hnc28 := NB254_265.out; have hcz29_0 : w26.cell? ⟨gb265, 0, none⟩ = some (.int .i64 0) := (blk_cell BK265.out 0).trans rfl; have hcz29_1 : w26.cell? ⟨gb265, 1, none⟩ = some (.int .i64 0) := (blk_cell BK265.out 1).trans rfl; have hcz29_2 : w26.cell? ⟨gb265, 2, none⟩ = some (.int .i64 0) := (blk_cell BK265.out 2).trans rfl; have hfz29_0 := blk_frozen BK265.out 0; have hfz29_1 := blk_frozen BK265.out 1; have hfz29_2 := blk_frozen BK265.out 2; have hcz30_0 : w26.cell? ⟨gb250, 0, none⟩ = some (.int .i64 0) := (blk_cell BK250.out 0).trans rfl; have hcz30_1 : w26.cell? ⟨gb250, 1, none⟩ = some (.int .i64 0) := (blk_cell BK250.out 1).trans rfl; have hcz30_2 : w26.cell? ⟨gb250, 2, none⟩ = some (.int .i64 0) := (blk_cell BK250.out 2).trans rfl; have hfz30_0 := blk_frozen BK250.out 0; have hfz30_1 := blk_frozen BK250.out 1; have hfz30_2 := blk_frozen BK250.out 2))
          refine bodyPost_ret (results_ctt rfl _ _ gb250 29 #[.int .i64 t259, .int .i64 t260, .int .i64 t261] (0, 0) _ rfl (by (with_reducible repeat (first | refine blk_drewN ?_ _ | refine blk_drew ?_ | refine blk_alloc ?_ _)); refine blk_put (cs := #[.int .i64 t259, .int .i64 t260, .int .i64 0]) ?_ 2 _ rfl; (with_reducible repeat (first | refine blk_drewN ?_ _ | refine blk_drew ?_ | refine blk_alloc ?_ _)); refine blk_put (cs := #[.int .i64 t259, .int .i64 0, .int .i64 0]) ?_ 1 _ rfl; (with_reducible repeat (first | refine blk_drewN ?_ _ | refine blk_drew ?_ | refine blk_alloc ?_ _)); refine blk_put (cs := #[.int .i64 0, .int .i64 0, .int .i64 0]) ?_ 0 _ rfl; (with_reducible repeat (first | refine blk_drewN ?_ _ | refine blk_drew ?_ | refine blk_alloc ?_ _)); refine blk_far ?_ NB250_265.out _; (with_reducible repeat (first | refine blk_drewN ?_ _ | refine blk_drew ?_ | refine blk_alloc ?_ _)); refine blk_far ?_ NB250_265.out _; (with_reducible repeat (first | refine blk_drewN ?_ _ | refine blk_drew ?_ | refine blk_alloc ?_ _)); refine blk_far ?_ NB250_265.out _; (with_reducible repeat (first | refine blk_drewN ?_ _ | refine blk_drew ?_ | refine blk_alloc ?_ _)); exact BK250.out) Try.underlying29 rfl (by kernel_rfl)) rfl ?_
          exact ⟨by first | rfl | (simp [errW_none, errW_some] <;> rfl) | (simp only [← hji15]; first | rfl | (simp [errW_none, errW_some] <;> rfl)) | (simp [*, errW_none, errW_some] <;> rfl), by repeat (first | (with_reducible first | exact HB.out | apply below_alloc | apply pw_below_drewN | apply below_drew1 | refine below_set ?_ GE250.out | refine below_set ?_ GE254.out | refine below_set ?_ GE265.out) | exact HB.out)⟩
        · replace c20 := Bool.eq_false_iff.mpr c20
          subst c20
          have H1 : ((step_walk_lines.f kj6 l0 a1 a2 (ji15) (decide (a3 > 0)) t251 (wrap64 (t253 - 1)) t255 t257 a4).bind fun bt266 => (if bt266.2.2.2.2.2 = true then (some (bt266.1, bt266.2.1, bt266.2.2.1, bt266.2.2.2.1, bt266.2.2.2.2.1)) else (some (0, 0, 0, 0, 2)))) = some (r1, r2, r3, r4, r5) := by rw [if_neg (show ¬ (false = true) by decide)] at H; exact H
          clear H
          have H := H1
          clear H1
          replace H := Option.bind_eq_some_iff.mp H
          obtain ⟨⟨t266, t267, t268, t269, t270, t271⟩, A310, H⟩ := H
          replace H : (if t271 = true then (some (t266, t267, t268, t269, t270)) else (some (0, 0, 0, 0, 2))) = some (r1, r2, r3, r4, r5) := H
          have A31 := Aside0.mk A310
          clear A310
          by_cases c32 : t271 = true
          · subst c32
            have H1 : (some (t266, t267, t268, t269, t270)) = some (r1, r2, r3, r4, r5) := by rw [if_pos rfl] at H; exact H
            clear H
            have H := H1
            clear H1
            simp only [Option.some.injEq, Prod.mk.injEq] at H
            obtain ⟨rfl, rfl, rfl, rfl, rfl⟩ := H
            go_wp2_with (first | ((with_reducible refine gate_callee (f := 14) rfl ?_); refine goesL_ (some 54) rfl rfl Try.func14 (by kernel_rfl) rfl #[.slice A0 l0.length c0] rfl (by (try simp only [List.map_toArray, List.map_cons, List.map_nil]); first | done | rfl | (simp only [List.length_drop, List.length_take]; rfl)) ?_; (with_reducible refine (lines_Count.calls _ _ l0 t253 _ ?side1 ?side2 A16.out).mono ?_); (case side1 => repeat (first | exact (Kd.C_below HR0.out HB.out) | (with_reducible refine Kd.C_alloc ?_ _) | (with_reducible refine Kd.C_drewN ?_ _) | (with_reducible refine Kd.C_drew ?_))); (case side2 => exact HC0.out); rintro e w33 ⟨rfl, hb⟩; refine ⟨_, rfl, ?_⟩; have n0_ := Aside0.mk (blk_below (g := gb250) (o := .cells #[.int .i64 0, .int .i64 0, .int .i64 0] 29 (0, 0)) (by (with_reducible repeat (first | refine blk_drewN ?_ _ | refine blk_drew ?_ | refine blk_alloc ?_ _)); exact BK250.out) hb); have n1_ := Aside0.mk (below_step (by repeat (first | (with_reducible first | exact HB.out | apply below_alloc | apply pw_below_drewN | apply below_drew1 | refine below_set ?_ GE250.out) | exact HB.out)) hb); clear BK250; clear HB; have BK250 := n0_; have HB := n1_; clear n0_ n1_; (try clear hb); (try clear hb2); (try clear hk); (try clear hi)) | ((with_reducible refine gate_dst (N := 15) rfl ?_); refine box_event ?hg (N := 15) ?hd (cs := #[.slice none 0 0, .int .i64 0, .int .i64 0, .int .i64 0, .bool false, .int .i64 0, .int .i64 0, .int .i64 0, .int .i64 0]) (t := 51) ?hr ?_; (case hd => rfl); (case hg => rfl); (case hr => first | (go_simp; done) | (go_simp; rfl)); intro gb254 hg w34 hbox hb; have n0_ := Aside0.mk (blk_below (g := gb250) (o := .cells #[.int .i64 0, .int .i64 0, .int .i64 0] 29 (0, 0)) (by (with_reducible repeat (first | refine blk_drewN ?_ _ | refine blk_drew ?_ | refine blk_alloc ?_ _)); exact BK250.out) hb); have n1_ := Aside0.mk (below_step (by repeat (first | (with_reducible first | exact HB.out | apply below_alloc | apply pw_below_drewN | apply below_drew1 | refine below_set ?_ GE250.out) | exact HB.out)) hb); have n2_ := Aside0.mk (hbox); have n3_ := Aside0.mk ((by rw [hg]; exact (below_size (by repeat (first | (with_reducible first | exact HB.out | apply below_alloc | apply pw_below_drewN | apply below_drew1 | refine below_set ?_ GE250.out) | exact HB.out))) : w.heap.size ≤ gb254)); have n4_ := Aside0.mk ((by rw [hg]; exact (below_size (by repeat (first | (with_reducible first | exact HB.out | apply below_alloc | apply pw_below_drewN | apply below_drew1 | refine below_set ?_ GE250.out) | exact HB.out))) : w.heap.size ≤ gb254)); have n5_ := Aside0.mk ((by rw [hg]; exact Nat.ne_of_lt (blk_lt (g := gb250) (o := .cells #[.int .i64 0, .int .i64 0, .int .i64 0] 29 (0, 0)) (by (with_reducible repeat (first | refine blk_drewN ?_ _ | refine blk_drew ?_ | refine blk_alloc ?_ _)); exact BK250.out)) : gb250 ≠ gb254)); have n6_ := Aside0.mk ((by rw [hg]; exact Nat.ne_of_gt (blk_lt (g := gb250) (o := .cells #[.int .i64 0, .int .i64 0, .int .i64 0] 29 (0, 0)) (by (with_reducible repeat (first | refine blk_drewN ?_ _ | refine blk_drew ?_ | refine blk_alloc ?_ _)); exact BK250.out)) : gb254 ≠ gb250)); clear BK250; clear HB; have BK250 := n0_; have HB := n1_; have BK254 := n2_; have GW254 := n3_; have GE254 := n4_; have NB250_254 := n5_; have NB254_250 := n6_; clear n0_ n1_ n2_ n3_ n4_ n5_ n6_; clear hb hbox hg; have hnb35 := NB254_250.out; have hnc35 := NB250_254.out; have hcz36_0 : w34.cell? ⟨gb254, 0, none⟩ = some (.slice none 0 0) := (blk_cell BK254.out 0).trans rfl; have hcz36_1 : w34.cell? ⟨gb254, 1, none⟩ = some (.int .i64 0) := (blk_cell BK254.out 1).trans rfl; have hcz36_2 : w34.cell? ⟨gb254, 2, none⟩ = some (.int .i64 0) := (blk_cell BK254.out 2).trans rfl; have hcz36_3 : w34.cell? ⟨gb254, 3, none⟩ = some (.int .i64 0) := (blk_cell BK254.out 3).trans rfl; have hcz36_4 : w34.cell? ⟨gb254, 4, none⟩ = some (.bool false) := (blk_cell BK254.out 4).trans rfl; have hcz36_5 : w34.cell? ⟨gb254, 5, none⟩ = some (.int .i64 0) := (blk_cell BK254.out 5).trans rfl; have hcz36_6 : w34.cell? ⟨gb254, 6, none⟩ = some (.int .i64 0) := (blk_cell BK254.out 6).trans rfl; have hcz36_7 : w34.cell? ⟨gb254, 7, none⟩ = some (.int .i64 0) := (blk_cell BK254.out 7).trans rfl; have hcz36_8 : w34.cell? ⟨gb254, 8, none⟩ = some (.int .i64 0) := (blk_cell BK254.out 8).trans rfl; have hfz36_0 := blk_frozen BK254.out 0; have hfz36_1 := blk_frozen BK254.out 1; have hfz36_2 := blk_frozen BK254.out 2; have hfz36_3 := blk_frozen BK254.out 3; have hfz36_4 := blk_frozen BK254.out 4; have hfz36_5 := blk_frozen BK254.out 5; have hfz36_6 := blk_frozen BK254.out 6; have hfz36_7 := blk_frozen BK254.out 7; have hfz36_8 := blk_frozen BK254.out 8) | ((with_reducible refine gate_callee (f := 28) rfl ?_); refine goesL_ (some 60) rfl rfl Try.func28 (by kernel_rfl) rfl #[.slice A0 l0.length c0, .int .i64 t251] rfl (by (try simp only [List.map_toArray, List.map_cons, List.map_nil]); first | done | rfl | (simp only [List.length_drop, List.length_take]; rfl)) ?_; (with_reducible refine (lines_Start.calls kj6 _ _ l0 t251 t255 t256 _ ?side1 ?side2 A17.out).mono ?_); (case side1 => exact Kd.C_below HR0.out (by repeat (first | (with_reducible first | exact HB.out | apply below_alloc | apply pw_below_drewN | apply below_drew1 | refine below_set ?_ GE250.out | refine below_set ?_ GE254.out) | exact HB.out))); (case side2 => exact HC0.out); rintro e wS ⟨rfl, hdr⟩; refine ⟨_, rfl, ?_⟩; have n2_ : Aside0 (wS.heap[gb254]? = some (.cells #[.slice A0 l0.length c0, .int .i64 a1, .int .i64 a2, .int .i64 ji15, .bool (decide (0 < a3)), .int .i64 t251, .int .i64 (wrap64 (t253 - 1)), .int .i64 0, .int .i64 0] 51 (0, 0))) := ⟨by obtain ⟨nd, rfl⟩ := hdr; (with_reducible repeat (first | refine blk_drewN ?_ _ | refine blk_drew ?_ | refine blk_alloc ?_ _)); refine blk_put (cs := #[.slice A0 l0.length c0, .int .i64 a1, .int .i64 a2, .int .i64 ji15, .bool (decide (0 < a3)), .int .i64 t251, .int .i64 (wrap64 (t253 - 1)), .int .i64 0, .int .i64 0]) ?_ 8 _ rfl; (with_reducible repeat (first | refine blk_drewN ?_ _ | refine blk_drew ?_ | refine blk_alloc ?_ _)); refine blk_put (cs := #[.slice A0 l0.length c0, .int .i64 a1, .int .i64 a2, .int .i64 ji15, .bool (decide (0 < a3)), .int .i64 t251, .int .i64 (wrap64 (t253 - 1)), .int .i64 0, .int .i64 0]) ?_ 7 _ rfl; (with_reducible repeat (first | refine blk_drewN ?_ _ | refine blk_drew ?_ | refine blk_alloc ?_ _)); refine blk_put (cs := #[.slice A0 l0.length c0, .int .i64 a1, .int .i64 a2, .int .i64 ji15, .bool (decide (0 < a3)), .int .i64 t251, .int .i64 0, .int .i64 0, .int .i64 0]) ?_ 6 _ rfl; (with_reducible repeat (first | refine blk_drewN ?_ _ | refine blk_drew ?_ | refine blk_alloc ?_ _)); refine blk_put (cs := #[.slice A0 l0.length c0, .int .i64 a1, .int .i64 a2, .int .i64 ji15, .bool (decide (0 < a3)), .int .i64 0, .int .i64 0, .int .i64 0, .int .i64 0]) ?_ 5 _ rfl; (with_reducible repeat (first | refine blk_drewN ?_ _ | refine blk_drew ?_ | refine blk_alloc ?_ _)); refine blk_put (cs := #[.slice A0 l0.length c0, .int .i64 a1, .int .i64 a2, .int .i64 ji15, .bool false, .int .i64 0, .int .i64 0, .int .i64 0, .int .i64 0]) ?_ 4 _ rfl; (with_reducible repeat (first | refine blk_drewN ?_ _ | refine blk_drew ?_ | refine blk_alloc ?_ _)); refine blk_put (cs := #[.slice A0 l0.length c0, .int .i64 a1, .int .i64 a2, .int .i64 0, .bool false, .int .i64 0, .int .i64 0, .int .i64 0, .int .i64 0]) ?_ 3 _ rfl; (with_reducible repeat (first | refine blk_drewN ?_ _ | refine blk_drew ?_ | refine blk_alloc ?_ _)); refine blk_put (cs := #[.slice A0 l0.length c0, .int .i64 a1, .int .i64 0, .int .i64 0, .bool false, .int .i64 0, .int .i64 0, .int .i64 0, .int .i64 0]) ?_ 2 _ rfl; (with_reducible repeat (first | refine blk_drewN ?_ _ | refine blk_drew ?_ | refine blk_alloc ?_ _)); refine blk_put (cs := #[.slice A0 l0.length c0, .int .i64 0, .int .i64 0, .int .i64 0, .bool false, .int .i64 0, .int .i64 0, .int .i64 0, .int .i64 0]) ?_ 1 _ rfl; (with_reducible repeat (first | refine blk_drewN ?_ _ | refine blk_drew ?_ | refine blk_alloc ?_ _)); refine blk_put (cs := #[.slice none 0 0, .int .i64 0, .int .i64 0, .int .i64 0, .bool false, .int .i64 0, .int .i64 0, .int .i64 0, .int .i64 0]) ?_ 0 _ rfl; (with_reducible repeat (first | refine blk_drewN ?_ _ | refine blk_drew ?_ | refine blk_alloc ?_ _)); exact BK254.out⟩; have n0_ : Aside0 (wS.heap[gb250]? = some (.cells #[.int .i64 0, .int .i64 0, .int .i64 0] 29 (0, 0))) := ⟨by obtain ⟨nd, rfl⟩ := hdr; repeat (first | (with_reducible first | exact BK250.out | refine blk_drewN ?_ _ | refine blk_drew ?_ | refine blk_alloc ?_ _) | refine blk_far ?_ NB250_254.out _)⟩; have n1_ : Aside0 (Below w.heap.size w wS) := ⟨by obtain ⟨nd, rfl⟩ := hdr; repeat (first | (with_reducible first | exact HB.out | apply below_alloc | apply pw_below_drewN | apply below_drew1 | refine below_set ?_ GE250.out | refine below_set ?_ GE254.out) | exact HB.out)⟩; clear BK250; clear HB; clear BK254; have BK250 := n0_; have HB := n1_; have BK254 := n2_; clear n0_ n1_ n2_; clear hdr; have hcz24_7 : wS.cell? ⟨gb254, 7, none⟩ = some (.int .i64 0) := (blk_cell BK254.out 7).trans rfl; have hfz24_7 := blk_frozen BK254.out 7) | ((with_reducible refine gate_callee (f := 19) rfl ?_); refine goesL_ (some 67) rfl rfl Try.func19 (by kernel_rfl) rfl #[.slice A0 l0.length c0, .int .i64 t251] rfl (by (try simp only [List.map_toArray, List.map_cons, List.map_nil]); first | done | rfl | (simp only [List.length_drop, List.length_take]; rfl)) ?_; (with_reducible refine (lines_End.calls kj6 _ _ l0 t251 t257 t258 _ ?side1 ?side2 A18.out).mono ?_); (case side1 => exact Kd.C_below HR0.out (by repeat (first | (with_reducible first | exact HB.out | apply below_alloc | apply pw_below_drewN | apply below_drew1 | refine below_set ?_ GE250.out | refine below_set ?_ GE254.out) | exact HB.out))); (case side2 => exact HC0.out); rintro e wE ⟨rfl, hdr⟩; refine ⟨_, rfl, ?_⟩; have n2_ : Aside0 (wE.heap[gb254]? = some (.cells #[.slice A0 l0.length c0, .int .i64 a1, .int .i64 a2, .int .i64 ji15, .bool (decide (0 < a3)), .int .i64 t251, .int .i64 (wrap64 (t253 - 1)), .int .i64 t255, .int .i64 0] 51 (0, 0))) := ⟨by obtain ⟨nd, rfl⟩ := hdr; (with_reducible repeat (first | refine blk_drewN ?_ _ | refine blk_drew ?_ | refine blk_alloc ?_ _)); refine blk_put (cs := #[.slice A0 l0.length c0, .int .i64 a1, .int .i64 a2, .int .i64 ji15, .bool (decide (0 < a3)), .int .i64 t251, .int .i64 (wrap64 (t253 - 1)), .int .i64 0, .int .i64 0]) ?_ 7 _ rfl; (with_reducible repeat (first | refine blk_drewN ?_ _ | refine blk_drew ?_ | refine blk_alloc ?_ _)); exact BK254.out⟩; have n0_ : Aside0 (wE.heap[gb250]? = some (.cells #[.int .i64 0, .int .i64 0, .int .i64 0] 29 (0, 0))) := ⟨by obtain ⟨nd, rfl⟩ := hdr; repeat (first | (with_reducible first | exact BK250.out | refine blk_drewN ?_ _ | refine blk_drew ?_ | refine blk_alloc ?_ _) | refine blk_far ?_ NB250_254.out _)⟩; have n1_ : Aside0 (Below w.heap.size w wE) := ⟨by obtain ⟨nd, rfl⟩ := hdr; repeat (first | (with_reducible first | exact HB.out | apply below_alloc | apply pw_below_drewN | apply below_drew1 | refine below_set ?_ GE250.out | refine below_set ?_ GE254.out) | exact HB.out)⟩; clear BK250; clear HB; clear BK254; have BK250 := n0_; have HB := n1_; have BK254 := n2_; clear n0_ n1_ n2_; clear hdr; have hcz24_0 : wE.cell? ⟨gb254, 0, none⟩ = some (.slice A0 l0.length c0) := (blk_cell BK254.out 0).trans rfl; have hcz24_1 : wE.cell? ⟨gb254, 1, none⟩ = some (.int .i64 a1) := (blk_cell BK254.out 1).trans rfl; have hcz24_2 : wE.cell? ⟨gb254, 2, none⟩ = some (.int .i64 a2) := (blk_cell BK254.out 2).trans rfl; have hcz24_3 : wE.cell? ⟨gb254, 3, none⟩ = some (.int .i64 ji15) := (blk_cell BK254.out 3).trans rfl; have hcz24_4 : wE.cell? ⟨gb254, 4, none⟩ = some (.bool (decide (0 < a3))) := (blk_cell BK254.out 4).trans rfl; have hcz24_5 : wE.cell? ⟨gb254, 5, none⟩ = some (.int .i64 t251) := (blk_cell BK254.out 5).trans rfl; have hcz24_6 : wE.cell? ⟨gb254, 6, none⟩ = some (.int .i64 (wrap64 (t253 - 1))) := (blk_cell BK254.out 6).trans rfl; have hcz24_7 : wE.cell? ⟨gb254, 7, none⟩ = some (.int .i64 t255) := (blk_cell BK254.out 7).trans rfl; have hcz24_8 : wE.cell? ⟨gb254, 8, none⟩ = some (.int .i64 0) := (blk_cell BK254.out 8).trans rfl; have hfz24_0 := blk_frozen BK254.out 0; have hfz24_1 := blk_frozen BK254.out 1; have hfz24_2 := blk_frozen BK254.out 2; have hfz24_3 := blk_frozen BK254.out 3; have hfz24_4 := blk_frozen BK254.out 4; have hfz24_5 := blk_frozen BK254.out 5; have hfz24_6 := blk_frozen BK254.out 6; have hfz24_7 := blk_frozen BK254.out 7; have hfz24_8 := blk_frozen BK254.out 8) | ((with_reducible refine gate_callee (f := 29) rfl ?_); refine goesL_ (some 74) rfl rfl Try.func29 (by kernel_rfl) rfl #[.agg #[.slice A0 l0.length c0, .int .i64 a1, .int .i64 a2, .int .i64 ji15, .bool (decide (a3 > 0)), .int .i64 t251, .int .i64 (wrap64 (t253 - 1)), .int .i64 t255, .int .i64 t257], .string a4] rfl (by (try simp only [List.map_toArray, List.map_cons, List.map_nil]); first | done | (simp only [hji15]; rfl) | rfl | (simp only [List.length_drop, List.length_take]; rfl)) ?_; (with_reducible refine (step_walk_bytes.calls kj6 _ _ l0 a1 a2 ji15 (decide (a3 > 0)) t251 (wrap64 (t253 - 1)) t255 t257 a4 t259 t260 t261 t262 t263 false _ ?side1 ?side2 A19.out).mono ?_); (case side1 => exact Kd.C_below HR0.out (by repeat (first | (with_reducible first | exact HB.out | apply below_alloc | apply pw_below_drewN | apply below_drew1 | refine below_set ?_ GE250.out | refine below_set ?_ GE254.out) | exact HB.out))); (case side2 => exact HC0.out); rintro e w37 ⟨rfl, hb⟩; refine ⟨_, rfl, ?_⟩; have n0_ := Aside0.mk (blk_below (g := gb250) (o := .cells #[.int .i64 0, .int .i64 0, .int .i64 0] 29 (0, 0)) (by repeat (first | (with_reducible first | exact BK250.out | refine blk_drewN ?_ _ | refine blk_drew ?_ | refine blk_alloc ?_ _) | refine blk_far ?_ NB250_254.out _)) hb); have n1_ := Aside0.mk (blk_below (g := gb254) (o := .cells #[.slice A0 l0.length c0, .int .i64 a1, .int .i64 a2, .int .i64 ji15, .bool (decide (a3 > 0)), .int .i64 t251, .int .i64 (wrap64 (t253 - 1)), .int .i64 t255, .int .i64 t257] 51 (0, 0)) (by refine blk_put (cs := #[.slice A0 l0.length c0, .int .i64 a1, .int .i64 a2, .int .i64 ji15, .bool (decide (0 < a3)), .int .i64 t251, .int .i64 (wrap64 (t253 - 1)), .int .i64 t255, .int .i64 0]) ?_ 8 _ rfl; exact BK254.out) hb); have n2_ := Aside0.mk (below_step (by repeat (first | (with_reducible first | exact HB.out | apply below_alloc | apply pw_below_drewN | apply below_drew1 | refine below_set ?_ GE250.out | refine below_set ?_ GE254.out) | exact HB.out)) hb); clear BK250; clear BK254; clear HB; have BK250 := n0_; have BK254 := n1_; have HB := n2_; clear n0_ n1_ n2_; (try clear hb); (try clear hb2); (try clear hk); (try clear hi)) | ((with_reducible refine gate_dst (N := 16) rfl ?_); refine box_event ?hg (N := 16) ?hd (cs := #[.int .i64 0, .int .i64 0, .int .i64 0]) (t := 29) ?hr ?_; (case hd => rfl); (case hg => rfl); (case hr => first | (go_simp; done) | (go_simp; rfl)); intro gb265 hg w38 hbox hb; have n0_ := Aside0.mk (blk_below (g := gb250) (o := .cells #[.int .i64 0, .int .i64 0, .int .i64 0] 29 (0, 0)) (by (with_reducible repeat (first | refine blk_drewN ?_ _ | refine blk_drew ?_ | refine blk_alloc ?_ _)); exact BK250.out) hb); have n1_ := Aside0.mk (blk_below (g := gb254) (o := .cells #[.slice A0 l0.length c0, .int .i64 a1, .int .i64 a2, .int .i64 ji15, .bool (decide (a3 > 0)), .int .i64 t251, .int .i64 (wrap64 (t253 - 1)), .int .i64 t255, .int .i64 t257] 51 (0, 0)) (by (with_reducible repeat (first | refine blk_drewN ?_ _ | refine blk_drew ?_ | refine blk_alloc ?_ _)); exact BK254.out) hb); have n2_ := Aside0.mk (below_step (by repeat (first | (with_reducible first | exact HB.out | apply below_alloc | apply pw_below_drewN | apply below_drew1 | refine below_set ?_ GE250.out | refine below_set ?_ GE254.out) | exact HB.out)) hb); have n3_ := Aside0.mk (hbox); have n4_ := Aside0.mk ((by rw [hg]; exact (below_size (by repeat (first | (with_reducible first | exact HB.out | apply below_alloc | apply pw_below_drewN | apply below_drew1 | refine below_set ?_ GE250.out | refine below_set ?_ GE254.out) | exact HB.out))) : w.heap.size ≤ gb265)); have n5_ := Aside0.mk ((by rw [hg]; exact (below_size (by repeat (first | (with_reducible first | exact HB.out | apply below_alloc | apply pw_below_drewN | apply below_drew1 | refine below_set ?_ GE250.out | refine below_set ?_ GE254.out) | exact HB.out))) : w.heap.size ≤ gb265)); have n6_ := Aside0.mk ((by rw [hg]; exact Nat.ne_of_lt (blk_lt (g := gb250) (o := .cells #[.int .i64 0, .int .i64 0, .int .i64 0] 29 (0, 0)) (by (with_reducible repeat (first | refine blk_drewN ?_ _ | refine blk_drew ?_ | refine blk_alloc ?_ _)); exact BK250.out)) : gb250 ≠ gb265)); have n7_ := Aside0.mk ((by rw [hg]; exact Nat.ne_of_gt (blk_lt (g := gb250) (o := .cells #[.int .i64 0, .int .i64 0, .int .i64 0] 29 (0, 0)) (by (with_reducible repeat (first | refine blk_drewN ?_ _ | refine blk_drew ?_ | refine blk_alloc ?_ _)); exact BK250.out)) : gb265 ≠ gb250)); have n8_ := Aside0.mk ((by rw [hg]; exact Nat.ne_of_lt (blk_lt (g := gb254) (o := .cells #[.slice A0 l0.length c0, .int .i64 a1, .int .i64 a2, .int .i64 ji15, .bool (decide (a3 > 0)), .int .i64 t251, .int .i64 (wrap64 (t253 - 1)), .int .i64 t255, .int .i64 t257] 51 (0, 0)) (by (with_reducible repeat (first | refine blk_drewN ?_ _ | refine blk_drew ?_ | refine blk_alloc ?_ _)); exact BK254.out)) : gb254 ≠ gb265)); have n9_ := Aside0.mk ((by rw [hg]; exact Nat.ne_of_gt (blk_lt (g := gb254) (o := .cells #[.slice A0 l0.length c0, .int .i64 a1, .int .i64 a2, .int .i64 ji15, .bool (decide (a3 > 0)), .int .i64 t251, .int .i64 (wrap64 (t253 - 1)), .int .i64 t255, .int .i64 t257] 51 (0, 0)) (by (with_reducible repeat (first | refine blk_drewN ?_ _ | refine blk_drew ?_ | refine blk_alloc ?_ _)); exact BK254.out)) : gb265 ≠ gb254)); clear BK250; clear BK254; clear HB; have BK250 := n0_; have BK254 := n1_; have HB := n2_; have BK265 := n3_; have GW265 := n4_; have GE265 := n5_; have NB250_265 := n6_; have NB265_250 := n7_; have NB254_265 := n8_; have NB265_254 := n9_; clear n0_ n1_ n2_ n3_ n4_ n5_ n6_ n7_ n8_ n9_; clear hb hbox hg; have hnb39 := NB265_250.out; have hnc39 := NB250_265.out; have hnb40 := NB265_254.out; have hnc40 := NB254_265.out; have hcz41_0 : w38.cell? ⟨gb265, 0, none⟩ = some (.int .i64 0) := (blk_cell BK265.out 0).trans rfl; have hcz41_1 : w38.cell? ⟨gb265, 1, none⟩ = some (.int .i64 0) := (blk_cell BK265.out 1).trans rfl; have hcz41_2 : w38.cell? ⟨gb265, 2, none⟩ = some (.int .i64 0) := (blk_cell BK265.out 2).trans rfl; have hfz41_0 := blk_frozen BK265.out 0; have hfz41_1 := blk_frozen BK265.out 1; have hfz41_2 := blk_frozen BK265.out 2; have hcz42_0 : w38.cell? ⟨gb254, 0, none⟩ = some (.slice A0 l0.length c0) := (blk_cell BK254.out 0).trans rfl; have hcz42_1 : w38.cell? ⟨gb254, 1, none⟩ = some (.int .i64 a1) := (blk_cell BK254.out 1).trans rfl; have hcz42_2 : w38.cell? ⟨gb254, 2, none⟩ = some (.int .i64 a2) := (blk_cell BK254.out 2).trans rfl; have hcz42_3 : w38.cell? ⟨gb254, 3, none⟩ = some (.int .i64 ji15) := (blk_cell BK254.out 3).trans rfl; have hcz42_4 : w38.cell? ⟨gb254, 4, none⟩ = some (.bool (decide (a3 > 0))) := (blk_cell BK254.out 4).trans rfl; have hcz42_5 : w38.cell? ⟨gb254, 5, none⟩ = some (.int .i64 t251) := (blk_cell BK254.out 5).trans rfl; have hcz42_6 : w38.cell? ⟨gb254, 6, none⟩ = some (.int .i64 (wrap64 (t253 - 1))) := (blk_cell BK254.out 6).trans rfl; have hcz42_7 : w38.cell? ⟨gb254, 7, none⟩ = some (.int .i64 t255) := (blk_cell BK254.out 7).trans rfl; have hcz42_8 : w38.cell? ⟨gb254, 8, none⟩ = some (.int .i64 t257) := (blk_cell BK254.out 8).trans rfl; have hfz42_0 := blk_frozen BK254.out 0; have hfz42_1 := blk_frozen BK254.out 1; have hfz42_2 := blk_frozen BK254.out 2; have hfz42_3 := blk_frozen BK254.out 3; have hfz42_4 := blk_frozen BK254.out 4; have hfz42_5 := blk_frozen BK254.out 5; have hfz42_6 := blk_frozen BK254.out 6; have hfz42_7 := blk_frozen BK254.out 7; have hfz42_8 := blk_frozen BK254.out 8) | ((with_reducible refine gate_callee (f := 30) rfl ?_); refine goesL_ (some 86) rfl rfl Try.func30 (by kernel_rfl) rfl #[.agg #[.slice A0 l0.length c0, .int .i64 a1, .int .i64 a2, .int .i64 ji15, .bool (decide (a3 > 0)), .int .i64 t251, .int .i64 (wrap64 (t253 - 1)), .int .i64 t255, .int .i64 t257], .string a4] rfl (by (try simp only [List.map_toArray, List.map_cons, List.map_nil]); first | done | (simp only [hji15]; rfl) | rfl | (simp only [List.length_drop, List.length_take]; rfl)) ?_; (with_reducible refine (step_walk_lines.calls kj6 _ _ l0 a1 a2 ji15 (decide (a3 > 0)) t251 (wrap64 (t253 - 1)) t255 t257 a4 t266 t267 t268 t269 t270 true _ ?side1 ?side2 A31.out).mono ?_); (case side1 => exact Kd.C_below HR0.out (by repeat (first | (with_reducible first | exact HB.out | apply below_alloc | apply pw_below_drewN | apply below_drew1 | refine below_set ?_ GE250.out | refine below_set ?_ GE254.out | refine below_set ?_ GE265.out) | exact HB.out))); (case side2 => exact HC0.out); rintro e w43 ⟨rfl, hb⟩; refine ⟨_, rfl, ?_⟩; have n0_ := Aside0.mk (blk_below (g := gb250) (o := .cells #[.int .i64 0, .int .i64 0, .int .i64 0] 29 (0, 0)) (by (with_reducible repeat (first | refine blk_drewN ?_ _ | refine blk_drew ?_ | refine blk_alloc ?_ _)); refine blk_far ?_ NB250_265.out _; (with_reducible repeat (first | refine blk_drewN ?_ _ | refine blk_drew ?_ | refine blk_alloc ?_ _)); refine blk_far ?_ NB250_265.out _; (with_reducible repeat (first | refine blk_drewN ?_ _ | refine blk_drew ?_ | refine blk_alloc ?_ _)); refine blk_far ?_ NB250_265.out _; (with_reducible repeat (first | refine blk_drewN ?_ _ | refine blk_drew ?_ | refine blk_alloc ?_ _)); exact BK250.out) hb); have n1_ := Aside0.mk (blk_below (g := gb254) (o := .cells #[.slice A0 l0.length c0, .int .i64 a1, .int .i64 a2, .int .i64 ji15, .bool (decide (a3 > 0)), .int .i64 t251, .int .i64 (wrap64 (t253 - 1)), .int .i64 t255, .int .i64 t257] 51 (0, 0)) (by (with_reducible repeat (first | refine blk_drewN ?_ _ | refine blk_drew ?_ | refine blk_alloc ?_ _)); refine blk_far ?_ NB254_265.out _; (with_reducible repeat (first | refine blk_drewN ?_ _ | refine blk_drew ?_ | refine blk_alloc ?_ _)); refine blk_far ?_ NB254_265.out _; (with_reducible repeat (first | refine blk_drewN ?_ _ | refine blk_drew ?_ | refine blk_alloc ?_ _)); refine blk_far ?_ NB254_265.out _; (with_reducible repeat (first | refine blk_drewN ?_ _ | refine blk_drew ?_ | refine blk_alloc ?_ _)); exact BK254.out) hb); have n2_ := Aside0.mk (blk_below (g := gb265) (o := .cells #[.int .i64 t259, .int .i64 t260, .int .i64 t261] 29 (0, 0)) (by (with_reducible repeat (first | refine blk_drewN ?_ _ | refine blk_drew ?_ | refine blk_alloc ?_ _)); refine blk_put (cs := #[.int .i64 t259, .int .i64 t260, .int .i64 0]) ?_ 2 _ rfl; (with_reducible repeat (first | refine blk_drewN ?_ _ | refine blk_drew ?_ | refine blk_alloc ?_ _)); refine blk_put (cs := #[.int .i64 t259, .int .i64 0, .int .i64 0]) ?_ 1 _ rfl; (with_reducible repeat (first | refine blk_drewN ?_ _ | refine blk_drew ?_ | refine blk_alloc ?_ _)); refine blk_put (cs := #[.int .i64 0, .int .i64 0, .int .i64 0]) ?_ 0 _ rfl; (with_reducible repeat (first | refine blk_drewN ?_ _ | refine blk_drew ?_ | refine blk_alloc ?_ _)); exact BK265.out) hb); have n3_ := Aside0.mk (below_step (by repeat (first | (with_reducible first | exact HB.out | apply below_alloc | apply pw_below_drewN | apply below_drew1 | refine below_set ?_ GE250.out | refine below_set ?_ GE254.out | refine below_set ?_ GE265.out) | exact HB.out)) hb); clear BK250; clear BK254; clear BK265; clear HB; have BK250 := n0_; have BK254 := n1_; have BK265 := n2_; have HB := n3_; clear n0_ n1_ n2_ n3_; (try clear hb); (try clear hb2); (try clear hk); (try clear hi)) | ((with_reducible refine gate_dst (N := 20) rfl ?_); refine box_event ?hg (N := 20) ?hd (cs := #[.int .i64 0, .int .i64 0, .int .i64 0]) (t := 29) ?hr ?_; (case hd => rfl); (case hg => rfl); (case hr => first | (go_simp; done) | (go_simp; rfl)); intro gb272 hg w44 hbox hb; have n0_ := Aside0.mk (blk_below (g := gb250) (o := .cells #[.int .i64 0, .int .i64 0, .int .i64 0] 29 (0, 0)) (by (with_reducible repeat (first | refine blk_drewN ?_ _ | refine blk_drew ?_ | refine blk_alloc ?_ _)); exact BK250.out) hb); have n1_ := Aside0.mk (blk_below (g := gb254) (o := .cells #[.slice A0 l0.length c0, .int .i64 a1, .int .i64 a2, .int .i64 ji15, .bool (decide (a3 > 0)), .int .i64 t251, .int .i64 (wrap64 (t253 - 1)), .int .i64 t255, .int .i64 t257] 51 (0, 0)) (by (with_reducible repeat (first | refine blk_drewN ?_ _ | refine blk_drew ?_ | refine blk_alloc ?_ _)); exact BK254.out) hb); have n2_ := Aside0.mk (blk_below (g := gb265) (o := .cells #[.int .i64 t259, .int .i64 t260, .int .i64 t261] 29 (0, 0)) (by (with_reducible repeat (first | refine blk_drewN ?_ _ | refine blk_drew ?_ | refine blk_alloc ?_ _)); exact BK265.out) hb); have n3_ := Aside0.mk (below_step (by repeat (first | (with_reducible first | exact HB.out | apply below_alloc | apply pw_below_drewN | apply below_drew1 | refine below_set ?_ GE250.out | refine below_set ?_ GE254.out | refine below_set ?_ GE265.out) | exact HB.out)) hb); have n4_ := Aside0.mk (hbox); have n5_ := Aside0.mk ((by rw [hg]; exact (below_size (by repeat (first | (with_reducible first | exact HB.out | apply below_alloc | apply pw_below_drewN | apply below_drew1 | refine below_set ?_ GE250.out | refine below_set ?_ GE254.out | refine below_set ?_ GE265.out) | exact HB.out))) : w.heap.size ≤ gb272)); have n6_ := Aside0.mk ((by rw [hg]; exact (below_size (by repeat (first | (with_reducible first | exact HB.out | apply below_alloc | apply pw_below_drewN | apply below_drew1 | refine below_set ?_ GE250.out | refine below_set ?_ GE254.out | refine below_set ?_ GE265.out) | exact HB.out))) : w.heap.size ≤ gb272)); have n7_ := Aside0.mk ((by rw [hg]; exact Nat.ne_of_lt (blk_lt (g := gb250) (o := .cells #[.int .i64 0, .int .i64 0, .int .i64 0] 29 (0, 0)) (by (with_reducible repeat (first | refine blk_drewN ?_ _ | refine blk_drew ?_ | refine blk_alloc ?_ _)); exact BK250.out)) : gb250 ≠ gb272)); have n8_ := Aside0.mk ((by rw [hg]; exact Nat.ne_of_gt (blk_lt (g := gb250) (o := .cells #[.int .i64 0, .int .i64 0, .int .i64 0] 29 (0, 0)) (by (with_reducible repeat (first | refine blk_drewN ?_ _ | refine blk_drew ?_ | refine blk_alloc ?_ _)); exact BK250.out)) : gb272 ≠ gb250)); have n9_ := Aside0.mk ((by rw [hg]; exact Nat.ne_of_lt (blk_lt (g := gb254) (o := .cells #[.slice A0 l0.length c0, .int .i64 a1, .int .i64 a2, .int .i64 ji15, .bool (decide (a3 > 0)), .int .i64 t251, .int .i64 (wrap64 (t253 - 1)), .int .i64 t255, .int .i64 t257] 51 (0, 0)) (by (with_reducible repeat (first | refine blk_drewN ?_ _ | refine blk_drew ?_ | refine blk_alloc ?_ _)); exact BK254.out)) : gb254 ≠ gb272)); have n10_ := Aside0.mk ((by rw [hg]; exact Nat.ne_of_gt (blk_lt (g := gb254) (o := .cells #[.slice A0 l0.length c0, .int .i64 a1, .int .i64 a2, .int .i64 ji15, .bool (decide (a3 > 0)), .int .i64 t251, .int .i64 (wrap64 (t253 - 1)), .int .i64 t255, .int .i64 t257] 51 (0, 0)) (by (with_reducible repeat (first | refine blk_drewN ?_ _ | refine blk_drew ?_ | refine blk_alloc ?_ _)); exact BK254.out)) : gb272 ≠ gb254)); have n11_ := Aside0.mk ((by rw [hg]; exact Nat.ne_of_lt (blk_lt (g := gb265) (o := .cells #[.int .i64 t259, .int .i64 t260, .int .i64 t261] 29 (0, 0)) (by (with_reducible repeat (first | refine blk_drewN ?_ _ | refine blk_drew ?_ | refine blk_alloc ?_ _)); exact BK265.out)) : gb265 ≠ gb272)); have n12_ := Aside0.mk ((by rw [hg]; exact Nat.ne_of_gt (blk_lt (g := gb265) (o := .cells #[.int .i64 t259, .int .i64 t260, .int .i64 t261] 29 (0, 0)) (by (with_reducible repeat (first | refine blk_drewN ?_ _ | refine blk_drew ?_ | refine blk_alloc ?_ _)); exact BK265.out)) : gb272 ≠ gb265)); clear BK250; clear BK254; clear BK265; clear HB; have BK250 := n0_; have BK254 := n1_; have BK265 := n2_; have HB := n3_; have BK272 := n4_; have GW272 := n5_; have GE272 := n6_; have NB250_272 := n7_; have NB272_250 := n8_; have NB254_272 := n9_; have NB272_254 := n10_; have NB265_272 := n11_; have NB272_265 := n12_; clear n0_ n1_ n2_ n3_ n4_ n5_ n6_ n7_ n8_ n9_ n10_ n11_ n12_; clear hb hbox hg; have hnb45 := NB272_250.out; have hnc45 := NB250_272.out; have hnb46 := NB272_254.out; have hnc46 := NB254_272.out; have hnb47 := NB272_265.out; have hnc47 := NB265_272.out; have hcz48_0 : w44.cell? ⟨gb272, 0, none⟩ = some (.int .i64 0) := (blk_cell BK272.out 0).trans rfl; have hcz48_1 : w44.cell? ⟨gb272, 1, none⟩ = some (.int .i64 0) := (blk_cell BK272.out 1).trans rfl; have hcz48_2 : w44.cell? ⟨gb272, 2, none⟩ = some (.int .i64 0) := (blk_cell BK272.out 2).trans rfl; have hfz48_0 := blk_frozen BK272.out 0; have hfz48_1 := blk_frozen BK272.out 1; have hfz48_2 := blk_frozen BK272.out 2; have hcz49_0 : w44.cell? ⟨gb250, 0, none⟩ = some (.int .i64 0) := (blk_cell BK250.out 0).trans rfl; have hcz49_1 : w44.cell? ⟨gb250, 1, none⟩ = some (.int .i64 0) := (blk_cell BK250.out 1).trans rfl; have hcz49_2 : w44.cell? ⟨gb250, 2, none⟩ = some (.int .i64 0) := (blk_cell BK250.out 2).trans rfl; have hfz49_0 := blk_frozen BK250.out 0; have hfz49_1 := blk_frozen BK250.out 1; have hfz49_2 := blk_frozen BK250.out 2))
            refine bodyPost_ret (results_ctt rfl _ _ gb250 29 #[.int .i64 t266, .int .i64 t267, .int .i64 t268] (0, 0) _ rfl (by (with_reducible repeat (first | refine blk_drewN ?_ _ | refine blk_drew ?_ | refine blk_alloc ?_ _)); refine blk_put (cs := #[.int .i64 t266, .int .i64 t267, .int .i64 0]) ?_ 2 _ rfl; (with_reducible repeat (first | refine blk_drewN ?_ _ | refine blk_drew ?_ | refine blk_alloc ?_ _)); refine blk_put (cs := #[.int .i64 t266, .int .i64 0, .int .i64 0]) ?_ 1 _ rfl; (with_reducible repeat (first | refine blk_drewN ?_ _ | refine blk_drew ?_ | refine blk_alloc ?_ _)); refine blk_put (cs := #[.int .i64 0, .int .i64 0, .int .i64 0]) ?_ 0 _ rfl; (with_reducible repeat (first | refine blk_drewN ?_ _ | refine blk_drew ?_ | refine blk_alloc ?_ _)); refine blk_far ?_ NB250_272.out _; (with_reducible repeat (first | refine blk_drewN ?_ _ | refine blk_drew ?_ | refine blk_alloc ?_ _)); refine blk_far ?_ NB250_272.out _; (with_reducible repeat (first | refine blk_drewN ?_ _ | refine blk_drew ?_ | refine blk_alloc ?_ _)); refine blk_far ?_ NB250_272.out _; (with_reducible repeat (first | refine blk_drewN ?_ _ | refine blk_drew ?_ | refine blk_alloc ?_ _)); exact BK250.out) Try.underlying29 rfl (by kernel_rfl)) rfl ?_
            exact ⟨by first | rfl | (simp [errW_none, errW_some] <;> rfl) | (simp only [← hji15]; first | rfl | (simp [errW_none, errW_some] <;> rfl)) | (simp [*, errW_none, errW_some] <;> rfl), by repeat (first | (with_reducible first | exact HB.out | apply below_alloc | apply pw_below_drewN | apply below_drew1 | refine below_set ?_ GE250.out | refine below_set ?_ GE254.out | refine below_set ?_ GE265.out | refine below_set ?_ GE272.out) | exact HB.out)⟩
          · replace c32 := Bool.eq_false_iff.mpr c32
            subst c32
            have H1 : (some (0, 0, 0, 0, 2)) = some (r1, r2, r3, r4, r5) := by rw [if_neg (show ¬ (false = true) by decide)] at H; exact H
            clear H
            have H := H1
            clear H1
            simp only [Option.some.injEq, Prod.mk.injEq] at H
            obtain ⟨rfl, rfl, rfl, rfl, rfl⟩ := H
            go_wp2_with (first | ((with_reducible refine gate_callee (f := 14) rfl ?_); refine goesL_ (some 54) rfl rfl Try.func14 (by kernel_rfl) rfl #[.slice A0 l0.length c0] rfl (by (try simp only [List.map_toArray, List.map_cons, List.map_nil]); first | done | rfl | (simp only [List.length_drop, List.length_take]; rfl)) ?_; (with_reducible refine (lines_Count.calls _ _ l0 t253 _ ?side1 ?side2 A16.out).mono ?_); (case side1 => repeat (first | exact (Kd.C_below HR0.out HB.out) | (with_reducible refine Kd.C_alloc ?_ _) | (with_reducible refine Kd.C_drewN ?_ _) | (with_reducible refine Kd.C_drew ?_))); (case side2 => exact HC0.out); rintro e w50 ⟨rfl, hb⟩; refine ⟨_, rfl, ?_⟩; have n0_ := Aside0.mk (blk_below (g := gb250) (o := .cells #[.int .i64 0, .int .i64 0, .int .i64 0] 29 (0, 0)) (by (with_reducible repeat (first | refine blk_drewN ?_ _ | refine blk_drew ?_ | refine blk_alloc ?_ _)); exact BK250.out) hb); have n1_ := Aside0.mk (below_step (by repeat (first | (with_reducible first | exact HB.out | apply below_alloc | apply pw_below_drewN | apply below_drew1 | refine below_set ?_ GE250.out) | exact HB.out)) hb); clear BK250; clear HB; have BK250 := n0_; have HB := n1_; clear n0_ n1_; (try clear hb); (try clear hb2); (try clear hk); (try clear hi)) | ((with_reducible refine gate_dst (N := 15) rfl ?_); refine box_event ?hg (N := 15) ?hd (cs := #[.slice none 0 0, .int .i64 0, .int .i64 0, .int .i64 0, .bool false, .int .i64 0, .int .i64 0, .int .i64 0, .int .i64 0]) (t := 51) ?hr ?_; (case hd => rfl); (case hg => rfl); (case hr => first | (go_simp; done) | (go_simp; rfl)); intro gb254 hg w51 hbox hb; have n0_ := Aside0.mk (blk_below (g := gb250) (o := .cells #[.int .i64 0, .int .i64 0, .int .i64 0] 29 (0, 0)) (by (with_reducible repeat (first | refine blk_drewN ?_ _ | refine blk_drew ?_ | refine blk_alloc ?_ _)); exact BK250.out) hb); have n1_ := Aside0.mk (below_step (by repeat (first | (with_reducible first | exact HB.out | apply below_alloc | apply pw_below_drewN | apply below_drew1 | refine below_set ?_ GE250.out) | exact HB.out)) hb); have n2_ := Aside0.mk (hbox); have n3_ := Aside0.mk ((by rw [hg]; exact (below_size (by repeat (first | (with_reducible first | exact HB.out | apply below_alloc | apply pw_below_drewN | apply below_drew1 | refine below_set ?_ GE250.out) | exact HB.out))) : w.heap.size ≤ gb254)); have n4_ := Aside0.mk ((by rw [hg]; exact (below_size (by repeat (first | (with_reducible first | exact HB.out | apply below_alloc | apply pw_below_drewN | apply below_drew1 | refine below_set ?_ GE250.out) | exact HB.out))) : w.heap.size ≤ gb254)); have n5_ := Aside0.mk ((by rw [hg]; exact Nat.ne_of_lt (blk_lt (g := gb250) (o := .cells #[.int .i64 0, .int .i64 0, .int .i64 0] 29 (0, 0)) (by (with_reducible repeat (first | refine blk_drewN ?_ _ | refine blk_drew ?_ | refine blk_alloc ?_ _)); exact BK250.out)) : gb250 ≠ gb254)); have n6_ := Aside0.mk ((by rw [hg]; exact Nat.ne_of_gt (blk_lt (g := gb250) (o := .cells #[.int .i64 0, .int .i64 0, .int .i64 0] 29 (0, 0)) (by (with_reducible repeat (first | refine blk_drewN ?_ _ | refine blk_drew ?_ | refine blk_alloc ?_ _)); exact BK250.out)) : gb254 ≠ gb250)); clear BK250; clear HB; have BK250 := n0_; have HB := n1_; have BK254 := n2_; have GW254 := n3_; have GE254 := n4_; have NB250_254 := n5_; have NB254_250 := n6_; clear n0_ n1_ n2_ n3_ n4_ n5_ n6_; clear hb hbox hg; have hnb52 := NB254_250.out; have hnc52 := NB250_254.out; have hcz53_0 : w51.cell? ⟨gb254, 0, none⟩ = some (.slice none 0 0) := (blk_cell BK254.out 0).trans rfl; have hcz53_1 : w51.cell? ⟨gb254, 1, none⟩ = some (.int .i64 0) := (blk_cell BK254.out 1).trans rfl; have hcz53_2 : w51.cell? ⟨gb254, 2, none⟩ = some (.int .i64 0) := (blk_cell BK254.out 2).trans rfl; have hcz53_3 : w51.cell? ⟨gb254, 3, none⟩ = some (.int .i64 0) := (blk_cell BK254.out 3).trans rfl; have hcz53_4 : w51.cell? ⟨gb254, 4, none⟩ = some (.bool false) := (blk_cell BK254.out 4).trans rfl; have hcz53_5 : w51.cell? ⟨gb254, 5, none⟩ = some (.int .i64 0) := (blk_cell BK254.out 5).trans rfl; have hcz53_6 : w51.cell? ⟨gb254, 6, none⟩ = some (.int .i64 0) := (blk_cell BK254.out 6).trans rfl; have hcz53_7 : w51.cell? ⟨gb254, 7, none⟩ = some (.int .i64 0) := (blk_cell BK254.out 7).trans rfl; have hcz53_8 : w51.cell? ⟨gb254, 8, none⟩ = some (.int .i64 0) := (blk_cell BK254.out 8).trans rfl; have hfz53_0 := blk_frozen BK254.out 0; have hfz53_1 := blk_frozen BK254.out 1; have hfz53_2 := blk_frozen BK254.out 2; have hfz53_3 := blk_frozen BK254.out 3; have hfz53_4 := blk_frozen BK254.out 4; have hfz53_5 := blk_frozen BK254.out 5; have hfz53_6 := blk_frozen BK254.out 6; have hfz53_7 := blk_frozen BK254.out 7; have hfz53_8 := blk_frozen BK254.out 8) | ((with_reducible refine gate_callee (f := 28) rfl ?_); refine goesL_ (some 60) rfl rfl Try.func28 (by kernel_rfl) rfl #[.slice A0 l0.length c0, .int .i64 t251] rfl (by (try simp only [List.map_toArray, List.map_cons, List.map_nil]); first | done | rfl | (simp only [List.length_drop, List.length_take]; rfl)) ?_; (with_reducible refine (lines_Start.calls kj6 _ _ l0 t251 t255 t256 _ ?side1 ?side2 A17.out).mono ?_); (case side1 => exact Kd.C_below HR0.out (by repeat (first | (with_reducible first | exact HB.out | apply below_alloc | apply pw_below_drewN | apply below_drew1 | refine below_set ?_ GE250.out | refine below_set ?_ GE254.out) | exact HB.out))); (case side2 => exact HC0.out); rintro e wS ⟨rfl, hdr⟩; refine ⟨_, rfl, ?_⟩; have n2_ : Aside0 (wS.heap[gb254]? = some (.cells #[.slice A0 l0.length c0, .int .i64 a1, .int .i64 a2, .int .i64 ji15, .bool (decide (0 < a3)), .int .i64 t251, .int .i64 (wrap64 (t253 - 1)), .int .i64 0, .int .i64 0] 51 (0, 0))) := ⟨by obtain ⟨nd, rfl⟩ := hdr; (with_reducible repeat (first | refine blk_drewN ?_ _ | refine blk_drew ?_ | refine blk_alloc ?_ _)); refine blk_put (cs := #[.slice A0 l0.length c0, .int .i64 a1, .int .i64 a2, .int .i64 ji15, .bool (decide (0 < a3)), .int .i64 t251, .int .i64 (wrap64 (t253 - 1)), .int .i64 0, .int .i64 0]) ?_ 8 _ rfl; (with_reducible repeat (first | refine blk_drewN ?_ _ | refine blk_drew ?_ | refine blk_alloc ?_ _)); refine blk_put (cs := #[.slice A0 l0.length c0, .int .i64 a1, .int .i64 a2, .int .i64 ji15, .bool (decide (0 < a3)), .int .i64 t251, .int .i64 (wrap64 (t253 - 1)), .int .i64 0, .int .i64 0]) ?_ 7 _ rfl; (with_reducible repeat (first | refine blk_drewN ?_ _ | refine blk_drew ?_ | refine blk_alloc ?_ _)); refine blk_put (cs := #[.slice A0 l0.length c0, .int .i64 a1, .int .i64 a2, .int .i64 ji15, .bool (decide (0 < a3)), .int .i64 t251, .int .i64 0, .int .i64 0, .int .i64 0]) ?_ 6 _ rfl; (with_reducible repeat (first | refine blk_drewN ?_ _ | refine blk_drew ?_ | refine blk_alloc ?_ _)); refine blk_put (cs := #[.slice A0 l0.length c0, .int .i64 a1, .int .i64 a2, .int .i64 ji15, .bool (decide (0 < a3)), .int .i64 0, .int .i64 0, .int .i64 0, .int .i64 0]) ?_ 5 _ rfl; (with_reducible repeat (first | refine blk_drewN ?_ _ | refine blk_drew ?_ | refine blk_alloc ?_ _)); refine blk_put (cs := #[.slice A0 l0.length c0, .int .i64 a1, .int .i64 a2, .int .i64 ji15, .bool false, .int .i64 0, .int .i64 0, .int .i64 0, .int .i64 0]) ?_ 4 _ rfl; (with_reducible repeat (first | refine blk_drewN ?_ _ | refine blk_drew ?_ | refine blk_alloc ?_ _)); refine blk_put (cs := #[.slice A0 l0.length c0, .int .i64 a1, .int .i64 a2, .int .i64 0, .bool false, .int .i64 0, .int .i64 0, .int .i64 0, .int .i64 0]) ?_ 3 _ rfl; (with_reducible repeat (first | refine blk_drewN ?_ _ | refine blk_drew ?_ | refine blk_alloc ?_ _)); refine blk_put (cs := #[.slice A0 l0.length c0, .int .i64 a1, .int .i64 0, .int .i64 0, .bool false, .int .i64 0, .int .i64 0, .int .i64 0, .int .i64 0]) ?_ 2 _ rfl; (with_reducible repeat (first | refine blk_drewN ?_ _ | refine blk_drew ?_ | refine blk_alloc ?_ _)); refine blk_put (cs := #[.slice A0 l0.length c0, .int .i64 0, .int .i64 0, .int .i64 0, .bool false, .int .i64 0, .int .i64 0, .int .i64 0, .int .i64 0]) ?_ 1 _ rfl; (with_reducible repeat (first | refine blk_drewN ?_ _ | refine blk_drew ?_ | refine blk_alloc ?_ _)); refine blk_put (cs := #[.slice none 0 0, .int .i64 0, .int .i64 0, .int .i64 0, .bool false, .int .i64 0, .int .i64 0, .int .i64 0, .int .i64 0]) ?_ 0 _ rfl; (with_reducible repeat (first | refine blk_drewN ?_ _ | refine blk_drew ?_ | refine blk_alloc ?_ _)); exact BK254.out⟩; have n0_ : Aside0 (wS.heap[gb250]? = some (.cells #[.int .i64 0, .int .i64 0, .int .i64 0] 29 (0, 0))) := ⟨by obtain ⟨nd, rfl⟩ := hdr; repeat (first | (with_reducible first | exact BK250.out | refine blk_drewN ?_ _ | refine blk_drew ?_ | refine blk_alloc ?_ _) | refine blk_far ?_ NB250_254.out _)⟩; have n1_ : Aside0 (Below w.heap.size w wS) := ⟨by obtain ⟨nd, rfl⟩ := hdr; repeat (first | (with_reducible first | exact HB.out | apply below_alloc | apply pw_below_drewN | apply below_drew1 | refine below_set ?_ GE250.out | refine below_set ?_ GE254.out) | exact HB.out)⟩; clear BK250; clear HB; clear BK254; have BK250 := n0_; have HB := n1_; have BK254 := n2_; clear n0_ n1_ n2_; clear hdr; have hcz24_7 : wS.cell? ⟨gb254, 7, none⟩ = some (.int .i64 0) := (blk_cell BK254.out 7).trans rfl; have hfz24_7 := blk_frozen BK254.out 7) | ((with_reducible refine gate_callee (f := 19) rfl ?_); refine goesL_ (some 67) rfl rfl Try.func19 (by kernel_rfl) rfl #[.slice A0 l0.length c0, .int .i64 t251] rfl (by (try simp only [List.map_toArray, List.map_cons, List.map_nil]); first | done | rfl | (simp only [List.length_drop, List.length_take]; rfl)) ?_; (with_reducible refine (lines_End.calls kj6 _ _ l0 t251 t257 t258 _ ?side1 ?side2 A18.out).mono ?_); (case side1 => exact Kd.C_below HR0.out (by repeat (first | (with_reducible first | exact HB.out | apply below_alloc | apply pw_below_drewN | apply below_drew1 | refine below_set ?_ GE250.out | refine below_set ?_ GE254.out) | exact HB.out))); (case side2 => exact HC0.out); rintro e wE ⟨rfl, hdr⟩; refine ⟨_, rfl, ?_⟩; have n2_ : Aside0 (wE.heap[gb254]? = some (.cells #[.slice A0 l0.length c0, .int .i64 a1, .int .i64 a2, .int .i64 ji15, .bool (decide (0 < a3)), .int .i64 t251, .int .i64 (wrap64 (t253 - 1)), .int .i64 t255, .int .i64 0] 51 (0, 0))) := ⟨by obtain ⟨nd, rfl⟩ := hdr; (with_reducible repeat (first | refine blk_drewN ?_ _ | refine blk_drew ?_ | refine blk_alloc ?_ _)); refine blk_put (cs := #[.slice A0 l0.length c0, .int .i64 a1, .int .i64 a2, .int .i64 ji15, .bool (decide (0 < a3)), .int .i64 t251, .int .i64 (wrap64 (t253 - 1)), .int .i64 0, .int .i64 0]) ?_ 7 _ rfl; (with_reducible repeat (first | refine blk_drewN ?_ _ | refine blk_drew ?_ | refine blk_alloc ?_ _)); exact BK254.out⟩; have n0_ : Aside0 (wE.heap[gb250]? = some (.cells #[.int .i64 0, .int .i64 0, .int .i64 0] 29 (0, 0))) := ⟨by obtain ⟨nd, rfl⟩ := hdr; repeat (first | (with_reducible first | exact BK250.out | refine blk_drewN ?_ _ | refine blk_drew ?_ | refine blk_alloc ?_ _) | refine blk_far ?_ NB250_254.out _)⟩; have n1_ : Aside0 (Below w.heap.size w wE) := ⟨by obtain ⟨nd, rfl⟩ := hdr; repeat (first | (with_reducible first | exact HB.out | apply below_alloc | apply pw_below_drewN | apply below_drew1 | refine below_set ?_ GE250.out | refine below_set ?_ GE254.out) | exact HB.out)⟩; clear BK250; clear HB; clear BK254; have BK250 := n0_; have HB := n1_; have BK254 := n2_; clear n0_ n1_ n2_; clear hdr; have hcz24_0 : wE.cell? ⟨gb254, 0, none⟩ = some (.slice A0 l0.length c0) := (blk_cell BK254.out 0).trans rfl; have hcz24_1 : wE.cell? ⟨gb254, 1, none⟩ = some (.int .i64 a1) := (blk_cell BK254.out 1).trans rfl; have hcz24_2 : wE.cell? ⟨gb254, 2, none⟩ = some (.int .i64 a2) := (blk_cell BK254.out 2).trans rfl; have hcz24_3 : wE.cell? ⟨gb254, 3, none⟩ = some (.int .i64 ji15) := (blk_cell BK254.out 3).trans rfl; have hcz24_4 : wE.cell? ⟨gb254, 4, none⟩ = some (.bool (decide (0 < a3))) := (blk_cell BK254.out 4).trans rfl; have hcz24_5 : wE.cell? ⟨gb254, 5, none⟩ = some (.int .i64 t251) := (blk_cell BK254.out 5).trans rfl; have hcz24_6 : wE.cell? ⟨gb254, 6, none⟩ = some (.int .i64 (wrap64 (t253 - 1))) := (blk_cell BK254.out 6).trans rfl; have hcz24_7 : wE.cell? ⟨gb254, 7, none⟩ = some (.int .i64 t255) := (blk_cell BK254.out 7).trans rfl; have hcz24_8 : wE.cell? ⟨gb254, 8, none⟩ = some (.int .i64 0) := (blk_cell BK254.out 8).trans rfl; have hfz24_0 := blk_frozen BK254.out 0; have hfz24_1 := blk_frozen BK254.out 1; have hfz24_2 := blk_frozen BK254.out 2; have hfz24_3 := blk_frozen BK254.out 3; have hfz24_4 := blk_frozen BK254.out 4; have hfz24_5 := blk_frozen BK254.out 5; have hfz24_6 := blk_frozen BK254.out 6; have hfz24_7 := blk_frozen BK254.out 7; have hfz24_8 := blk_frozen BK254.out 8) | ((with_reducible refine gate_callee (f := 29) rfl ?_); refine goesL_ (some 74) rfl rfl Try.func29 (by kernel_rfl) rfl #[.agg #[.slice A0 l0.length c0, .int .i64 a1, .int .i64 a2, .int .i64 ji15, .bool (decide (a3 > 0)), .int .i64 t251, .int .i64 (wrap64 (t253 - 1)), .int .i64 t255, .int .i64 t257], .string a4] rfl (by (try simp only [List.map_toArray, List.map_cons, List.map_nil]); first | done | (simp only [hji15]; rfl) | rfl | (simp only [List.length_drop, List.length_take]; rfl)) ?_; (with_reducible refine (step_walk_bytes.calls kj6 _ _ l0 a1 a2 ji15 (decide (a3 > 0)) t251 (wrap64 (t253 - 1)) t255 t257 a4 t259 t260 t261 t262 t263 false _ ?side1 ?side2 A19.out).mono ?_); (case side1 => exact Kd.C_below HR0.out (by repeat (first | (with_reducible first | exact HB.out | apply below_alloc | apply pw_below_drewN | apply below_drew1 | refine below_set ?_ GE250.out | refine below_set ?_ GE254.out) | exact HB.out))); (case side2 => exact HC0.out); rintro e w54 ⟨rfl, hb⟩; refine ⟨_, rfl, ?_⟩; have n0_ := Aside0.mk (blk_below (g := gb250) (o := .cells #[.int .i64 0, .int .i64 0, .int .i64 0] 29 (0, 0)) (by repeat (first | (with_reducible first | exact BK250.out | refine blk_drewN ?_ _ | refine blk_drew ?_ | refine blk_alloc ?_ _) | refine blk_far ?_ NB250_254.out _)) hb); have n1_ := Aside0.mk (blk_below (g := gb254) (o := .cells #[.slice A0 l0.length c0, .int .i64 a1, .int .i64 a2, .int .i64 ji15, .bool (decide (a3 > 0)), .int .i64 t251, .int .i64 (wrap64 (t253 - 1)), .int .i64 t255, .int .i64 t257] 51 (0, 0)) (by refine blk_put (cs := #[.slice A0 l0.length c0, .int .i64 a1, .int .i64 a2, .int .i64 ji15, .bool (decide (0 < a3)), .int .i64 t251, .int .i64 (wrap64 (t253 - 1)), .int .i64 t255, .int .i64 0]) ?_ 8 _ rfl; exact BK254.out) hb); have n2_ := Aside0.mk (below_step (by repeat (first | (with_reducible first | exact HB.out | apply below_alloc | apply pw_below_drewN | apply below_drew1 | refine below_set ?_ GE250.out | refine below_set ?_ GE254.out) | exact HB.out)) hb); clear BK250; clear BK254; clear HB; have BK250 := n0_; have BK254 := n1_; have HB := n2_; clear n0_ n1_ n2_; (try clear hb); (try clear hb2); (try clear hk); (try clear hi)) | ((with_reducible refine gate_dst (N := 16) rfl ?_); refine box_event ?hg (N := 16) ?hd (cs := #[.int .i64 0, .int .i64 0, .int .i64 0]) (t := 29) ?hr ?_; (case hd => rfl); (case hg => rfl); (case hr => first | (go_simp; done) | (go_simp; rfl)); intro gb265 hg w55 hbox hb; have n0_ := Aside0.mk (blk_below (g := gb250) (o := .cells #[.int .i64 0, .int .i64 0, .int .i64 0] 29 (0, 0)) (by (with_reducible repeat (first | refine blk_drewN ?_ _ | refine blk_drew ?_ | refine blk_alloc ?_ _)); exact BK250.out) hb); have n1_ := Aside0.mk (blk_below (g := gb254) (o := .cells #[.slice A0 l0.length c0, .int .i64 a1, .int .i64 a2, .int .i64 ji15, .bool (decide (a3 > 0)), .int .i64 t251, .int .i64 (wrap64 (t253 - 1)), .int .i64 t255, .int .i64 t257] 51 (0, 0)) (by (with_reducible repeat (first | refine blk_drewN ?_ _ | refine blk_drew ?_ | refine blk_alloc ?_ _)); exact BK254.out) hb); have n2_ := Aside0.mk (below_step (by repeat (first | (with_reducible first | exact HB.out | apply below_alloc | apply pw_below_drewN | apply below_drew1 | refine below_set ?_ GE250.out | refine below_set ?_ GE254.out) | exact HB.out)) hb); have n3_ := Aside0.mk (hbox); have n4_ := Aside0.mk ((by rw [hg]; exact (below_size (by repeat (first | (with_reducible first | exact HB.out | apply below_alloc | apply pw_below_drewN | apply below_drew1 | refine below_set ?_ GE250.out | refine below_set ?_ GE254.out) | exact HB.out))) : w.heap.size ≤ gb265)); have n5_ := Aside0.mk ((by rw [hg]; exact (below_size (by repeat (first | (with_reducible first | exact HB.out | apply below_alloc | apply pw_below_drewN | apply below_drew1 | refine below_set ?_ GE250.out | refine below_set ?_ GE254.out) | exact HB.out))) : w.heap.size ≤ gb265)); have n6_ := Aside0.mk ((by rw [hg]; exact Nat.ne_of_lt (blk_lt (g := gb250) (o := .cells #[.int .i64 0, .int .i64 0, .int .i64 0] 29 (0, 0)) (by (with_reducible repeat (first | refine blk_drewN ?_ _ | refine blk_drew ?_ | refine blk_alloc ?_ _)); exact BK250.out)) : gb250 ≠ gb265)); have n7_ := Aside0.mk ((by rw [hg]; exact Nat.ne_of_gt (blk_lt (g := gb250) (o := .cells #[.int .i64 0, .int .i64 0, .int .i64 0] 29 (0, 0)) (by (with_reducible repeat (first | refine blk_drewN ?_ _ | refine blk_drew ?_ | refine blk_alloc ?_ _)); exact BK250.out)) : gb265 ≠ gb250)); have n8_ := Aside0.mk ((by rw [hg]; exact Nat.ne_of_lt (blk_lt (g := gb254) (o := .cells #[.slice A0 l0.length c0, .int .i64 a1, .int .i64 a2, .int .i64 ji15, .bool (decide (a3 > 0)), .int .i64 t251, .int .i64 (wrap64 (t253 - 1)), .int .i64 t255, .int .i64 t257] 51 (0, 0)) (by (with_reducible repeat (first | refine blk_drewN ?_ _ | refine blk_drew ?_ | refine blk_alloc ?_ _)); exact BK254.out)) : gb254 ≠ gb265)); have n9_ := Aside0.mk ((by rw [hg]; exact Nat.ne_of_gt (blk_lt (g := gb254) (o := .cells #[.slice A0 l0.length c0, .int .i64 a1, .int .i64 a2, .int .i64 ji15, .bool (decide (a3 > 0)), .int .i64 t251, .int .i64 (wrap64 (t253 - 1)), .int .i64 t255, .int .i64 t257] 51 (0, 0)) (by (with_reducible repeat (first | refine blk_drewN ?_ _ | refine blk_drew ?_ | refine blk_alloc ?_ _)); exact BK254.out)) : gb265 ≠ gb254)); clear BK250; clear BK254; clear HB; have BK250 := n0_; have BK254 := n1_; have HB := n2_; have BK265 := n3_; have GW265 := n4_; have GE265 := n5_; have NB250_265 := n6_; have NB265_250 := n7_; have NB254_265 := n8_; have NB265_254 := n9_; clear n0_ n1_ n2_ n3_ n4_ n5_ n6_ n7_ n8_ n9_; clear hb hbox hg; have hnb56 := NB265_250.out; have hnc56 := NB250_265.out; have hnb57 := NB265_254.out; have hnc57 := NB254_265.out; have hcz58_0 : w55.cell? ⟨gb265, 0, none⟩ = some (.int .i64 0) := (blk_cell BK265.out 0).trans rfl; have hcz58_1 : w55.cell? ⟨gb265, 1, none⟩ = some (.int .i64 0) := (blk_cell BK265.out 1).trans rfl; have hcz58_2 : w55.cell? ⟨gb265, 2, none⟩ = some (.int .i64 0) := (blk_cell BK265.out 2).trans rfl; have hfz58_0 := blk_frozen BK265.out 0; have hfz58_1 := blk_frozen BK265.out 1; have hfz58_2 := blk_frozen BK265.out 2; have hcz59_0 : w55.cell? ⟨gb254, 0, none⟩ = some (.slice A0 l0.length c0) := (blk_cell BK254.out 0).trans rfl; have hcz59_1 : w55.cell? ⟨gb254, 1, none⟩ = some (.int .i64 a1) := (blk_cell BK254.out 1).trans rfl; have hcz59_2 : w55.cell? ⟨gb254, 2, none⟩ = some (.int .i64 a2) := (blk_cell BK254.out 2).trans rfl; have hcz59_3 : w55.cell? ⟨gb254, 3, none⟩ = some (.int .i64 ji15) := (blk_cell BK254.out 3).trans rfl; have hcz59_4 : w55.cell? ⟨gb254, 4, none⟩ = some (.bool (decide (a3 > 0))) := (blk_cell BK254.out 4).trans rfl; have hcz59_5 : w55.cell? ⟨gb254, 5, none⟩ = some (.int .i64 t251) := (blk_cell BK254.out 5).trans rfl; have hcz59_6 : w55.cell? ⟨gb254, 6, none⟩ = some (.int .i64 (wrap64 (t253 - 1))) := (blk_cell BK254.out 6).trans rfl; have hcz59_7 : w55.cell? ⟨gb254, 7, none⟩ = some (.int .i64 t255) := (blk_cell BK254.out 7).trans rfl; have hcz59_8 : w55.cell? ⟨gb254, 8, none⟩ = some (.int .i64 t257) := (blk_cell BK254.out 8).trans rfl; have hfz59_0 := blk_frozen BK254.out 0; have hfz59_1 := blk_frozen BK254.out 1; have hfz59_2 := blk_frozen BK254.out 2; have hfz59_3 := blk_frozen BK254.out 3; have hfz59_4 := blk_frozen BK254.out 4; have hfz59_5 := blk_frozen BK254.out 5; have hfz59_6 := blk_frozen BK254.out 6; have hfz59_7 := blk_frozen BK254.out 7; have hfz59_8 := blk_frozen BK254.out 8) | ((with_reducible refine gate_callee (f := 30) rfl ?_); refine goesL_ (some 86) rfl rfl Try.func30 (by kernel_rfl) rfl #[.agg #[.slice A0 l0.length c0, .int .i64 a1, .int .i64 a2, .int .i64 ji15, .bool (decide (a3 > 0)), .int .i64 t251, .int .i64 (wrap64 (t253 - 1)), .int .i64 t255, .int .i64 t257], .string a4] rfl (by (try simp only [List.map_toArray, List.map_cons, List.map_nil]); first | done | (simp only [hji15]; rfl) | rfl | (simp only [List.length_drop, List.length_take]; rfl)) ?_; (with_reducible refine (step_walk_lines.calls kj6 _ _ l0 a1 a2 ji15 (decide (a3 > 0)) t251 (wrap64 (t253 - 1)) t255 t257 a4 t266 t267 t268 t269 t270 false _ ?side1 ?side2 A31.out).mono ?_); (case side1 => exact Kd.C_below HR0.out (by repeat (first | (with_reducible first | exact HB.out | apply below_alloc | apply pw_below_drewN | apply below_drew1 | refine below_set ?_ GE250.out | refine below_set ?_ GE254.out | refine below_set ?_ GE265.out) | exact HB.out))); (case side2 => exact HC0.out); rintro e w60 ⟨rfl, hb⟩; refine ⟨_, rfl, ?_⟩; have n0_ := Aside0.mk (blk_below (g := gb250) (o := .cells #[.int .i64 0, .int .i64 0, .int .i64 0] 29 (0, 0)) (by (with_reducible repeat (first | refine blk_drewN ?_ _ | refine blk_drew ?_ | refine blk_alloc ?_ _)); refine blk_far ?_ NB250_265.out _; (with_reducible repeat (first | refine blk_drewN ?_ _ | refine blk_drew ?_ | refine blk_alloc ?_ _)); refine blk_far ?_ NB250_265.out _; (with_reducible repeat (first | refine blk_drewN ?_ _ | refine blk_drew ?_ | refine blk_alloc ?_ _)); refine blk_far ?_ NB250_265.out _; (with_reducible repeat (first | refine blk_drewN ?_ _ | refine blk_drew ?_ | refine blk_alloc ?_ _)); exact BK250.out) hb); have n1_ := Aside0.mk (blk_below (g := gb254) (o := .cells #[.slice A0 l0.length c0, .int .i64 a1, .int .i64 a2, .int .i64 ji15, .bool (decide (a3 > 0)), .int .i64 t251, .int .i64 (wrap64 (t253 - 1)), .int .i64 t255, .int .i64 t257] 51 (0, 0)) (by (with_reducible repeat (first | refine blk_drewN ?_ _ | refine blk_drew ?_ | refine blk_alloc ?_ _)); refine blk_far ?_ NB254_265.out _; (with_reducible repeat (first | refine blk_drewN ?_ _ | refine blk_drew ?_ | refine blk_alloc ?_ _)); refine blk_far ?_ NB254_265.out _; (with_reducible repeat (first | refine blk_drewN ?_ _ | refine blk_drew ?_ | refine blk_alloc ?_ _)); refine blk_far ?_ NB254_265.out _; (with_reducible repeat (first | refine blk_drewN ?_ _ | refine blk_drew ?_ | refine blk_alloc ?_ _)); exact BK254.out) hb); have n2_ := Aside0.mk (blk_below (g := gb265) (o := .cells #[.int .i64 t259, .int .i64 t260, .int .i64 t261] 29 (0, 0)) (by (with_reducible repeat (first | refine blk_drewN ?_ _ | refine blk_drew ?_ | refine blk_alloc ?_ _)); refine blk_put (cs := #[.int .i64 t259, .int .i64 t260, .int .i64 0]) ?_ 2 _ rfl; (with_reducible repeat (first | refine blk_drewN ?_ _ | refine blk_drew ?_ | refine blk_alloc ?_ _)); refine blk_put (cs := #[.int .i64 t259, .int .i64 0, .int .i64 0]) ?_ 1 _ rfl; (with_reducible repeat (first | refine blk_drewN ?_ _ | refine blk_drew ?_ | refine blk_alloc ?_ _)); refine blk_put (cs := #[.int .i64 0, .int .i64 0, .int .i64 0]) ?_ 0 _ rfl; (with_reducible repeat (first | refine blk_drewN ?_ _ | refine blk_drew ?_ | refine blk_alloc ?_ _)); exact BK265.out) hb); have n3_ := Aside0.mk (below_step (by repeat (first | (with_reducible first | exact HB.out | apply below_alloc | apply pw_below_drewN | apply below_drew1 | refine below_set ?_ GE250.out | refine below_set ?_ GE254.out | refine below_set ?_ GE265.out) | exact HB.out)) hb); clear BK250; clear BK254; clear BK265; clear HB; have BK250 := n0_; have BK254 := n1_; have BK265 := n2_; have HB := n3_; clear n0_ n1_ n2_ n3_; (try clear hb); (try clear hb2); (try clear hk); (try clear hi)) | ((with_reducible refine gate_dst (N := 20) rfl ?_); refine box_event ?hg (N := 20) ?hd (cs := #[.int .i64 0, .int .i64 0, .int .i64 0]) (t := 29) ?hr ?_; (case hd => rfl); (case hg => rfl); (case hr => first | (go_simp; done) | (go_simp; rfl)); intro gb272 hg w61 hbox hb; have n0_ := Aside0.mk (blk_below (g := gb250) (o := .cells #[.int .i64 0, .int .i64 0, .int .i64 0] 29 (0, 0)) (by (with_reducible repeat (first | refine blk_drewN ?_ _ | refine blk_drew ?_ | refine blk_alloc ?_ _)); exact BK250.out) hb); have n1_ := Aside0.mk (blk_below (g := gb254) (o := .cells #[.slice A0 l0.length c0, .int .i64 a1, .int .i64 a2, .int .i64 ji15, .bool (decide (a3 > 0)), .int .i64 t251, .int .i64 (wrap64 (t253 - 1)), .int .i64 t255, .int .i64 t257] 51 (0, 0)) (by (with_reducible repeat (first | refine blk_drewN ?_ _ | refine blk_drew ?_ | refine blk_alloc ?_ _)); exact BK254.out) hb); have n2_ := Aside0.mk (blk_below (g := gb265) (o := .cells #[.int .i64 t259, .int .i64 t260, .int .i64 t261] 29 (0, 0)) (by (with_reducible repeat (first | refine blk_drewN ?_ _ | refine blk_drew ?_ | refine blk_alloc ?_ _)); exact BK265.out) hb); have n3_ := Aside0.mk (below_step (by repeat (first | (with_reducible first | exact HB.out | apply below_alloc | apply pw_below_drewN | apply below_drew1 | refine below_set ?_ GE250.out | refine below_set ?_ GE254.out | refine below_set ?_ GE265.out) | exact HB.out)) hb); have n4_ := Aside0.mk (hbox); have n5_ := Aside0.mk ((by rw [hg]; exact (below_size (by repeat (first | (with_reducible first | exact HB.out | apply below_alloc | apply pw_below_drewN | apply below_drew1 | refine below_set ?_ GE250.out | refine below_set ?_ GE254.out | refine below_set ?_ GE265.out) | exact HB.out))) : w.heap.size ≤ gb272)); have n6_ := Aside0.mk ((by rw [hg]; exact (below_size (by repeat (first | (with_reducible first | exact HB.out | apply below_alloc | apply pw_below_drewN | apply below_drew1 | refine below_set ?_ GE250.out | refine below_set ?_ GE254.out | refine below_set ?_ GE265.out) | exact HB.out))) : w.heap.size ≤ gb272)); have n7_ := Aside0.mk ((by rw [hg]; exact Nat.ne_of_lt (blk_lt (g := gb250) (o := .cells #[.int .i64 0, .int .i64 0, .int .i64 0] 29 (0, 0)) (by (with_reducible repeat (first | refine blk_drewN ?_ _ | refine blk_drew ?_ | refine blk_alloc ?_ _)); exact BK250.out)) : gb250 ≠ gb272)); have n8_ := Aside0.mk ((by rw [hg]; exact Nat.ne_of_gt (blk_lt (g := gb250) (o := .cells #[.int .i64 0, .int .i64 0, .int .i64 0] 29 (0, 0)) (by (with_reducible repeat (first | refine blk_drewN ?_ _ | refine blk_drew ?_ | refine blk_alloc ?_ _)); exact BK250.out)) : gb272 ≠ gb250)); have n9_ := Aside0.mk ((by rw [hg]; exact Nat.ne_of_lt (blk_lt (g := gb254) (o := .cells #[.slice A0 l0.length c0, .int .i64 a1, .int .i64 a2, .int .i64 ji15, .bool (decide (a3 > 0)), .int .i64 t251, .int .i64 (wrap64 (t253 - 1)), .int .i64 t255, .int .i64 t257] 51 (0, 0)) (by (with_reducible repeat (first | refine blk_drewN ?_ _ | refine blk_drew ?_ | refine blk_alloc ?_ _)); exact BK254.out)) : gb254 ≠ gb272)); have n10_ := Aside0.mk ((by rw [hg]; exact Nat.ne_of_gt (blk_lt (g := gb254) (o := .cells #[.slice A0 l0.length c0, .int .i64 a1, .int .i64 a2, .int .i64 ji15, .bool (decide (a3 > 0)), .int .i64 t251, .int .i64 (wrap64 (t253 - 1)), .int .i64 t255, .int .i64 t257] 51 (0, 0)) (by (with_reducible repeat (first | refine blk_drewN ?_ _ | refine blk_drew ?_ | refine blk_alloc ?_ _)); exact BK254.out)) : gb272 ≠ gb254)); have n11_ := Aside0.mk ((by rw [hg]; exact Nat.ne_of_lt (blk_lt (g := gb265) (o := .cells #[.int .i64 t259, .int .i64 t260, .int .i64 t261] 29 (0, 0)) (by (with_reducible repeat (first | refine blk_drewN ?_ _ | refine blk_drew ?_ | refine blk_alloc ?_ _)); exact BK265.out)) : gb265 ≠ gb272)); have n12_ := Aside0.mk ((by rw [hg]; exact Nat.ne_of_gt (blk_lt (g := gb265) (o := .cells #[.int .i64 t259, .int .i64 t260, .int .i64 t261] 29 (0, 0)) (by (with_reducible repeat (first | refine blk_drewN ?_ _ | refine blk_drew ?_ | refine blk_alloc ?_ _)); exact BK265.out)) : gb272 ≠ gb265)); clear BK250; clear BK254; clear BK265; clear HB; have BK250 := n0_; have BK254 := n1_; have BK265 := n2_; have HB := n3_; have BK272 := n4_; have GW272 := n5_; have GE272 := n6_; have NB250_272 := n7_; have NB272_250 := n8_; have NB254_272 := n9_; have NB272_254 := n10_; have NB265_272 := n11_; have NB272_265 := n12_; clear n0_ n1_ n2_ n3_ n4_ n5_ n6_ n7_ n8_ n9_ n10_ n11_ n12_; clear hb hbox hg; have hnb62 := NB272_250.out; have hnc62 := NB250_272.out; have hnb63 := NB272_254.out; have hnc63 := NB254_272.out; have hnb64 := NB272_265.out; have hnc64 := NB265_272.out; have hcz65_0 : w61.cell? ⟨gb272, 0, none⟩ = some (.int .i64 0) := (blk_cell BK272.out 0).trans rfl; have hcz65_1 : w61.cell? ⟨gb272, 1, none⟩ = some (.int .i64 0) := (blk_cell BK272.out 1).trans rfl; have hcz65_2 : w61.cell? ⟨gb272, 2, none⟩ = some (.int .i64 0) := (blk_cell BK272.out 2).trans rfl; have hfz65_0 := blk_frozen BK272.out 0; have hfz65_1 := blk_frozen BK272.out 1; have hfz65_2 := blk_frozen BK272.out 2; have hcz66_0 : w61.cell? ⟨gb250, 0, none⟩ = some (.int .i64 0) := (blk_cell BK250.out 0).trans rfl; have hcz66_1 : w61.cell? ⟨gb250, 1, none⟩ = some (.int .i64 0) := (blk_cell BK250.out 1).trans rfl; have hcz66_2 : w61.cell? ⟨gb250, 2, none⟩ = some (.int .i64 0) := (blk_cell BK250.out 2).trans rfl; have hfz66_0 := blk_frozen BK250.out 0; have hfz66_1 := blk_frozen BK250.out 1; have hfz66_2 := blk_frozen BK250.out 2))
            refine bodyPost_ret (results_ctt rfl _ _ gb250 29 #[.int .i64 0, .int .i64 0, .int .i64 0] (0, 0) _ rfl (by (with_reducible repeat (first | refine blk_drewN ?_ _ | refine blk_drew ?_ | refine blk_alloc ?_ _)); refine blk_put (cs := #[.int .i64 0, .int .i64 0, .int .i64 0]) ?_ 2 _ rfl; (with_reducible repeat (first | refine blk_drewN ?_ _ | refine blk_drew ?_ | refine blk_alloc ?_ _)); refine blk_put (cs := #[.int .i64 0, .int .i64 0, .int .i64 0]) ?_ 1 _ rfl; (with_reducible repeat (first | refine blk_drewN ?_ _ | refine blk_drew ?_ | refine blk_alloc ?_ _)); refine blk_put (cs := #[.int .i64 0, .int .i64 0, .int .i64 0]) ?_ 0 _ rfl; (with_reducible repeat (first | refine blk_drewN ?_ _ | refine blk_drew ?_ | refine blk_alloc ?_ _)); refine blk_far ?_ NB250_272.out _; (with_reducible repeat (first | refine blk_drewN ?_ _ | refine blk_drew ?_ | refine blk_alloc ?_ _)); refine blk_far ?_ NB250_272.out _; (with_reducible repeat (first | refine blk_drewN ?_ _ | refine blk_drew ?_ | refine blk_alloc ?_ _)); refine blk_far ?_ NB250_272.out _; (with_reducible repeat (first | refine blk_drewN ?_ _ | refine blk_drew ?_ | refine blk_alloc ?_ _)); exact BK250.out) Try.underlying29 rfl (by kernel_rfl)) rfl ?_
            exact ⟨by first | rfl | (simp [errW_none, errW_some] <;> rfl) | (simp only [← hji15]; first | rfl | (simp [errW_none, errW_some] <;> rfl)) | (simp [*, errW_none, errW_some] <;> rfl), by repeat (first | (with_reducible first | exact HB.out | apply below_alloc | apply pw_below_drewN | apply below_drew1 | refine below_set ?_ GE250.out | refine below_set ?_ GE254.out | refine below_set ?_ GE265.out | refine below_set ?_ GE272.out) | exact HB.out)⟩

end Go.Proofs.Ytofkcdnkbjpmmaa.X
end
section
namespace Go.Proofs.Ytofkcdnkbjpmmaa.MV
open Go.RowKit Go.Proofs.YtofkcdnkbjpmmaaW.PrintWords Go.Proofs.YtofkcdnkbjpmmaaW.PrintMore Go.Proofs.Ytofkcdnkbjpmmaa.X Go.Proofs.Ytofkcdnkbjpmmaa.XL Go.Proofs.Ytofkcdnkbjpmmaa.XO Go.Proofs.Ytofkcdnkbjpmmaa.LN
abbrev R6 := Int × Int × Int × Int × Int × Bool
abbrev R5 := Int × Int × Int × Int × Int
def F6 : R6 := (0, 0, 0, 0, 70, true)
def T6 (t : List Int) (p q kind : Int) : R6 := (p, q, kind, (colR t q).1, 0, true)
def stopR (t : List Int) (x : Nat) : Prop := x = t.length ∨ t.getD x 0 ≠ 10 ∨ t.getD (x - 1) 0 = 10
instance (t : List Int) (x : Nat) : Decidable (stopR t x) := by unfold stopR; infer_instance
def nxt (t : List Int) : Nat → Nat → Option Nat
  | 0, _ => none
  | d + 1, x => if stopR t x then some x else nxt t d (x + 1)
def nx (t : List Int) (x : Nat) : Option Nat := nxt t (t.length + 1 - x) x
theorem nx_at {t : List Int} {x : Nat} (h : x ≤ t.length) : nx t x = if stopR t x then some x else nx t (x + 1) := by
  unfold nx
  rw [show t.length + 1 - x = (t.length + 1 - (x + 1)) + 1 from by omega]
  conv => lhs; unfold nxt
theorem nx_end {t : List Int} {x : Nat} (h : ¬ x ≤ t.length) : nx t x = none := by
  unfold nx
  rw [show t.length + 1 - x = 0 from by omega]
  rfl
def onwN (t : List Int) : Nat → Nat → Int → Int
  | 0, _, f => f
  | n + 1, x, f => match nx t x with
    | none => f
    | some y => onwN t n (y + 1) y
def stopL (t : List Int) (x : Nat) : Prop := t.getD x 0 ≠ 10 ∨ x = 0 ∨ t.getD (x - 1) 0 = 10
instance (t : List Int) (x : Nat) : Decidable (stopL t x) := by unfold stopL; infer_instance
def prv (t : List Int) : Nat → Option Nat
  | 0 => none
  | x + 1 => if stopL t x then some x else prv t x
def bckN (t : List Int) : Nat → Nat → Int → Int
  | 0, _, f => f
  | n + 1, x, f => match prv t x with
    | none => f
    | some y => bckN t n y y
def fin6 (t : List Int) (p f : Int) : R6 := if f < 0 then F6 else T6 t p f 1
def bytesV (t : List Int) (p n : Nat) (line : Int) (key : ByteArray) : R6 :=
  if key.toList = ([104] : List UInt8) then (if p = beg t p then F6 else T6 t p (max ((p : Int) - n) (beg t p)) 1)
  else if key.toList = ([108] : List UInt8) then (if p = fin t p then F6 else T6 t p (min ((p : Int) + n) (fin t p)) 1)
  else if key.toList = ([32] : List UInt8) then fin6 t p (onwN t n (p + 1) (-1))
  else if key.toList = ([8] : List UInt8) then fin6 t p (bckN t n p (-1))
  else if key.toList = ([48] : List UInt8) then T6 t p (beg t p) 1
  else if key.toList = ([94] : List UInt8) then T6 t p (firstR t line).1 1
  else if key.toList = ([124] : List UInt8) then (p, (atR t line ((n : Int) - 1)).1, 1, (n : Int) - 1, 0, true)
  else if key.toList = ([36] : List UInt8) then (if (endR t (line + n - 1)).2 = 0 then (p, (endR t (line + n - 1)).1, 1, -1, 0, true) else F6)
  else (0, 0, 0, 0, 0, false)
def lineV (t : List Int) (p want to_ : Int) (jk : Bool) : R6 :=
  if to_ < 0 ∨ to_ > cnt 10 t then F6 else if jk = true then (p, (atR t to_ want).1, 3, want, 0, true) else T6 t p (firstR t to_).1 3
def linesV (t : List Int) (p : Nat) (want : Int) (n : Nat) (given : Bool) (line : Int) (key : ByteArray) : R6 :=
  if key.toList = ([106] : List UInt8) then lineV t p want (line + n) true
  else if key.toList = ([43] : List UInt8) then lineV t p want (line + n) false
  else if key.toList = ([13] : List UInt8) then lineV t p want (line + n) false
  else if key.toList = ([107] : List UInt8) then lineV t p want (line - n) true
  else if key.toList = ([45] : List UInt8) then lineV t p want (line - n) false
  else if key.toList = ([95] : List UInt8) then lineV t p want (line + (n - 1)) false
  else if key.toList = ([71] : List UInt8) then lineV t p want (if given = true then (n : Int) - 1 else cnt 10 t) false
  else if key.toList = ([103, 103] : List UInt8) then lineV t p want ((n : Int) - 1) false
  else (0, 0, 0, 0, 0, false)
def five (r : R6) : R5 := (r.1, r.2.1, r.2.2.1, r.2.2.2.1, r.2.2.2.2.1)
def moveN (t : List Int) (p : Nat) (want : Int) (n : Nat) (given : Bool) (key : ByteArray) : R5 :=
  if (bytesV t p n (cnt 10 (t.take p)) key).2.2.2.2.2 = true then five (bytesV t p n (cnt 10 (t.take p)) key)
  else if (linesV t p want n given (cnt 10 (t.take p)) key).2.2.2.2.2 = true then five (linesV t p want n given (cnt 10 (t.take p)) key)
  else (0, 0, 0, 0, 2)
def moveV (t : List Int) (a want count : Int) (key : ByteArray) : R5 :=
  if (0 ≤ a ∧ a ≤ t.length) ∧ ¬ want < -1 ∧ ¬ count < 0 ∧ ¬ count > 9999 then moveN t a.toNat want (max count 1).toNat (decide (count > 0)) key else (0, 0, 0, 0, 2)
section
variable {t : List Int}
theorem to_ev (hl : t.length ≤ 140737488355328) (p want n : Int) (g : Bool) (ln ls st en q kind : Int) : Ev (fun k => step_walk_to.f k t p want n g ln ls st en q kind) (T6 t p q kind) := Ev.done (Column_ev hl q) rfl
theorem end_ev (hl : t.length ≤ 140737488355328) (f p want m : Int) (g : Bool) (ln ls st en : Int) : Ev (fun k => if f < 0 then ((step_walk_fails.f t p want m g ln ls st en).bind fun b => (some (b.1, b.2.1, b.2.2.1, b.2.2.2.1, b.2.2.2.2.1, b.2.2.2.2.2))) else ((step_walk_to.f k t p want m g ln ls st en f 1).bind fun b => (some (b.1, b.2.1, b.2.2.1, b.2.2.2.1, b.2.2.2.2.1, b.2.2.2.2.2)))) (fin6 t p f) := by
  unfold fin6
  by_cases h : f < 0
  · simp only [if_pos h]
    exact Ev.cbind rfl (Ev.now _)
  · simp only [if_neg h]
    exact Ev.done (to_ev hl p want m g ln ls st en f 1) rfl
theorem onw_fin (hl : t.length ≤ 140737488355328) (f n x : Int) (p want m : Int) (g : Bool) (ln ls st en : Int) : Ev (fun k => step_walk_onward.j1 k f n x false t p want m g ln ls st en) (fin6 t p f) := Ev.step (fun _ => rfl) (end_ev hl f p want m g ln ls st en)
theorem bck_fin (hl : t.length ≤ 140737488355328) (f n x : Int) (p want m : Int) (g : Bool) (ln ls st en : Int) : Ev (fun k => step_walk_back.j1 k f n x false t p want m g ln ls st en) (fin6 t p f) := Ev.step (fun _ => rfl) (end_ev hl f p want m g ln ls st en)
theorem onw_l0 (hl : t.length ≤ 140737488355328) (p want m : Int) (g : Bool) (ln ls st en : Int) : ∀ (d x n : Nat) (f : Int), x + d = t.length + 1 → 1 ≤ x → n ≤ 9999 → Ev (fun k => step_walk_onward.l0 k f (n : Int) (x : Int) t p want m g ln ls st en) (fin6 t p (onwN t n x f)) := by
  intro d
  induction d with
  | zero =>
    intro x n f hx h1 hn
    have e : onwN t n x f = f := by
      cases n with
      | zero => rfl
      | succ n => conv => lhs; unfold onwN
                  rw [nx_end (by omega)]
    rw [e]
    exact Ev.step (f := fun k => if (x : Int) ≤ (t.length : Int) then (step_walk_onward.j1 k f (n : Int) (x : Int) (decide ((n : Int) > 0)) t p want m g ln ls st en) else (step_walk_onward.j1 k f (n : Int) (x : Int) false t p want m g ln ls st en)) (fun _ => rfl) (Ev.neg (by omega) (onw_fin hl _ _ _ _ _ _ _ _ _ _ _))
  | succ d ih =>
    intro x n f hx h1 hn
    refine Ev.step (f := fun k => if (x : Int) ≤ (t.length : Int) then (step_walk_onward.j1 k f (n : Int) (x : Int) (decide ((n : Int) > 0)) t p want m g ln ls st en) else (step_walk_onward.j1 k f (n : Int) (x : Int) false t p want m g ln ls st en)) (fun _ => rfl) (Ev.pos (by omega) ?_)
    cases n with
    | zero =>
      rw [decide_eq_false (by omega)]
      exact onw_fin hl _ _ _ _ _ _ _ _ _ _ _
    | succ n =>
      rw [decide_eq_true (by omega)]
      have w1 : wrap64 (((n + 1 : Nat) : Int) - 1) = (n : Int) := by rw [wrap64_id (by omega) (by omega)]; omega
      have w2 : wrap64 ((x : Int) + 1) = ((x + 1 : Nat) : Int) := by rw [wrap64_id (by omega) (by omega)]; omega
      have w3 : wrap64 ((x : Int) - 1) = ((x - 1 : Nat) : Int) := by rw [wrap64_id (by omega) (by omega)]; omega
      refine Ev.step (f := fun k => if (x : Int) = (t.length : Int) then (step_walk_onward.l0 k (x : Int) (wrap64 (((n + 1 : Nat) : Int) - 1)) (wrap64 ((x : Int) + 1)) t p want m g ln ls st en) else (if 0 ≤ (x : Int) then (if (x : Int) < (t.length : Int) then (if (rd t (x : Int)) = 10 then (if 0 ≤ (wrap64 ((x : Int) - 1)) then (if (wrap64 ((x : Int) - 1)) < (t.length : Int) then (if (rd t (wrap64 ((x : Int) - 1))) = 10 then (step_walk_onward.l0 k (x : Int) (wrap64 (((n + 1 : Nat) : Int) - 1)) (wrap64 ((x : Int) + 1)) t p want m g ln ls st en) else (step_walk_onward.l0 k f ((n + 1 : Nat) : Int) (wrap64 ((x : Int) + 1)) t p want m g ln ls st en)) else (none)) else (none)) else (step_walk_onward.l0 k (x : Int) (wrap64 (((n + 1 : Nat) : Int) - 1)) (wrap64 ((x : Int) + 1)) t p want m g ln ls st en)) else (none)) else (none))) (fun _ => rfl) ?_
      rw [w1, w2, w3, rd_at, rd_at]
      clear w1 w2 w3
      have yes : stopR t x → Ev (fun k => step_walk_onward.l0 k (x : Int) (n : Int) ((x + 1 : Nat) : Int) t p want m g ln ls st en) (fin6 t p (onwN t (n + 1) x f)) := by
        intro h
        have e : onwN t (n + 1) x f = onwN t n (x + 1) x := by
          conv => lhs; unfold onwN
          rw [nx_at (by omega), if_pos h]
        rw [e]
        exact ih (x + 1) n x (by omega) (by omega) (by omega)
      by_cases hx1 : x = t.length
      · exact Ev.pos (by omega) (yes (.inl hx1))
      · refine Ev.neg (by omega) (Ev.pos (by omega) (Ev.pos (by omega) ?_))
        by_cases hx2 : t.getD x 0 = 10
        · refine Ev.pos hx2 (Ev.pos (by omega) (Ev.pos (by omega) ?_))
          by_cases hx3 : t.getD (x - 1) 0 = 10
          · exact Ev.pos hx3 (yes (.inr (.inr hx3)))
          · have hn2 : ¬ stopR t x := fun h => by
              rcases h with h | h | h
              · exact hx1 h
              · exact h hx2
              · exact hx3 h
            have e : onwN t (n + 1) x f = onwN t (n + 1) (x + 1) f := by
              conv => lhs; unfold onwN
              conv => rhs; unfold onwN
              rw [nx_at (t := t) (x := x) (by omega), if_neg hn2]
            rw [e]
            exact Ev.neg hx3 (ih (x + 1) (n + 1) f (by omega) (by omega) (by omega))
        · exact Ev.neg hx2 (yes (.inr (.inl hx2)))
theorem bck_l0 (hl : t.length ≤ 140737488355328) (p want m : Int) (g : Bool) (ln ls st en : Int) : ∀ (x n : Nat) (f : Int), x ≤ t.length → n ≤ 9999 → Ev (fun k => step_walk_back.l0 k f (n : Int) ((x : Int) - 1) t p want m g ln ls st en) (fin6 t p (bckN t n x f)) := by
  intro x
  induction x with
  | zero =>
    intro n f hx hn
    have e : bckN t n 0 f = f := by
      cases n with
      | zero => rfl
      | succ n => rfl
    rw [e]
    exact Ev.step (f := fun k => if ((0 : Nat) : Int) - 1 ≥ 0 then (step_walk_back.j1 k f (n : Int) (((0 : Nat) : Int) - 1) (decide ((n : Int) > 0)) t p want m g ln ls st en) else (step_walk_back.j1 k f (n : Int) (((0 : Nat) : Int) - 1) false t p want m g ln ls st en)) (fun _ => rfl) (Ev.neg (by omega) (bck_fin hl _ _ _ _ _ _ _ _ _ _ _))
  | succ x ih =>
    intro n f hx hn
    rw [show ((x + 1 : Nat) : Int) - 1 = (x : Int) from by omega]
    refine Ev.step (f := fun k => if (x : Int) ≥ 0 then (step_walk_back.j1 k f (n : Int) (x : Int) (decide ((n : Int) > 0)) t p want m g ln ls st en) else (step_walk_back.j1 k f (n : Int) (x : Int) false t p want m g ln ls st en)) (fun _ => rfl) (Ev.pos (by omega) ?_)
    cases n with
    | zero =>
      rw [decide_eq_false (by omega)]
      exact bck_fin hl _ _ _ _ _ _ _ _ _ _ _
    | succ n =>
      rw [decide_eq_true (by omega)]
      have w1 : wrap64 (((n + 1 : Nat) : Int) - 1) = (n : Int) := by rw [wrap64_id (by omega) (by omega)]; omega
      have w2 : wrap64 ((x : Int) - 1) = (x : Int) - 1 := wrap64_id (by omega) (by omega)
      refine Ev.step (f := fun k => if 0 ≤ (x : Int) then (if (x : Int) < (t.length : Int) then (if (rd t (x : Int)) = 10 then (if (x : Int) = 0 then (step_walk_back.l0 k (x : Int) (wrap64 (((n + 1 : Nat) : Int) - 1)) (wrap64 ((x : Int) - 1)) t p want m g ln ls st en) else (if 0 ≤ (wrap64 ((x : Int) - 1)) then (if (wrap64 ((x : Int) - 1)) < (t.length : Int) then (if (rd t (wrap64 ((x : Int) - 1))) = 10 then (step_walk_back.l0 k (x : Int) (wrap64 (((n + 1 : Nat) : Int) - 1)) (wrap64 ((x : Int) - 1)) t p want m g ln ls st en) else (step_walk_back.l0 k f ((n + 1 : Nat) : Int) (wrap64 ((x : Int) - 1)) t p want m g ln ls st en)) else (none)) else (none))) else (step_walk_back.l0 k (x : Int) (wrap64 (((n + 1 : Nat) : Int) - 1)) (wrap64 ((x : Int) - 1)) t p want m g ln ls st en)) else (none)) else (none)) (fun _ => rfl) ?_
      rw [w1, w2, rd_at]
      clear w1 w2
      have yes : stopL t x → Ev (fun k => step_walk_back.l0 k (x : Int) (n : Int) ((x : Int) - 1) t p want m g ln ls st en) (fin6 t p (bckN t (n + 1) (x + 1) f)) := by
        intro h
        have e : bckN t (n + 1) (x + 1) f = bckN t n x x := by
          conv => lhs; unfold bckN prv
          rw [if_pos h]
        rw [e]
        exact ih n x (by omega) (by omega)
      refine Ev.pos (by omega) (Ev.pos (by omega) ?_)
      by_cases hx2 : t.getD x 0 = 10
      · refine Ev.pos hx2 ?_
        by_cases hx0 : x = 0
        · exact Ev.pos (by omega) (yes (.inr (.inl hx0)))
        · rw [show (x : Int) - 1 = ((x - 1 : Nat) : Int) from by omega, rd_at]
          refine Ev.neg (by omega) (Ev.pos (by omega) (Ev.pos (by omega) ?_))
          rw [show ((x - 1 : Nat) : Int) = (x : Int) - 1 from by omega]
          by_cases hx3 : t.getD (x - 1) 0 = 10
          · exact Ev.pos hx3 (yes (.inr (.inr hx3)))
          · have hn2 : ¬ stopL t x := fun h => by
              rcases h with h | h | h
              · exact h hx2
              · exact hx0 h
              · exact hx3 h
            have e : bckN t (n + 1) (x + 1) f = bckN t (n + 1) x f := by
              conv => lhs; unfold bckN prv
              conv => rhs; unfold bckN
              rw [if_neg hn2]
            rw [e]
            exact Ev.neg hx3 (ih (n + 1) f (by omega) (by omega))
      · exact Ev.neg hx2 (yes (.inl hx2))
end
section
variable {t : List Int} (hu : u8s t = true) (hl : t.length ≤ 140737488355328)
include hu hl
theorem bytes_ev {p n : Nat} (hp : p ≤ t.length) (h1 : 1 ≤ n) (hn : n ≤ 9999) (want : Int) (g : Bool) (last_ : Int) (key : ByteArray) : Ev (fun k => step_walk_bytes.f k t (p : Int) want (n : Int) g (cnt 10 (t.take p)) last_ (beg t p : Int) (fin t p : Int) key) (bytesV t p n (cnt 10 (t.take p)) key) := by
  have hb := beg_le t p
  have hf := fin_ge t p
  have hf2 := fin_le hp
  have c0 := cnt_nonneg 10 (t.take p)
  have c1 := cnt_le 10 (t.take p)
  have c2 := List.length_take_le p t
  have f6 : ∀ (ls : Int) (st en : Int), step_walk_fails.f t (p : Int) want (n : Int) g (cnt 10 (t.take p)) ls st en = some F6 := fun _ _ _ => rfl
  by_cases k1 : key.toList = ([104] : List UInt8)
  · have e : bytesV t p n (cnt 10 (t.take p)) key = if p = beg t p then F6 else T6 t p (max ((p : Int) - n) (beg t p)) 1 := by unfold bytesV; rw [if_pos k1]
    rw [e]
    refine Ev.pos k1 ?_
    by_cases h : p = beg t p
    · rw [if_pos h]
      exact Ev.pos (by omega) (Ev.cbind (f6 _ _ _) (Ev.now _))
    · have w : mx (wrap64 ((p : Int) - n)) (beg t p : Int) = max ((p : Int) - n) (beg t p) := by rw [mx_eq, wrap64_id (by omega) (by omega)]
      rw [if_neg h, w]
      exact Ev.neg (by omega) (Ev.done (to_ev hl _ _ _ _ _ _ _ _ _ _) rfl)
  by_cases k2 : key.toList = ([108] : List UInt8)
  · have e : bytesV t p n (cnt 10 (t.take p)) key = if p = fin t p then F6 else T6 t p (min ((p : Int) + n) (fin t p)) 1 := by unfold bytesV; rw [if_neg k1, if_pos k2]
    rw [e]
    refine Ev.neg k1 (Ev.pos k2 ?_)
    by_cases h : p = fin t p
    · rw [if_pos h]
      exact Ev.pos (by omega) (Ev.cbind (f6 _ _ _) (Ev.now _))
    · have w : mn (wrap64 ((p : Int) + n)) (fin t p : Int) = min ((p : Int) + n) (fin t p) := by rw [mn_eq, wrap64_id (by omega) (by omega)]
      rw [if_neg h, w]
      exact Ev.neg (by omega) (Ev.done (to_ev hl _ _ _ _ _ _ _ _ _ _) rfl)
  by_cases k3 : key.toList = ([32] : List UInt8)
  · have e : bytesV t p n (cnt 10 (t.take p)) key = fin6 t p (onwN t n (p + 1) (-1)) := by unfold bytesV; rw [if_neg k1, if_neg k2, if_pos k3]
    rw [e]
    refine Ev.neg k1 (Ev.neg k2 (Ev.pos k3 (Ev.done (a := fin6 t p (onwN t n (p + 1) (-1))) ?_ rfl)))
    unfold step_walk_onward.f
    rw [show wrap64 ((p : Int) + 1) = ((p + 1 : Nat) : Int) from by rw [wrap64_id (by omega) (by omega)]; omega]
    exact onw_l0 hl _ _ _ _ _ _ _ _ (t.length - p) (p + 1) n (-1) (by omega) (by omega) hn
  by_cases k4 : key.toList = ([8] : List UInt8)
  · have e : bytesV t p n (cnt 10 (t.take p)) key = fin6 t p (bckN t n p (-1)) := by unfold bytesV; rw [if_neg k1, if_neg k2, if_neg k3, if_pos k4]
    rw [e]
    refine Ev.neg k1 (Ev.neg k2 (Ev.neg k3 (Ev.pos k4 (Ev.done (a := fin6 t p (bckN t n p (-1))) ?_ rfl))))
    unfold step_walk_back.f
    rw [wrap64_id (n := (p : Int) - 1) (by omega) (by omega)]
    exact bck_l0 hl _ _ _ _ _ _ _ _ p n (-1) hp hn
  by_cases k5 : key.toList = ([48] : List UInt8)
  · have e : bytesV t p n (cnt 10 (t.take p)) key = T6 t p (beg t p) 1 := by unfold bytesV; rw [if_neg k1, if_neg k2, if_neg k3, if_neg k4, if_pos k5]
    rw [e]
    exact Ev.neg k1 (Ev.neg k2 (Ev.neg k3 (Ev.neg k4 (Ev.pos k5 (Ev.done (to_ev hl _ _ _ _ _ _ _ _ _ _) rfl)))))
  by_cases k6 : key.toList = ([94] : List UInt8)
  · have e : bytesV t p n (cnt 10 (t.take p)) key = T6 t p (firstR t (cnt 10 (t.take p))).1 1 := by unfold bytesV; rw [if_neg k1, if_neg k2, if_neg k3, if_neg k4, if_neg k5, if_pos k6]
    rw [e]
    exact Ev.neg k1 (Ev.neg k2 (Ev.neg k3 (Ev.neg k4 (Ev.neg k5 (Ev.pos k6 (Ev.bind (First_ev hu hl _ (by omega)) (Ev.done (to_ev hl _ _ _ _ _ _ _ _ _ _) rfl)))))))
  by_cases k7 : key.toList = ([124] : List UInt8)
  · have e : bytesV t p n (cnt 10 (t.take p)) key = ((p : Int), (atR t (cnt 10 (t.take p)) ((n : Int) - 1)).1, 1, (n : Int) - 1, 0, true) := by unfold bytesV; rw [if_neg k1, if_neg k2, if_neg k3, if_neg k4, if_neg k5, if_neg k6, if_pos k7]
    have w : wrap64 ((n : Int) - 1) = (n : Int) - 1 := wrap64_id (by omega) (by omega)
    rw [e]
    refine Ev.neg k1 (Ev.neg k2 (Ev.neg k3 (Ev.neg k4 (Ev.neg k5 (Ev.neg k6 (Ev.pos k7 ?_))))))
    rw [w]
    exact Ev.done (At_ev hu hl _ _ (by omega)) rfl
  by_cases k8 : key.toList = ([36] : List UInt8)
  · have e : bytesV t p n (cnt 10 (t.take p)) key = if (endR t (cnt 10 (t.take p) + n - 1)).2 = 0 then ((p : Int), (endR t (cnt 10 (t.take p) + n - 1)).1, 1, -1, 0, true) else F6 := by unfold bytesV; rw [if_neg k1, if_neg k2, if_neg k3, if_neg k4, if_neg k5, if_neg k6, if_neg k7, if_pos k8]
    have w : wrap64 ((wrap64 (cnt 10 (t.take p) + (n : Int))) - 1) = cnt 10 (t.take p) + (n : Int) - 1 := by rw [wrap64_id (n := cnt 10 (t.take p) + (n : Int)) (by omega) (by omega), wrap64_id (by omega) (by omega)]
    rw [e]
    refine Ev.neg k1 (Ev.neg k2 (Ev.neg k3 (Ev.neg k4 (Ev.neg k5 (Ev.neg k6 (Ev.neg k7 (Ev.pos k8 ?_)))))))
    rw [w]
    refine Ev.bind (End_ev hu hl _ (by omega)) ?_
    by_cases h : (endR t (cnt 10 (t.take p) + n - 1)).2 = 0
    · rw [if_pos h, if_pos h]
      exact Ev.now _
    · rw [if_neg h, if_neg h]
      exact Ev.cbind (f6 _ _ _) (Ev.now _)
  have e : bytesV t p n (cnt 10 (t.take p)) key = (0, 0, 0, 0, 0, false) := by unfold bytesV; rw [if_neg k1, if_neg k2, if_neg k3, if_neg k4, if_neg k5, if_neg k6, if_neg k7, if_neg k8]
  rw [e]
  exact Ev.neg k1 (Ev.neg k2 (Ev.neg k3 (Ev.neg k4 (Ev.neg k5 (Ev.neg k6 (Ev.neg k7 (Ev.neg k8 (Ev.now _))))))))
theorem lines_j5 (p want n to_ : Int) (g : Bool) (ln ls st en : Int) (jk : Bool) (hto : to_ ≤ 9223372036854775807) : Ev (fun k => step_walk_lines.j5 k to_ jk t p want n g ln ls st en) (if jk = true then (p, (atR t to_ want).1, 3, want, 0, true) else T6 t p (firstR t to_).1 3) := by
  refine Ev.step (f := fun k => if jk = true then ((lines_At.f k t to_ want).bind fun bt240 => (some (p, bt240.1, 3, want, 0, true))) else ((lines_First.f k t to_).bind fun bt242 => ((step_walk_to.f k t p want n g ln ls st en bt242.1 3).bind fun bt244 => (some (bt244.1, bt244.2.1, bt244.2.2.1, bt244.2.2.2.1, bt244.2.2.2.2.1, bt244.2.2.2.2.2))))) (fun _ => rfl) ?_
  cases jk with
  | true => exact Ev.pos rfl (Ev.done (At_ev hu hl to_ want hto) rfl)
  | false => exact Ev.neg (by decide) (Ev.bind (First_ev hu hl to_ hto) (Ev.done (to_ev hl _ _ _ _ _ _ _ _ _ _) rfl))
theorem lines_j3 (p want n to_ : Int) (g : Bool) (ln st en : Int) (key : ByteArray) (jk : Bool) (hto : to_ ≤ 9223372036854775807) (hk : jk = true ↔ (key.toList = ([106] : List UInt8) ∨ key.toList = ([107] : List UInt8))) : Ev (fun k => step_walk_lines.j3 k key to_ t p want n g ln (cnt 10 t) st en) (lineV t p want to_ jk) := by
  have j5 := lines_j5 hu hl p want n to_ g ln (cnt 10 t) st en jk hto
  have j4f : ¬ (to_ < 0 ∨ to_ > cnt 10 t) → Ev (fun k => step_walk_lines.j4 k key to_ false t p want n g ln (cnt 10 t) st en) (lineV t p want to_ jk) := by
    intro h
    have e : lineV t p want to_ jk = (if jk = true then (p, (atR t to_ want).1, 3, want, 0, true) else T6 t p (firstR t to_).1 3) := by unfold lineV; rw [if_neg h]
    rw [e]
    refine Ev.step (f := fun k => if key.toList = ([106] : List UInt8) then (step_walk_lines.j5 k to_ true t p want n g ln (cnt 10 t) st en) else (step_walk_lines.j5 k to_ (key.toList == ([107] : List UInt8)) t p want n g ln (cnt 10 t) st en)) (fun _ => rfl) ?_
    by_cases h1 : key.toList = ([106] : List UInt8)
    · have : jk = true := hk.2 (.inl h1)
      subst this
      exact Ev.pos h1 j5
    · refine Ev.neg h1 ?_
      have : (key.toList == ([107] : List UInt8)) = jk := by
        cases jk with
        | true =>
          rcases hk.1 rfl with h2 | h2
          · exact absurd h2 h1
          · exact beq_iff_eq.2 h2
        | false => exact beq_eq_false_iff_ne.2 (fun h2 => by have := hk.2 (.inr h2); cases this)
      rw [this]
      exact j5
  have j4t : (to_ < 0 ∨ to_ > cnt 10 t) → Ev (fun k => step_walk_lines.j4 k key to_ true t p want n g ln (cnt 10 t) st en) (lineV t p want to_ jk) := by
    intro h
    have e : lineV t p want to_ jk = F6 := by unfold lineV; rw [if_pos h]
    rw [e]
    exact Ev.step (f := fun _ => (step_walk_fails.f t p want n g ln (cnt 10 t) st en).bind fun bt234 => (some (bt234.1, bt234.2.1, bt234.2.2.1, bt234.2.2.2.1, bt234.2.2.2.2.1, bt234.2.2.2.2.2))) (fun _ => rfl) (Ev.cbind rfl (Ev.now _))
  refine Ev.step (f := fun k => if to_ < 0 then (step_walk_lines.j4 k key to_ true t p want n g ln (cnt 10 t) st en) else (step_walk_lines.j4 k key to_ (decide (to_ > cnt 10 t)) t p want n g ln (cnt 10 t) st en)) (fun _ => rfl) ?_
  by_cases h0 : to_ < 0
  · exact Ev.pos h0 (j4t (.inl h0))
  · refine Ev.neg h0 ?_
    by_cases h1 : to_ > cnt 10 t
    · rw [decide_eq_true h1]
      exact j4t (.inr h1)
    · rw [decide_eq_false h1]
      exact j4f (fun h => h.elim h0 h1)
theorem lines_ev {p n : Nat} (hp : p ≤ t.length) (h1 : 1 ≤ n) (hn : n ≤ 9999) (want : Int) (g : Bool) (st en : Int) (key : ByteArray) : Ev (fun k => step_walk_lines.f k t (p : Int) want (n : Int) g (cnt 10 (t.take p)) (cnt 10 t) st en key) (linesV t p want n g (cnt 10 (t.take p)) key) := by
  have c0 := cnt_nonneg 10 (t.take p)
  have c1 := cnt_le 10 (t.take p)
  have c2 := List.length_take_le p t
  have c3 := cnt_nonneg 10 t
  have c4 := cnt_le 10 t
  have w1 : wrap64 (cnt 10 (t.take p) + (n : Int)) = cnt 10 (t.take p) + (n : Int) := wrap64_id (by omega) (by omega)
  have w2 : wrap64 (cnt 10 (t.take p) - (n : Int)) = cnt 10 (t.take p) - (n : Int) := wrap64_id (by omega) (by omega)
  have w3 : wrap64 ((n : Int) - 1) = (n : Int) - 1 := wrap64_id (by omega) (by omega)
  have w4 : wrap64 (cnt 10 (t.take p) + ((n : Int) - 1)) = cnt 10 (t.take p) + ((n : Int) - 1) := wrap64_id (by omega) (by omega)
  have J := fun (to_ : Int) (jk : Bool) (h : to_ ≤ 9223372036854775807) hk => lines_j3 hu hl (p : Int) want (n : Int) to_ g (cnt 10 (t.take p)) st en key jk h hk
  have j0t : ∀ jk : Bool, (jk = true ↔ (key.toList = ([106] : List UInt8) ∨ key.toList = ([107] : List UInt8))) → Ev (fun k => step_walk_lines.j0 k key (cnt 10 (t.take p)) key true t (p : Int) want (n : Int) g (cnt 10 (t.take p)) (cnt 10 t) st en) (lineV t p want (cnt 10 (t.take p) + n) jk) := by
    intro jk hk
    refine Ev.step (f := fun k => step_walk_lines.j3 k key (wrap64 (cnt 10 (t.take p) + (n : Int))) t (p : Int) want (n : Int) g (cnt 10 (t.take p)) (cnt 10 t) st en) (fun _ => rfl) ?_
    rw [w1]
    exact J _ jk (by omega) hk
  have j1t : ∀ jk : Bool, (jk = true ↔ (key.toList = ([106] : List UInt8) ∨ key.toList = ([107] : List UInt8))) → Ev (fun k => step_walk_lines.j1 k key (cnt 10 (t.take p)) key true t (p : Int) want (n : Int) g (cnt 10 (t.take p)) (cnt 10 t) st en) (lineV t p want (cnt 10 (t.take p) - n) jk) := by
    intro jk hk
    refine Ev.step (f := fun k => step_walk_lines.j3 k key (wrap64 (cnt 10 (t.take p) - (n : Int))) t (p : Int) want (n : Int) g (cnt 10 (t.take p)) (cnt 10 t) st en) (fun _ => rfl) ?_
    rw [w2]
    exact J _ jk (by omega) hk
  by_cases k1 : key.toList = ([106] : List UInt8)
  · have e : linesV t p want n g (cnt 10 (t.take p)) key = lineV t p want (cnt 10 (t.take p) + n) true := by unfold linesV; rw [if_pos k1]
    rw [e]
    refine Ev.pos k1 ?_
    rw [beq_iff_eq.2 k1]
    exact j0t true ⟨fun _ => .inl k1, fun _ => rfl⟩
  by_cases k2 : key.toList = ([43] : List UInt8)
  · have e : linesV t p want n g (cnt 10 (t.take p)) key = lineV t p want (cnt 10 (t.take p) + n) false := by unfold linesV; rw [if_neg k1, if_pos k2]
    rw [e]
    refine Ev.neg k1 (Ev.pos k2 ?_)
    rw [beq_iff_eq.2 k2]
    exact j0t false ⟨(fun h => by cases h), (fun h => by rw [k2] at h; simp at h)⟩
  by_cases k3 : key.toList = ([13] : List UInt8)
  · have e : linesV t p want n g (cnt 10 (t.take p)) key = lineV t p want (cnt 10 (t.take p) + n) false := by unfold linesV; rw [if_neg k1, if_neg k2, if_pos k3]
    rw [e]
    refine Ev.neg k1 (Ev.neg k2 ?_)
    rw [beq_iff_eq.2 k3]
    exact j0t false ⟨(fun h => by cases h), (fun h => by rw [k3] at h; simp at h)⟩
  have j0f : ∀ {r : R6}, Ev (fun k => if key.toList = ([107] : List UInt8) then (step_walk_lines.j1 k key (cnt 10 (t.take p)) key (key.toList == ([107] : List UInt8)) t (p : Int) want (n : Int) g (cnt 10 (t.take p)) (cnt 10 t) st en) else (step_walk_lines.j1 k key (cnt 10 (t.take p)) key (key.toList == ([45] : List UInt8)) t (p : Int) want (n : Int) g (cnt 10 (t.take p)) (cnt 10 t) st en)) r → Ev (fun k => step_walk_lines.f k t (p : Int) want (n : Int) g (cnt 10 (t.take p)) (cnt 10 t) st en key) r := by
    intro r h
    refine Ev.neg k1 (Ev.neg k2 ?_)
    rw [beq_eq_false_iff_ne.2 k3]
    exact Ev.step (fun _ => rfl) h
  by_cases k4 : key.toList = ([107] : List UInt8)
  · have e : linesV t p want n g (cnt 10 (t.take p)) key = lineV t p want (cnt 10 (t.take p) - n) true := by unfold linesV; rw [if_neg k1, if_neg k2, if_neg k3, if_pos k4]
    rw [e]
    refine j0f (Ev.pos k4 ?_)
    rw [beq_iff_eq.2 k4]
    exact j1t true ⟨fun _ => .inr k4, fun _ => rfl⟩
  have nk : ∀ b : Bool, b = false → (b = true ↔ (key.toList = ([106] : List UInt8) ∨ key.toList = ([107] : List UInt8))) := fun b hb => ⟨(fun h => by rw [hb] at h; cases h), fun h => h.elim (fun h => absurd h k1) (fun h => absurd h k4)⟩
  by_cases k5 : key.toList = ([45] : List UInt8)
  · have e : linesV t p want n g (cnt 10 (t.take p)) key = lineV t p want (cnt 10 (t.take p) - n) false := by unfold linesV; rw [if_neg k1, if_neg k2, if_neg k3, if_neg k4, if_pos k5]
    rw [e]
    refine j0f (Ev.neg k4 ?_)
    rw [beq_iff_eq.2 k5]
    exact j1t false (nk false rfl)
  have j1f : ∀ {r : R6}, Ev (fun k => if key.toList = ([95] : List UInt8) then (step_walk_lines.j3 k key (wrap64 (cnt 10 (t.take p) + (wrap64 ((n : Int) - 1)))) t (p : Int) want (n : Int) g (cnt 10 (t.take p)) (cnt 10 t) st en) else (if key.toList = ([71] : List UInt8) then (step_walk_lines.j2 k key (key.toList == ([71] : List UInt8)) t (p : Int) want (n : Int) g (cnt 10 (t.take p)) (cnt 10 t) st en) else (step_walk_lines.j2 k key (key.toList == ([103, 103] : List UInt8)) t (p : Int) want (n : Int) g (cnt 10 (t.take p)) (cnt 10 t) st en))) r → Ev (fun k => step_walk_lines.f k t (p : Int) want (n : Int) g (cnt 10 (t.take p)) (cnt 10 t) st en key) r := by
    intro r h
    refine j0f (Ev.neg k4 ?_)
    rw [beq_eq_false_iff_ne.2 k5]
    exact Ev.step (fun _ => rfl) h
  by_cases k6 : key.toList = ([95] : List UInt8)
  · have e : linesV t p want n g (cnt 10 (t.take p)) key = lineV t p want (cnt 10 (t.take p) + ((n : Int) - 1)) false := by unfold linesV; rw [if_neg k1, if_neg k2, if_neg k3, if_neg k4, if_neg k5, if_pos k6]
    rw [e]
    refine j1f (Ev.pos k6 ?_)
    rw [w3, w4]
    exact J _ false (by omega) (nk false rfl)
  have j2t : ∀ {r : R6}, Ev (fun k => if key.toList = ([71] : List UInt8) then (if g = true then (step_walk_lines.j3 k key (wrap64 ((n : Int) - 1)) t (p : Int) want (n : Int) g (cnt 10 (t.take p)) (cnt 10 t) st en) else (step_walk_lines.j3 k key (cnt 10 t) t (p : Int) want (n : Int) g (cnt 10 (t.take p)) (cnt 10 t) st en)) else (step_walk_lines.j3 k key (wrap64 ((n : Int) - 1)) t (p : Int) want (n : Int) g (cnt 10 (t.take p)) (cnt 10 t) st en)) r → Ev (fun k => step_walk_lines.j2 k key true t (p : Int) want (n : Int) g (cnt 10 (t.take p)) (cnt 10 t) st en) r := fun h => Ev.step (fun _ => rfl) h
  by_cases k7 : key.toList = ([71] : List UInt8)
  · have e : linesV t p want n g (cnt 10 (t.take p)) key = lineV t p want (if g = true then (n : Int) - 1 else cnt 10 t) false := by unfold linesV; rw [if_neg k1, if_neg k2, if_neg k3, if_neg k4, if_neg k5, if_neg k6, if_pos k7]
    rw [e]
    refine j1f (Ev.neg k6 (Ev.pos k7 ?_))
    rw [beq_iff_eq.2 k7]
    refine j2t (Ev.pos k7 ?_)
    cases g with
    | true =>
      rw [w3]
      exact Ev.pos rfl (J _ false (by omega) (nk false rfl))
    | false => exact Ev.neg (by decide) (J _ false (by omega) (nk false rfl))
  by_cases k8 : key.toList = ([103, 103] : List UInt8)
  · have e : linesV t p want n g (cnt 10 (t.take p)) key = lineV t p want ((n : Int) - 1) false := by unfold linesV; rw [if_neg k1, if_neg k2, if_neg k3, if_neg k4, if_neg k5, if_neg k6, if_neg k7, if_pos k8]
    rw [e]
    refine j1f (Ev.neg k6 (Ev.neg k7 ?_))
    rw [beq_iff_eq.2 k8]
    refine j2t (Ev.neg k7 ?_)
    rw [w3]
    exact J _ false (by omega) (nk false rfl)
  have e : linesV t p want n g (cnt 10 (t.take p)) key = (0, 0, 0, 0, 0, false) := by unfold linesV; rw [if_neg k1, if_neg k2, if_neg k3, if_neg k4, if_neg k5, if_neg k6, if_neg k7, if_neg k8]
  rw [e]
  refine j1f (Ev.neg k6 (Ev.neg k7 ?_))
  rw [beq_eq_false_iff_ne.2 k8]
  exact Ev.step (f := fun _ => some (0, 0, 0, 0, 0, false)) (fun _ => rfl) (Ev.now _)
theorem move_ev (a want count : Int) (key : ByteArray) : Ev (fun k => step_Move.f k t a want count key) (moveV t a want count key) := by
  have bad : ∀ x : Int, Ev (fun k => step_Move.j0 k t a want count key x true) (0, 0, 0, 0, 2) := fun x => Ev.step (f := fun _ => some (0, 0, 0, 0, 2)) (fun _ => rfl) (Ev.now _)
  have o1 := Of_eq hu a
  refine Ev.cbind o1 ?_
  by_cases h0 : 0 ≤ a ∧ a ≤ t.length
  · rw [if_pos h0]
    refine Ev.pos rfl ?_
    by_cases h1 : want < -1
    · have e : moveV t a want count key = (0, 0, 0, 0, 2) := by unfold moveV; rw [if_neg (fun h => h.2.1 h1)]
      rw [e]
      exact Ev.pos h1 (bad _)
    by_cases h2 : count < 0
    · have e : moveV t a want count key = (0, 0, 0, 0, 2) := by unfold moveV; rw [if_neg (fun h => h.2.2.1 h2)]
      rw [e]
      exact Ev.neg h1 (Ev.pos h2 (bad _))
    by_cases h3 : count > 9999
    · have e : moveV t a want count key = (0, 0, 0, 0, 2) := by unfold moveV; rw [if_neg (fun h => h.2.2.2 h3)]
      rw [e]
      refine Ev.neg h1 (Ev.neg h2 ?_)
      rw [decide_eq_true h3]
      exact bad _
    have e : moveV t a want count key = moveN t a.toNat want (max count 1).toNat (decide (count > 0)) key := by unfold moveV; rw [if_pos ⟨h0, h1, h2, h3⟩]
    rw [e]
    refine Ev.neg h1 (Ev.neg h2 ?_)
    rw [decide_eq_false h3]
    obtain ⟨p, rfl⟩ := Int.eq_ofNat_of_zero_le h0.1
    have hp : p ≤ t.length := by omega
    simp only [Int.toNat_natCast]
    obtain ⟨n, hn⟩ : ∃ n : Nat, max count 1 = (n : Int) := ⟨(max count 1).toNat, by omega⟩
    have hm : mx count 1 = (n : Int) := by rw [mx_eq, hn]
    have c3 := cnt_nonneg 10 t
    have c4 := cnt_le 10 t
    have hw : wrap64 (cnt 10 t + 1 - 1) = cnt 10 t := by rw [wrap64_id (by omega) (by omega)]; omega
    have b1 := bytes_ev hu hl hp (n := n) (by omega) (by omega) want (decide (count > 0)) (cnt 10 t) key
    have l1 := lines_ev hu hl hp (n := n) (by omega) (by omega) want (decide (count > 0)) (beg t p) (fin t p) key
    rw [hn, Int.toNat_natCast]
    refine Ev.step (f := fun k => (lines_Count.f t).bind fun t253 => ((lines_Start.f k t (cnt 10 (t.take p))).bind fun bt255 => ((lines_End.f k t (cnt 10 (t.take p))).bind fun bt257 => ((step_walk_bytes.f k t (p : Int) want (mx count 1) (decide (count > 0)) (cnt 10 (t.take p)) (wrap64 (t253 - 1)) bt255.1 bt257.1 key).bind fun bt259 => (if bt259.2.2.2.2.2 = true then (some (bt259.1, bt259.2.1, bt259.2.2.1, bt259.2.2.2.1, bt259.2.2.2.2.1)) else ((step_walk_lines.f k t (p : Int) want (mx count 1) (decide (count > 0)) (cnt 10 (t.take p)) (wrap64 (t253 - 1)) bt255.1 bt257.1 key).bind fun bt266 => (if bt266.2.2.2.2.2 = true then (some (bt266.1, bt266.2.1, bt266.2.2.1, bt266.2.2.2.1, bt266.2.2.2.2.1)) else (some (0, 0, 0, 0, 2))))))))) (fun _ => rfl) (Ev.cbind (Count_eq hu hl) (Ev.bind (Start_of hu hl hp) (Ev.bind (End_of hu hl hp) ?_)))
    rw [hm, hw]
    refine Ev.bind b1 ?_
    by_cases h4 : (bytesV t p n (cnt 10 (t.take p)) key).2.2.2.2.2 = true
    · have e2 : moveN t p want n (decide (count > 0)) key = five (bytesV t p n (cnt 10 (t.take p)) key) := by unfold moveN; rw [if_pos h4]
      rw [e2]
      exact Ev.pos h4 (Ev.now _)
    · refine Ev.neg h4 (Ev.bind l1 ?_)
      by_cases h5 : (linesV t p want n (decide (count > 0)) (cnt 10 (t.take p)) key).2.2.2.2.2 = true
      · have e2 : moveN t p want n (decide (count > 0)) key = five (linesV t p want n (decide (count > 0)) (cnt 10 (t.take p)) key) := by unfold moveN; rw [if_neg h4, if_pos h5]
        rw [e2]
        exact Ev.pos h5 (Ev.now _)
      · have e2 : moveN t p want n (decide (count > 0)) key = (0, 0, 0, 0, 2) := by unfold moveN; rw [if_neg h4, if_neg h5]
        rw [e2]
        exact Ev.neg h5 (Ev.now _)
  · have e : moveV t a want count key = (0, 0, 0, 0, 2) := by unfold moveV; rw [if_neg (fun h => h0 h.1)]
    rw [if_neg h0, e]
    exact Ev.neg (by decide) (bad _)
end
end Go.Proofs.Ytofkcdnkbjpmmaa.MV
end
section
-- Written by wip/xprint.py over the kit's print.py: the Lean function of each Go function, and the proof that the Go text comes to it.
namespace Go.Proofs.Ytofkcdnkbjpmmaa.X
open Go.RowKit Go.Proofs.YtofkcdnkbjpmmaaW.PrintWords Go.Proofs.YtofkcdnkbjpmmaaW.PrintLast Go.Proofs.YtofkcdnkbjpmmaaW.PrintMore
attribute [local go_sem] max2_int min2_int max_two min_two max_three min_three max_four min_four   -- for this text's walks alone
set_option linter.unusedVariables false
set_option linter.unusedSimpArgs false

theorem eqA29 (d : Nat) (w : World) (x0 y0 : Int) (x1 y1 : Int) (x2 y2 : Int) :
    (Op.equalIn (d + 2) 29 (.agg #[.int .i64 x0, .int .i64 x1, .int .i64 x2]) (.agg #[.int .i64 y0, .int .i64 y1, .int .i64 y2])).run Try.prog w = .ok (x0 == y0 && (x1 == y1 && (x2 == y2))) w := by
  refine eqA_of Try.underlying29 (by kernel_rfl) ?_
  refine eqf_cons (by rfl) (by go_simp; rfl) (by go_simp; rfl) (by go_simp) ?_
  refine eqf_cons (by rfl) (by go_simp; rfl) (by go_simp; rfl) (by go_simp) ?_
  exact eqf_last (by rfl) (by go_simp; rfl) (by go_simp; rfl) (by go_simp)
end Go.Proofs.Ytofkcdnkbjpmmaa.X
end
