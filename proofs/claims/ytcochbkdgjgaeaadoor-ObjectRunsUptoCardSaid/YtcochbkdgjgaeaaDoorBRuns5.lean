/-
  Texts of one proof in one file (wip/bundle.py): X55.
  Conditions: none.
-/
import Derived.Test.YtcochbkdgjgaeaaDoorBRuns1
import Derived.Test.YtcochbkdgjgaeaaDoorBRuns2
import Derived.Test.YtcochbkdgjgaeaaDoorBRuns4
section
-- Written by wip/xprint.py over the kit's print.py: the Lean function of each Go function, and the proof that the Go text comes to it.
namespace Go.Proofs.YtcochbkdgjgaeaaDoor.X
open Go.RowKit Go.Proofs.YtcochbkdgjgaeaaDoorW.PrintWords Go.Proofs.YtcochbkdgjgaeaaDoorW.PrintLast Go.Proofs.YtcochbkdgjgaeaaDoorW.PrintMore
attribute [local go_sem] max2_int min2_int max_two min_two max_three min_three max_four min_four   -- for this text's walks alone
set_option linter.unusedVariables false
set_option linter.unusedSimpArgs false

attribute [local go_sem high] eqA29
/-! ### quoinlaw13_ObjectRuns: function 6 -/
set_option maxHeartbeats 8000000 in
set_option maxRecDepth 100000 in
theorem quoinlaw13_ObjectRuns.calls (k : Nat) (A0 : Option Addr) (c0 : Nat) (l0 : List Int) (a1 : Int) (a2 : Bool) (r : Bool) (w : World) (hr0 : Kd.C (Kd.int .u8) w A0 l0.length l0) (hc0 : l0.length ≤ c0) (h : quoinlaw13_ObjectRuns.f k l0 a1 a2 = some r) :
  Calls Tryd.prog 6 #[.slice A0 l0.length c0, .int .i64 a1, .bool a2] w fun e w' => e = .returned (.bool r) ∧ Below w.heap.size w w' := by
 have hu29 := Tryd.underlying29
 have HR0 := Aside0.mk hr0
 have HC0 := Aside0.mk hc0
 clear hr0 hc0
 have HB := Aside0.mk (Below.refl w.heap.size w)
 have H : ((quoinlaw13_awake.f k).bind fun t460 => (if t460 = true then ((quoinlaw13_place.f a1 (wrap64 ((l0.length : Int) + 1))).bind fun t461 => (if a2 = true then (quoinlaw13_ObjectRuns.j0 k l0 a2 t461 (⟨#[105, 87]⟩ : ByteArray)) else (quoinlaw13_ObjectRuns.j0 k l0 a2 t461 (⟨#[105, 119]⟩ : ByteArray)))) else (some false))) = some r := h
 clear h
 replace H := Option.bind_eq_some_iff.mp H
 obtain ⟨t460, A40, H⟩ := H
 replace H : (if t460 = true then ((quoinlaw13_place.f a1 (wrap64 ((l0.length : Int) + 1))).bind fun t461 => (if a2 = true then (quoinlaw13_ObjectRuns.j0 k l0 a2 t461 (⟨#[105, 87]⟩ : ByteArray)) else (quoinlaw13_ObjectRuns.j0 k l0 a2 t461 (⟨#[105, 119]⟩ : ByteArray)))) else (some false)) = some r := H
 have A4 := Aside0.mk A40
 clear A40
 by_cases c5 : t460 = true
 ·subst c5
  have H1 : ((quoinlaw13_place.f a1 (wrap64 ((l0.length : Int) + 1))).bind fun t461 => (if a2 = true then (quoinlaw13_ObjectRuns.j0 k l0 a2 t461 (⟨#[105, 87]⟩ : ByteArray)) else (quoinlaw13_ObjectRuns.j0 k l0 a2 t461 (⟨#[105, 119]⟩ : ByteArray)))) = some r := by rw [if_pos rfl] at H; exact H
  clear H
  have H := H1
  clear H1
  replace H := Option.bind_eq_some_iff.mp H
  obtain ⟨t461, A60, H⟩ := H
  replace H : (if a2 = true then (quoinlaw13_ObjectRuns.j0 k l0 a2 t461 (⟨#[105, 87]⟩ : ByteArray)) else (quoinlaw13_ObjectRuns.j0 k l0 a2 t461 (⟨#[105, 119]⟩ : ByteArray))) = some r := H
  have A6 := Aside0.mk A60
  clear A60
  have HC7 := Aside0.mk H
  clear H
  go_enter Tryd.func6, Tryd.ntmps6
  go_upto_if 28 with (first | ((with_reducible refine gate_callee (f := 7) rfl ?_); refine goesL_ (some 21) rfl rfl Tryd.func7 (by kernel_rfl) rfl #[] rfl (by (try simp only [List.map_toArray, List.map_cons, List.map_nil]); first | done | rfl | (simp only [List.length_drop, List.length_take]; rfl)) ?_; (with_reducible refine (quoinlaw13_awake.calls k  true _ A4.out).mono ?_); rintro e w8 ⟨rfl, hb⟩; refine ⟨_, rfl, ?_⟩; have n0_ := Aside0.mk (below_step (by repeat (first | (with_reducible first | exact HB.out | apply below_alloc | apply pw_below_drewN | apply below_drew1) | exact HB.out)) hb); clear HB; have HB := n0_; clear n0_; (try clear hb); (try clear hb2); (try clear hk); (try clear hi)) | ((with_reducible refine gate_callee (f := 12) rfl ?_); refine goesL_ (some 27) rfl rfl Tryd.func12 (by kernel_rfl) rfl #[.int .i64 a1, .int .i64 (wrap64 ((l0.length : Int) + 1))] rfl (by (try simp only [List.map_toArray, List.map_cons, List.map_nil]); first | done | rfl | (simp only [List.length_drop, List.length_take]; rfl)) ?_; (with_reducible refine (quoinlaw13_place.calls a1 (wrap64 ((l0.length : Int) + 1)) t461 _ A6.out).mono ?_); rintro e w' ⟨rfl, ⟨nd, rfl⟩⟩; refine ⟨_, rfl, ?_⟩))
  (try simp only [Act.put, List.setIfInBounds_toArray, List.set_cons_zero, List.set_cons_succ])
  go_cut [8] (fun v8 wc => ∃ (kq : Nat) (x8_6 : ByteArray), v8 = .string x8_6 ∧ Aside0 (quoinlaw13_ObjectRuns.j0 kq l0 a2 t461 x8_6 = some r) ∧ Aside0 (kq ≤ k) ∧ Aside0 (Below w.heap.size w wc))
  case first => as_aux_lemma =>
   have H := HC7.out
   clear HC7
   by_cases c9 : a2 = true
   ·subst c9
    have H1 : (quoinlaw13_ObjectRuns.j0 k l0 true t461 (⟨#[105, 87]⟩ : ByteArray)) = some r := by rw [if_pos rfl] at H; exact H
    clear H
    have H := H1
    clear H1
    have H' := Aside0.mk H
    clear H
    go_wp2
    go_meet
    case rel => exact ⟨_, ((⟨#[105, 87]⟩ : ByteArray)), (by first | rfl | (simp; done) | (simp [*]; done)), H', ⟨by first | omega | exact Nat.le_refl _⟩, ⟨by repeat (first | (with_reducible first | exact HB.out | apply below_alloc | apply pw_below_drewN | apply below_drew1) | exact HB.out)⟩⟩
   ·replace c9 := Bool.eq_false_iff.mpr c9
    subst c9
    have H1 : (quoinlaw13_ObjectRuns.j0 k l0 false t461 (⟨#[105, 119]⟩ : ByteArray)) = some r := by rw [if_neg (show ¬ (false = true) by decide)] at H; exact H
    clear H
    have H := H1
    clear H1
    have H' := Aside0.mk H
    clear H
    go_wp2
    go_meet
    case rel => exact ⟨_, ((⟨#[105, 119]⟩ : ByteArray)), (by first | rfl | (simp; done) | (simp [*]; done)), H', ⟨by first | omega | exact Nat.le_refl _⟩, ⟨by repeat (first | (with_reducible first | exact HB.out | apply below_alloc | apply pw_below_drewN | apply below_drew1) | exact HB.out)⟩⟩
  case rest => as_aux_lemma =>
   clear HC7
   try clear c1
   try clear p2
   try clear c5
   try clear c6
   try clear p6
   try clear c7
   try clear c9
   obtain ⟨kq, x8_6, rfl, HA, HJ6, HB⟩ := hcut
   cases kq with
   | zero => exact absurd HA.out (by simp [quoinlaw13_ObjectRuns.j0])
   | succ kj6 =>
    have H := HA.out
    clear HA
    simp only [quoinlaw13_ObjectRuns.j0] at H
    replace H := Option.bind_eq_some_iff.mp H
    obtain ⟨⟨t462, t463, t464, t465⟩, A100, H⟩ := H
    replace H : (if t461 = (l0.length : Int) then (quoinlaw13_ObjectRuns.j1 kj6 l0 a2 t461 x8_6 t465 ((t465 != 0) != true) t462 t463 t464) else (if 0 ≤ t461 then (if t461 < (l0.length : Int) then (quoinlaw13_ObjectRuns.j1 kj6 l0 a2 t461 x8_6 t465 ((t465 != 0) != ((rd l0 t461) == 10)) t462 t463 t464) else (none)) else (none))) = some r := H
    have A10 := Aside0.mk A100
    clear A100
    have HC11 := Aside0.mk H
    clear H
    go_upto_region 8 with (first | ((with_reducible refine gate_callee (f := 10) rfl ?_); refine goesL_ (some 33) rfl rfl Tryd.func10 (by kernel_rfl) rfl #[.slice A0 l0.length c0, .int .i64 t461, .int .i64 1, .string x8_6] rfl (by (try simp only [List.map_toArray, List.map_cons, List.map_nil]); first | done | rfl | (simp only [List.length_drop, List.length_take]; rfl)) ?_; (with_reducible refine (object_Select.calls kj6 _ _ l0 t461 1 x8_6 t462 t463 t464 t465 _ ?side1 ?side2 A10.out).mono ?_); (case side1 => repeat (first | exact (Kd.C_below HR0.out HB.out) | (with_reducible refine Kd.C_alloc ?_ _) | (with_reducible refine Kd.C_drewN ?_ _) | (with_reducible refine Kd.C_drew ?_))); (case side2 => exact HC0.out); rintro e w12 ⟨rfl, hb⟩; refine ⟨_, rfl, ?_⟩; have n0_ := Aside0.mk (below_step (by repeat (first | (with_reducible first | exact HB.out | apply below_alloc | apply pw_below_drewN | apply below_drew1) | exact HB.out)) hb); clear HB; have HB := n0_; clear n0_; (try clear hb); (try clear hb2); (try clear hk); (try clear hi)) | ((with_reducible refine gate_dst (N := 9) rfl ?_); (try (refine gate_guard (by rfl) ?_; dsimp only)); refine box_event ?hg (N := 9) ?hd (cs := #[.int .i64 0, .int .i64 0, .int .i64 0]) (t := 29) ?hr ?_; (case hd => rfl); (case hg => rfl); (case hr => first | (go_simp; done) | (go_simp; rfl)); intro gb466 hg w13 hbox hb; have n0_ := Aside0.mk (below_step (by repeat (first | (with_reducible first | exact HB.out | apply below_alloc | apply pw_below_drewN | apply below_drew1) | exact HB.out)) hb); have n1_ := Aside0.mk (hbox); have n2_ := Aside0.mk ((by rw [hg]; exact (below_size (by repeat (first | (with_reducible first | exact HB.out | apply below_alloc | apply pw_below_drewN | apply below_drew1) | exact HB.out))) : w.heap.size ≤ gb466)); have n3_ := Aside0.mk ((by rw [hg]; exact (below_size (by repeat (first | (with_reducible first | exact HB.out | apply below_alloc | apply pw_below_drewN | apply below_drew1) | exact HB.out))) : w.heap.size ≤ gb466)); clear HB; have HB := n0_; have BK466 := n1_; have GW466 := n2_; have GE466 := n3_; clear n0_ n1_ n2_ n3_; clear hb hbox hg; have hcz14_0 : w13.cell? ⟨gb466, 0, none⟩ = some (.int .i64 0) := (blk_cell BK466.out 0).trans rfl; have hcz14_1 : w13.cell? ⟨gb466, 1, none⟩ = some (.int .i64 0) := (blk_cell BK466.out 1).trans rfl; have hcz14_2 : w13.cell? ⟨gb466, 2, none⟩ = some (.int .i64 0) := (blk_cell BK466.out 2).trans rfl; have hfz14_0 := blk_frozen BK466.out 0; have hfz14_1 := blk_frozen BK466.out 1; have hfz14_2 := blk_frozen BK466.out 2))
    (try simp only [Act.put, List.setIfInBounds_toArray, List.set_cons_zero, List.set_cons_succ])
    go_cut [49] (fun v49 wc => ∃ (kq : Nat) (x49_10 : Bool), v49 = .bool x49_10 ∧ Aside0 (quoinlaw13_ObjectRuns.j1 kq l0 a2 t461 x8_6 t465 x49_10 t462 t463 t464 = some r) ∧ Aside0 (kq ≤ kj6) ∧ Aside0 (wc.heap[gb466]? = some (.cells #[.int .i64 t462, .int .i64 t463, .int .i64 t464] 29 (0, 0))) ∧ Aside0 (Below w.heap.size w wc))
    case first => as_aux_lemma =>
     have H := HC11.out
     clear HC11
     by_cases c15 : t461 = (l0.length : Int)
     ·rw [if_pos c15] at H
      have c15b0 : (t461 == (l0.length : Int)) = true := beq_iff_eq.mpr c15
      have c15b1 : (t461 != (l0.length : Int)) = false := bne_eq_false_iff_eq.mpr c15
      clear c15
      (first | rw [c15b0] | (simp only [i64_w, i32_w]; rw [c15b0]) | skip)
      have H' := Aside0.mk H
      clear H
      go_wp2
      go_meet
      case rel => exact ⟨_, (((t465 != 0) != true)), (by first | rfl | (simp; done) | (simp [*]; done)), H', ⟨by have := HJ6.out; first | omega | exact Nat.le_refl _⟩, ⟨by (with_reducible repeat (first | refine blk_drewN ?_ _ | refine blk_drew ?_ | refine blk_alloc ?_ _)); refine blk_put (cs := #[.int .i64 t462, .int .i64 t463, .int .i64 0]) ?_ 2 _ rfl; (with_reducible repeat (first | refine blk_drewN ?_ _ | refine blk_drew ?_ | refine blk_alloc ?_ _)); refine blk_put (cs := #[.int .i64 t462, .int .i64 0, .int .i64 0]) ?_ 1 _ rfl; (with_reducible repeat (first | refine blk_drewN ?_ _ | refine blk_drew ?_ | refine blk_alloc ?_ _)); refine blk_put (cs := #[.int .i64 0, .int .i64 0, .int .i64 0]) ?_ 0 _ rfl; (with_reducible repeat (first | refine blk_drewN ?_ _ | refine blk_drew ?_ | refine blk_alloc ?_ _)); exact BK466.out⟩, ⟨by repeat (first | (with_reducible first | exact HB.out | apply below_alloc | apply pw_below_drewN | apply below_drew1 | refine below_set ?_ GE466.out) | exact HB.out)⟩⟩
     ·rw [if_neg c15] at H
      have c15b0 : (t461 == (l0.length : Int)) = false := beq_eq_false_iff_ne.mpr c15
      have c15b1 : (t461 != (l0.length : Int)) = true := bne_iff_ne.mpr c15
      (first | rw [c15b0] | (simp only [i64_w, i32_w]; rw [c15b0]) | skip)
      by_cases c16 : 0 ≤ t461
      ·rw [if_pos c16] at H
       have c16b0 : decide (0 ≤ t461) = true := decide_eq_true c16
       clear c16
       by_cases c17 : t461 < (l0.length : Int)
       ·rw [if_pos c17] at H
        have c17b0 : decide (t461 < (l0.length : Int)) = true := decide_eq_true c17
        clear c17
        have H' := Aside0.mk H
        clear H
        have p467 : 0 ≤ (t461 : Int) := of_decide_eq_true (by first | (with_reducible assumption) | assumption)
        have q467 : t461 < (l0.length : Int) := of_decide_eq_true (by first | (with_reducible assumption) | assumption)
        obtain ⟨ad467, e467, hx467_0⟩ := Kd.at_int HR0.out t461 p467 q467
        cases e467
        have hn467_0 : ad467.block ≠ gb466 := Nat.ne_of_lt (Nat.lt_of_lt_of_le (by have := World.block_lt_of_cell? _ _ hx467_0; first | rwa [add_block] at this | exact this) GW466.out)
        have hn467_1 : ad467.block ≠ gb466 := Nat.ne_of_lt (Nat.lt_of_lt_of_le (by have := World.block_lt_of_cell? _ _ hx467_0; first | rwa [add_block] at this | exact this) GW466.out)
        have hn467_2 : ad467.block ≠ gb466 := Nat.ne_of_lt (Nat.lt_of_lt_of_le (by have := World.block_lt_of_cell? _ _ hx467_0; first | rwa [add_block] at this | exact this) GW466.out)
        replace hx467_0 := (HB.out.cell (World.block_lt_of_cell? w _ hx467_0)).trans hx467_0
        replace hx467_0 := (cell_far (p := ⟨gb466, 0, none⟩) (by first | (rw [add_block]; exact hn467_0) | (show (Addr.add _ _).block ≠ _; rw [add_block]; exact hn467_0) | exact hn467_0) (.int .i64 t462)).trans hx467_0
        replace hx467_0 := (cell_far (p := ⟨gb466, 1, none⟩) (by first | (rw [add_block]; exact hn467_1) | (show (Addr.add _ _).block ≠ _; rw [add_block]; exact hn467_1) | exact hn467_1) (.int .i64 t463)).trans hx467_0
        replace hx467_0 := (cell_far (p := ⟨gb466, 2, none⟩) (by first | (rw [add_block]; exact hn467_2) | (show (Addr.add _ _).block ≠ _; rw [add_block]; exact hn467_2) | exact hn467_2) (.int .i64 t464)).trans hx467_0
        clear hn467_0
        clear hn467_1
        clear hn467_2
        replace p467 := eq_true p467
        replace q467 := eq_true q467
        go_wp2
        go_meet
        case rel => exact ⟨_, (((t465 != 0) != ((rd l0 t461) == 10))), (by first | rfl | (simp; done) | (simp [*]; done)), H', ⟨by have := HJ6.out; first | omega | exact Nat.le_refl _⟩, ⟨by (with_reducible repeat (first | refine blk_drewN ?_ _ | refine blk_drew ?_ | refine blk_alloc ?_ _)); refine blk_put (cs := #[.int .i64 t462, .int .i64 t463, .int .i64 0]) ?_ 2 _ rfl; (with_reducible repeat (first | refine blk_drewN ?_ _ | refine blk_drew ?_ | refine blk_alloc ?_ _)); refine blk_put (cs := #[.int .i64 t462, .int .i64 0, .int .i64 0]) ?_ 1 _ rfl; (with_reducible repeat (first | refine blk_drewN ?_ _ | refine blk_drew ?_ | refine blk_alloc ?_ _)); refine blk_put (cs := #[.int .i64 0, .int .i64 0, .int .i64 0]) ?_ 0 _ rfl; (with_reducible repeat (first | refine blk_drewN ?_ _ | refine blk_drew ?_ | refine blk_alloc ?_ _)); exact BK466.out⟩, ⟨by repeat (first | (with_reducible first | exact HB.out | apply below_alloc | apply pw_below_drewN | apply below_drew1 | refine below_set ?_ GE466.out) | exact HB.out)⟩⟩
       ·rw [if_neg c17] at H
        exact absurd H (by simp)
      ·rw [if_neg c16] at H
       exact absurd H (by simp)
    case rest => as_aux_lemma =>
     clear HC11
     try clear c1
     try clear p2
     try clear p4
     try clear q4
     try clear hx4
     try clear c5
     try clear c6
     try clear p6
     try clear c7
     try clear c9
     try clear c10
     try clear c12
     try clear c15
     try clear c15b0
     try clear c15b1
     try clear c16
     try clear c16b0
     try clear c17
     try clear c17b0
     try clear hcz14_0
     try clear hcz14_1
     try clear hcz14_2
     try clear hfz14_0
     try clear hfz14_1
     try clear hfz14_2
     try clear hx467_0
     try clear p2
     try clear p467
     try clear p6
     try clear q467
     obtain ⟨kq, x49_10, rfl, HA, HJ10, BK466, HB⟩ := hcut
     cases kq with
     | zero => exact absurd HA.out (by simp [quoinlaw13_ObjectRuns.j1])
     | succ kj10 =>
      have H := HA.out
      clear HA
      simp only [quoinlaw13_ObjectRuns.j1] at H
      by_cases c18 : x49_10 = true
      ·subst c18
       have H1 : (some false) = some r := by rw [if_pos rfl] at H; exact H
       clear H
       have H := H1
       clear H1
       obtain rfl := Option.some.inj H
       go_wp2
       go_ret
       exact ⟨by first | rfl | (simp [errW_none, errW_some] <;> rfl) | (simp [*, errW_none, errW_some] <;> rfl), by repeat (first | (with_reducible first | exact HB.out | apply below_alloc | apply pw_below_drewN | apply below_drew1 | refine below_set ?_ GE466.out) | exact HB.out)⟩
      ·replace c18 := Bool.eq_false_iff.mpr c18
       subst c18
       have H1 : (if t465 = 0 then (if 0 ≤ t461 then (if t461 < (l0.length : Int) then ((class_Of.f kj10 (rd l0 t461) a2).bind fun t469 => (if t462 > t461 then (quoinlaw13_ObjectRuns.j2 kj10 l0 a2 t461 x8_6 t469 true t462 t463 t464) else (if t463 ≤ t461 then (quoinlaw13_ObjectRuns.j2 kj10 l0 a2 t461 x8_6 t469 true t462 t463 t464) else (if t462 < 0 then (quoinlaw13_ObjectRuns.j2 kj10 l0 a2 t461 x8_6 t469 true t462 t463 t464) else (quoinlaw13_ObjectRuns.j2 kj10 l0 a2 t461 x8_6 t469 (decide (t463 > (l0.length : Int))) t462 t463 t464))))) else (none)) else (none)) else (quoinlaw13_ObjectRuns.j6 kj10 l0 t461)) = some r := by rw [if_neg (show ¬ (false = true) by decide)] at H; exact H
       clear H
       have H := H1
       clear H1
       have HC19 := Aside0.mk H
       clear H
       go_upto_if 51 with (fail)
       go_cut [] (fun wc => ∃ (kq : Nat), Aside0 (quoinlaw13_ObjectRuns.j6 kq l0 t461 = some r) ∧ Aside0 (kq ≤ kj10) ∧ Aside0 (wc.heap[gb466]? = some (.cells #[.int .i64 t462, .int .i64 t463, .int .i64 t464] 29 (0, 0))) ∧ Aside0 (Below w.heap.size w wc))
       case first => as_aux_lemma =>
        have H := HC19.out
        clear HC19
        by_cases c20 : t465 = 0
        ·rw [if_pos c20] at H
         have c20b0 : (t465 == 0) = true := beq_iff_eq.mpr c20
         have c20b1 : (t465 != 0) = false := bne_eq_false_iff_eq.mpr c20
         clear c20
         (first | rw [c20b0] | (simp only [i64_w, i32_w]; rw [c20b0]) | skip)
         by_cases c21 : 0 ≤ t461
         ·rw [if_pos c21] at H
          have c21b0 : decide (0 ≤ t461) = true := decide_eq_true c21
          clear c21
          by_cases c22 : t461 < (l0.length : Int)
          ·rw [if_pos c22] at H
           have c22b0 : decide (t461 < (l0.length : Int)) = true := decide_eq_true c22
           clear c22
           replace H := Option.bind_eq_some_iff.mp H
           obtain ⟨t469, A230, H⟩ := H
           replace H : (if t462 > t461 then (quoinlaw13_ObjectRuns.j2 kj10 l0 a2 t461 x8_6 t469 true t462 t463 t464) else (if t463 ≤ t461 then (quoinlaw13_ObjectRuns.j2 kj10 l0 a2 t461 x8_6 t469 true t462 t463 t464) else (if t462 < 0 then (quoinlaw13_ObjectRuns.j2 kj10 l0 a2 t461 x8_6 t469 true t462 t463 t464) else (quoinlaw13_ObjectRuns.j2 kj10 l0 a2 t461 x8_6 t469 (decide (t463 > (l0.length : Int))) t462 t463 t464)))) = some r := H
           have A23 := Aside0.mk A230
           clear A230
           have HC24 := Aside0.mk H
           clear H
           have p468 : 0 ≤ (t461 : Int) := of_decide_eq_true (by first | (with_reducible assumption) | assumption)
           have q468 : t461 < (l0.length : Int) := of_decide_eq_true (by first | (with_reducible assumption) | assumption)
           obtain ⟨ad468, e468, hx468_0⟩ := Kd.at_int HR0.out t461 p468 q468
           cases e468
           replace hx468_0 := (HB.out.cell (World.block_lt_of_cell? w _ hx468_0)).trans hx468_0
           replace p468 := eq_true p468
           replace q468 := eq_true q468
           go_upto_region 12 with (first | ((with_reducible refine gate_callee (f := 15) rfl ?_); refine goesL_ (some 57) rfl rfl Tryd.func15 (by kernel_rfl) rfl #[.int .u8 (rd l0 t461), .bool a2] rfl (by (try simp only [List.map_toArray, List.map_cons, List.map_nil]); first | done | rfl | (simp only [List.length_drop, List.length_take]; rfl)) ?_; (with_reducible refine (class_Of.calls kj10 (rd l0 t461) a2 t469 _ A23.out).mono ?_); rintro e w' ⟨rfl, ⟨nd, rfl⟩⟩; refine ⟨_, rfl, ?_⟩))
           (try simp only [Act.put, List.setIfInBounds_toArray, List.set_cons_zero, List.set_cons_succ])
           go_cut [79] (fun v79 wc => ∃ (kq : Nat) (x79_23 : Bool), v79 = .bool x79_23 ∧ Aside0 (quoinlaw13_ObjectRuns.j2 kq l0 a2 t461 x8_6 t469 x79_23 t462 t463 t464 = some r) ∧ Aside0 (kq ≤ kj10) ∧ Aside0 (wc.heap[gb466]? = some (.cells #[.int .i64 t462, .int .i64 t463, .int .i64 t464] 29 (0, 0))) ∧ Aside0 (Below w.heap.size w wc))
           case first => as_aux_lemma =>
            have H := HC24.out
            clear HC24
            by_cases c25 : t462 > t461
            ·rw [if_pos c25] at H
             have c25b0 : decide (t461 < t462) = true := decide_eq_true c25
             clear c25
             (first | rw [c25b0] | (simp only [i64_w, i32_w]; rw [c25b0]) | skip)
             have H' := Aside0.mk H
             clear H
             have hcz26_0 : wc.cell? ⟨gb466, 0, none⟩ = some (.int .i64 t462) := (blk_cell BK466.out 0).trans rfl
             have hcz26_1 : wc.cell? ⟨gb466, 1, none⟩ = some (.int .i64 t463) := (blk_cell BK466.out 1).trans rfl
             have hcz26_2 : wc.cell? ⟨gb466, 2, none⟩ = some (.int .i64 t464) := (blk_cell BK466.out 2).trans rfl
             have hfz26_0 := blk_frozen BK466.out 0
             have hfz26_1 := blk_frozen BK466.out 1
             have hfz26_2 := blk_frozen BK466.out 2
             go_wp2
             go_meet
             case rel => exact ⟨_, (true), (by first | rfl | (simp; done) | (simp [*]; done)), H', ⟨by have := HJ6.out; have := HJ10.out; first | omega | exact Nat.le_refl _⟩, ⟨by (with_reducible repeat (first | refine blk_drewN ?_ _ | refine blk_drew ?_ | refine blk_alloc ?_ _)); exact BK466.out⟩, ⟨by repeat (first | (with_reducible first | exact HB.out | apply below_alloc | apply pw_below_drewN | apply below_drew1 | refine below_set ?_ GE466.out) | exact HB.out)⟩⟩
            ·rw [if_neg c25] at H
             have c25b0 : decide (t461 < t462) = false := decide_eq_false c25
             clear c25
             (first | rw [c25b0] | (simp only [i64_w, i32_w]; rw [c25b0]) | skip)
             by_cases c27 : t463 ≤ t461
             ·rw [if_pos c27] at H
              have c27b0 : decide (t463 ≤ t461) = true := decide_eq_true c27
              clear c27
              have H' := Aside0.mk H
              clear H
              have hcz28_0 : wc.cell? ⟨gb466, 0, none⟩ = some (.int .i64 t462) := (blk_cell BK466.out 0).trans rfl
              have hcz28_1 : wc.cell? ⟨gb466, 1, none⟩ = some (.int .i64 t463) := (blk_cell BK466.out 1).trans rfl
              have hcz28_2 : wc.cell? ⟨gb466, 2, none⟩ = some (.int .i64 t464) := (blk_cell BK466.out 2).trans rfl
              have hfz28_0 := blk_frozen BK466.out 0
              have hfz28_1 := blk_frozen BK466.out 1
              have hfz28_2 := blk_frozen BK466.out 2
              go_wp2
              go_meet
              case rel => exact ⟨_, (true), (by first | rfl | (simp; done) | (simp [*]; done)), H', ⟨by have := HJ6.out; have := HJ10.out; first | omega | exact Nat.le_refl _⟩, ⟨by (with_reducible repeat (first | refine blk_drewN ?_ _ | refine blk_drew ?_ | refine blk_alloc ?_ _)); exact BK466.out⟩, ⟨by repeat (first | (with_reducible first | exact HB.out | apply below_alloc | apply pw_below_drewN | apply below_drew1 | refine below_set ?_ GE466.out) | exact HB.out)⟩⟩
             ·rw [if_neg c27] at H
              have c27b0 : decide (t463 ≤ t461) = false := decide_eq_false c27
              clear c27
              by_cases c29 : t462 < 0
              ·rw [if_pos c29] at H
               have c29b0 : decide (t462 < 0) = true := decide_eq_true c29
               clear c29
               have H' := Aside0.mk H
               clear H
               have hcz30_0 : wc.cell? ⟨gb466, 0, none⟩ = some (.int .i64 t462) := (blk_cell BK466.out 0).trans rfl
               have hcz30_1 : wc.cell? ⟨gb466, 1, none⟩ = some (.int .i64 t463) := (blk_cell BK466.out 1).trans rfl
               have hcz30_2 : wc.cell? ⟨gb466, 2, none⟩ = some (.int .i64 t464) := (blk_cell BK466.out 2).trans rfl
               have hfz30_0 := blk_frozen BK466.out 0
               have hfz30_1 := blk_frozen BK466.out 1
               have hfz30_2 := blk_frozen BK466.out 2
               go_wp2
               go_meet
               case rel => exact ⟨_, (true), (by first | rfl | (simp; done) | (simp [*]; done)), H', ⟨by have := HJ6.out; have := HJ10.out; first | omega | exact Nat.le_refl _⟩, ⟨by (with_reducible repeat (first | refine blk_drewN ?_ _ | refine blk_drew ?_ | refine blk_alloc ?_ _)); exact BK466.out⟩, ⟨by repeat (first | (with_reducible first | exact HB.out | apply below_alloc | apply pw_below_drewN | apply below_drew1 | refine below_set ?_ GE466.out) | exact HB.out)⟩⟩
              ·rw [if_neg c29] at H
               have c29b0 : decide (t462 < 0) = false := decide_eq_false c29
               clear c29
               have H' := Aside0.mk H
               clear H
               have hcz31_0 : wc.cell? ⟨gb466, 0, none⟩ = some (.int .i64 t462) := (blk_cell BK466.out 0).trans rfl
               have hcz31_1 : wc.cell? ⟨gb466, 1, none⟩ = some (.int .i64 t463) := (blk_cell BK466.out 1).trans rfl
               have hcz31_2 : wc.cell? ⟨gb466, 2, none⟩ = some (.int .i64 t464) := (blk_cell BK466.out 2).trans rfl
               have hfz31_0 := blk_frozen BK466.out 0
               have hfz31_1 := blk_frozen BK466.out 1
               have hfz31_2 := blk_frozen BK466.out 2
               go_wp2
               go_meet
               case rel => exact ⟨_, (decide (t463 > (l0.length : Int))), (by first | rfl | (simp; done) | (simp [*]; done)), H', ⟨by have := HJ6.out; have := HJ10.out; first | omega | exact Nat.le_refl _⟩, ⟨by (with_reducible repeat (first | refine blk_drewN ?_ _ | refine blk_drew ?_ | refine blk_alloc ?_ _)); exact BK466.out⟩, ⟨by repeat (first | (with_reducible first | exact HB.out | apply below_alloc | apply pw_below_drewN | apply below_drew1 | refine below_set ?_ GE466.out) | exact HB.out)⟩⟩
           case rest => as_aux_lemma =>
            clear HC24
            try clear c1
            try clear c2
            try clear p2
            try clear p4
            try clear q4
            try clear hx4
            try clear c5
            try clear c6
            try clear p6
            try clear c7
            try clear c9
            try clear c10
            try clear c12
            try clear c15
            try clear c15b0
            try clear c15b1
            try clear c16
            try clear c16b0
            try clear c17
            try clear c17b0
            try clear c18
            try clear c20
            try clear c20b0
            try clear c20b1
            try clear c21
            try clear c21b0
            try clear c22
            try clear c22b0
            try clear c25
            try clear c25b0
            try clear c27
            try clear c27b0
            try clear c29
            try clear c29b0
            try clear hcz14_0
            try clear hcz14_1
            try clear hcz14_2
            try clear hcz26_0
            try clear hcz26_1
            try clear hcz26_2
            try clear hcz28_0
            try clear hcz28_1
            try clear hcz28_2
            try clear hcz30_0
            try clear hcz30_1
            try clear hcz30_2
            try clear hcz31_0
            try clear hcz31_1
            try clear hcz31_2
            try clear hfz14_0
            try clear hfz14_1
            try clear hfz14_2
            try clear hfz26_0
            try clear hfz26_1
            try clear hfz26_2
            try clear hfz28_0
            try clear hfz28_1
            try clear hfz28_2
            try clear hfz30_0
            try clear hfz30_1
            try clear hfz30_2
            try clear hfz31_0
            try clear hfz31_1
            try clear hfz31_2
            try clear hx467_0
            try clear hx468_0
            try clear p2
            try clear p4
            try clear p467
            try clear p468
            try clear p6
            try clear q4
            try clear q467
            try clear q468
            obtain ⟨kq, x79_23, rfl, HA, HJ23, BK466, HB⟩ := hcut
            cases kq with
            | zero => exact absurd HA.out (by simp [quoinlaw13_ObjectRuns.j2])
            | succ kj23 =>
             have H := HA.out
             clear HA
             simp only [quoinlaw13_ObjectRuns.j2] at H
             by_cases c32 : x79_23 = true
             ·subst c32
              have H1 : (some false) = some r := by rw [if_pos rfl] at H; exact H
              clear H
              have H := H1
              clear H1
              obtain rfl := Option.some.inj H
              go_wp2
              go_ret
              exact ⟨by first | rfl | (simp [errW_none, errW_some] <;> rfl) | (simp [*, errW_none, errW_some] <;> rfl), by repeat (first | (with_reducible first | exact HB.out | apply below_alloc | apply pw_below_drewN | apply below_drew1 | refine below_set ?_ GE466.out) | exact HB.out)⟩
             ·replace c32 := Bool.eq_false_iff.mpr c32
              subst c32
              have H1 : (if 0 ≤ t462 then (if t462 ≤ t463 then (if t463 ≤ (l0.length : Int) then (quoinlaw13_ObjectRuns.l0 kj23 l0 a2 t461 x8_6 t469 ((l0.take (t463 : Int).toNat).drop (t462 : Int).toNat) (((l0.take (t463 : Int).toNat).drop (t462 : Int).toNat).length : Int) 0 t462 t463 t464) else (none)) else (none)) else (none)) = some r := by rw [if_neg (show ¬ (false = true) by decide)] at H; exact H
              clear H
              have H := H1
              clear H1
              by_cases c33 : 0 ≤ t462
              ·rw [if_pos c33] at H
               have c33b0 := eq_true c33
               have c33b1 : decide (0 ≤ t462) = true := decide_eq_true c33
               clear c33
               by_cases c34 : t462 ≤ t463
               ·rw [if_pos c34] at H
                have c34b0 := eq_true c34
                have c34b1 : decide (t462 ≤ t463) = true := decide_eq_true c34
                clear c34
                by_cases c35 : t463 ≤ (l0.length : Int)
                ·rw [if_pos c35] at H
                 have c35b0 := eq_true c35
                 have c35b1 : decide (t463 ≤ (l0.length : Int)) = true := decide_eq_true c35
                 clear c35
                 have H' := Aside0.mk H
                 clear H
                 have hcz36_0 : wc.cell? ⟨gb466, 0, none⟩ = some (.int .i64 t462) := (blk_cell BK466.out 0).trans rfl
                 have hcz36_1 : wc.cell? ⟨gb466, 1, none⟩ = some (.int .i64 t463) := (blk_cell BK466.out 1).trans rfl
                 have hcz36_2 : wc.cell? ⟨gb466, 2, none⟩ = some (.int .i64 t464) := (blk_cell BK466.out 2).trans rfl
                 have hfz36_0 := blk_frozen BK466.out 0
                 have hfz36_1 := blk_frozen BK466.out 1
                 have hfz36_2 := blk_frozen BK466.out 2
                 obtain ⟨i037, hi037, _, hsz37, _⟩ := info_parts info5
                 obtain ⟨A37, hcut37, hA37, hC37⟩ := print_mid_of (P := Tryd.prog) (Value.int .u8) 0 22 5 .i64 .i64 Tryd.underlying22 hi037 hsz37 (some ad468) c0 l0 t462 t463 (of_decide_eq_true (by first | (with_reducible assumption) | assumption)) (by first | omega | exact of_decide_eq_true (by first | (with_reducible assumption) | assumption)) (of_decide_eq_true (by first | (with_reducible assumption) | assumption)) HC0.out
                 try have hle37 := Aside0.mk (show ((l0.take (t463 : Int).toNat).drop (t462 : Int).toNat).length = (t463.toNat - t462.toNat) from (by rw [List.length_drop, List.length_take]; have h_ : (t463 : Int) ≤ (l0.length : Int) := of_decide_eq_true (by first | (with_reducible assumption) | assumption); omega))
                 have HR470 := Aside0.mk (Kd.C_of_reads (h1 := fun _ => rfl) (hA37 _ (Kd.reads_of_C HR0.out)))
                 have HC470 := Aside0.mk hC37
                 clear hA37 hC37 hi037 hsz37
                 go_wp2
                 go_loopg [87] kj23 (fun kq v87 w' => ∃ (x87_4 : Int), v87 = .int .i64 x87_4 ∧ Aside0 (quoinlaw13_ObjectRuns.l0 kq l0 a2 t461 x8_6 t469 ((l0.take (t463 : Int).toNat).drop (t462 : Int).toNat) (((l0.take (t463 : Int).toNat).drop (t462 : Int).toNat).length : Int) x87_4 t462 t463 t464 = some r) ∧ Aside0 (kq ≤ kj23) ∧ Aside0 (w'.heap[gb466]? = some (.cells #[.int .i64 t462, .int .i64 t463, .int .i64 t464] 29 (0, 0))) ∧ Aside0 (Below w.heap.size w w'))
                 case atStart => exact ⟨(0), (by first | rfl | (simp; done) | (simp [*]; done)), H', ⟨Nat.le_refl _⟩, ⟨by (with_reducible repeat (first | refine blk_drewN ?_ _ | refine blk_drew ?_ | refine blk_alloc ?_ _)); exact BK466.out⟩, ⟨by repeat (first | (with_reducible first | exact HB.out | apply below_alloc | apply pw_below_drewN | apply below_drew1 | refine below_set ?_ GE466.out) | exact HB.out)⟩⟩
                 case round =>
                  clear H'
                  try clear c1
                  try clear c2
                  try clear p2
                  try clear c3
                  try clear p4
                  try clear q4
                  try clear hx4
                  try clear c5
                  try clear c6
                  try clear p6
                  try clear c7
                  try clear c9
                  try clear c10
                  try clear c12
                  try clear c15
                  try clear c15b0
                  try clear c15b1
                  try clear c16
                  try clear c16b0
                  try clear c17
                  try clear c17b0
                  try clear c18
                  try clear c20
                  try clear c20b0
                  try clear c20b1
                  try clear c21
                  try clear c21b0
                  try clear c22
                  try clear c22b0
                  try clear c25
                  try clear c25b0
                  try clear c27
                  try clear c27b0
                  try clear c29
                  try clear c29b0
                  try clear c32
                  try clear c33
                  try clear c33b0
                  try clear c33b1
                  try clear c34
                  try clear c34b0
                  try clear c34b1
                  try clear c35
                  try clear c35b0
                  try clear c35b1
                  try clear hcz14_0
                  try clear hcz14_1
                  try clear hcz14_2
                  try clear hcz26_0
                  try clear hcz26_1
                  try clear hcz26_2
                  try clear hcz28_0
                  try clear hcz28_1
                  try clear hcz28_2
                  try clear hcz30_0
                  try clear hcz30_1
                  try clear hcz30_2
                  try clear hcz31_0
                  try clear hcz31_1
                  try clear hcz31_2
                  try clear hcz36_0
                  try clear hcz36_1
                  try clear hcz36_2
                  try clear hfz14_0
                  try clear hfz14_1
                  try clear hfz14_2
                  try clear hfz26_0
                  try clear hfz26_1
                  try clear hfz26_2
                  try clear hfz28_0
                  try clear hfz28_1
                  try clear hfz28_2
                  try clear hfz30_0
                  try clear hfz30_1
                  try clear hfz30_2
                  try clear hfz31_0
                  try clear hfz31_1
                  try clear hfz31_2
                  try clear hfz36_0
                  try clear hfz36_1
                  try clear hfz36_2
                  try clear hx467_0
                  try clear hx468_0
                  try clear p2
                  try clear p4
                  try clear p467
                  try clear p468
                  try clear p6
                  try clear q4
                  try clear q467
                  try clear q468
                  obtain ⟨x87_4, rfl, HA, HK4, BK466, HB⟩ := hrel
                  cases gk with
                  | zero => exact absurd HA.out (by simp [quoinlaw13_ObjectRuns.l0])
                  | succ k4 =>
                   have H := HA.out
                   clear HA
                   simp only [quoinlaw13_ObjectRuns.l0] at H
                   by_cases c38 : x87_4 < (((l0.take (t463 : Int).toNat).drop (t462 : Int).toNat).length : Int)
                   ·rw [if_pos c38] at H
                    have c38b0 : decide (x87_4 < (((l0.take (t463 : Int).toNat).drop (t462 : Int).toNat).length : Int)) = true := decide_eq_true c38
                    try have c38y : decide (x87_4 < ((t463.toNat - t462.toNat : Nat) : Int)) = true := by have h_ := c38b0; rw [hle37.out] at h_; exact h_
                    clear c38
                    by_cases c39 : 0 ≤ x87_4
                    ·rw [if_pos c39] at H
                     have c39b0 : decide (0 ≤ x87_4) = true := decide_eq_true c39
                     clear c39
                     by_cases c40 : x87_4 < (((l0.take (t463 : Int).toNat).drop (t462 : Int).toNat).length : Int)
                     ·rw [if_pos c40] at H
                      have c40b0 : decide (x87_4 < (((l0.take (t463 : Int).toNat).drop (t462 : Int).toNat).length : Int)) = true := decide_eq_true c40
                      try have c40y : decide (x87_4 < ((t463.toNat - t462.toNat : Nat) : Int)) = true := by have h_ := c40b0; rw [hle37.out] at h_; exact h_
                      clear c40
                      replace H := Option.bind_eq_some_iff.mp H
                      obtain ⟨t472, A410, H⟩ := H
                      replace H : (if t472 = t469 then (quoinlaw13_ObjectRuns.l0 k4 l0 a2 t461 x8_6 t469 ((l0.take (t463 : Int).toNat).drop (t462 : Int).toNat) (((l0.take (t463 : Int).toNat).drop (t462 : Int).toNat).length : Int) (wrap64 (x87_4 + 1)) t462 t463 t464) else (some false)) = some r := H
                      have A41 := Aside0.mk A410
                      clear A410
                      by_cases c42 : t472 = t469
                      ·rw [if_pos c42] at H
                       have c42b0 : (t472 == t469) = true := beq_iff_eq.mpr c42
                       have c42b1 : (t472 != t469) = false := bne_eq_false_iff_eq.mpr c42
                       clear c42
                       have H' := Aside0.mk H
                       clear H
                       have p471 : 0 ≤ (x87_4 : Int) := of_decide_eq_true (by first | (with_reducible assumption) | assumption)
                       have q471 : x87_4 < (((l0.take (t463 : Int).toNat).drop (t462 : Int).toNat).length : Int) := of_decide_eq_true (by first | (with_reducible assumption) | assumption)
                       obtain ⟨ad471, e471, hx471_0⟩ := Kd.at_int HR470.out x87_4 p471 q471
                       cases e471
                       replace hx471_0 := (HB.out.cell (World.block_lt_of_cell? w _ hx471_0)).trans hx471_0
                       replace p471 := eq_true p471
                       replace q471 := eq_true q471
                       try have q471y : (x87_4 < ((t463.toNat - t462.toNat : Nat) : Int)) = True := eq_true (by have h_ := of_eq_true q471; rw [hle37.out] at h_; exact h_)
                       go_wp2_with (first | ((with_reducible refine gate_callee (f := 15) rfl ?_); refine goesL_ (some 93) rfl rfl Tryd.func15 (by kernel_rfl) rfl #[.int .u8 (rd ((l0.take (t463 : Int).toNat).drop (t462 : Int).toNat) x87_4), .bool a2] rfl (by (try simp only [List.map_toArray, List.map_cons, List.map_nil]); first | done | rfl | (simp only [List.length_drop, List.length_take]; rfl)) ?_; (with_reducible refine (class_Of.calls k4 (rd ((l0.take (t463 : Int).toNat).drop (t462 : Int).toNat) x87_4) a2 t472 _ A41.out).mono ?_); rintro e w' ⟨rfl, ⟨nd, rfl⟩⟩; refine ⟨_, rfl, ?_⟩))
                       go_roundg k4
                       case measure => have := HJ6.out; have := HJ10.out; have := HJ23.out; have := HK4.out; omega
                       case rel => exact ⟨(wrap64 (x87_4 + 1)), (by first | rfl | (simp; done) | (simp [*]; done)), H', ⟨by have := HJ6.out; have := HJ10.out; have := HJ23.out; have := HK4.out; omega⟩, ⟨by (with_reducible repeat (first | refine blk_drewN ?_ _ | refine blk_drew ?_ | refine blk_alloc ?_ _)); exact BK466.out⟩, ⟨by repeat (first | (with_reducible first | exact HB.out | apply below_alloc | apply pw_below_drewN | apply below_drew1 | refine below_set ?_ GE466.out) | exact HB.out)⟩⟩
                      ·rw [if_neg c42] at H
                       have c42b0 : (t472 == t469) = false := beq_eq_false_iff_ne.mpr c42
                       have c42b1 : (t472 != t469) = true := bne_iff_ne.mpr c42
                       obtain rfl := Option.some.inj H
                       have p471 : 0 ≤ (x87_4 : Int) := of_decide_eq_true (by first | (with_reducible assumption) | assumption)
                       have q471 : x87_4 < (((l0.take (t463 : Int).toNat).drop (t462 : Int).toNat).length : Int) := of_decide_eq_true (by first | (with_reducible assumption) | assumption)
                       obtain ⟨ad471, e471, hx471_0⟩ := Kd.at_int HR470.out x87_4 p471 q471
                       cases e471
                       replace hx471_0 := (HB.out.cell (World.block_lt_of_cell? w _ hx471_0)).trans hx471_0
                       replace p471 := eq_true p471
                       replace q471 := eq_true q471
                       try have q471y : (x87_4 < ((t463.toNat - t462.toNat : Nat) : Int)) = True := eq_true (by have h_ := of_eq_true q471; rw [hle37.out] at h_; exact h_)
                       go_wp2_with (first | ((with_reducible refine gate_callee (f := 15) rfl ?_); refine goesL_ (some 93) rfl rfl Tryd.func15 (by kernel_rfl) rfl #[.int .u8 (rd ((l0.take (t463 : Int).toNat).drop (t462 : Int).toNat) x87_4), .bool a2] rfl (by (try simp only [List.map_toArray, List.map_cons, List.map_nil]); first | done | rfl | (simp only [List.length_drop, List.length_take]; rfl)) ?_; (with_reducible refine (class_Of.calls k4 (rd ((l0.take (t463 : Int).toNat).drop (t462 : Int).toNat) x87_4) a2 t472 _ A41.out).mono ?_); rintro e w' ⟨rfl, ⟨nd, rfl⟩⟩; refine ⟨_, rfl, ?_⟩))
                       go_ret
                       exact ⟨by first | rfl | (simp [errW_none, errW_some] <;> rfl) | (simp [*, errW_none, errW_some] <;> rfl), by repeat (first | (with_reducible first | exact HB.out | apply below_alloc | apply pw_below_drewN | apply below_drew1 | refine below_set ?_ GE466.out) | exact HB.out)⟩
                     ·rw [if_neg c40] at H
                      exact absurd H (by simp)
                    ·rw [if_neg c39] at H
                     exact absurd H (by simp)
                   ·rw [if_neg c38] at H
                    have c38b0 : decide (x87_4 < (((l0.take (t463 : Int).toNat).drop (t462 : Int).toNat).length : Int)) = false := decide_eq_false c38
                    try have c38y : decide (x87_4 < ((t463.toNat - t462.toNat : Nat) : Int)) = false := by have h_ := c38b0; rw [hle37.out] at h_; exact h_
                    clear c38
                    have HC43 := Aside0.mk H
                    clear H
                    go_upto_region 20 with (fail)
                    go_cut [129] (fun v129 wc => ∃ (kq : Nat) (x129_42 : Bool), v129 = .bool x129_42 ∧ Aside0 (quoinlaw13_ObjectRuns.j4 kq l0 t461 x8_6 x129_42 t462 t463 t464 = some r) ∧ Aside0 (kq ≤ k4) ∧ Aside0 (wc.heap[gb466]? = some (.cells #[.int .i64 t462, .int .i64 t463, .int .i64 t464] 29 (0, 0))) ∧ Aside0 (Below w.heap.size w wc))
                    case first => as_aux_lemma =>
                     have H := HC43.out
                     clear HC43
                     by_cases c44 : t462 > 0
                     ·rw [if_pos c44] at H
                      have c44b0 : decide (0 < t462) = true := decide_eq_true c44
                      clear c44
                      (first | rw [c44b0] | (simp only [i64_w, i32_w]; rw [c44b0]) | skip)
                      obtain ⟨ji45, hji45⟩ : ∃ j_ : Int, (wrap64 (t462 - 1)) = j_ := ⟨_, rfl⟩
                      replace H : (if 0 ≤ (ji45) then (if (ji45) < (l0.length : Int) then ((class_Of.f k4 (rd l0 (ji45)) a2).bind fun t474 => (if t474 = t469 then (quoinlaw13_ObjectRuns.j4 k4 l0 t461 x8_6 true t462 t463 t464) else (if t463 < (l0.length : Int) then (if 0 ≤ t463 then ((class_Of.f k4 (rd l0 t463) a2).bind fun t476 => (quoinlaw13_ObjectRuns.j4 k4 l0 t461 x8_6 (t476 == t469) t462 t463 t464)) else (none)) else (quoinlaw13_ObjectRuns.j4 k4 l0 t461 x8_6 false t462 t463 t464)))) else (none)) else (none)) = some r := by first | (rw [hji45] at H; exact H) | (simp only [hji45] at H ⊢; exact H)
                      have hji45w : (IntKind.i64.wrap (t462 - 1)) = ji45 := (i64_w _).trans hji45
                      by_cases c46 : 0 ≤ (ji45)
                      ·rw [if_pos c46] at H
                       have c46b0 : decide (0 ≤ (ji45)) = true := decide_eq_true c46
                       clear c46
                       by_cases c47 : (ji45) < (l0.length : Int)
                       ·rw [if_pos c47] at H
                        have c47b0 : decide ((ji45) < (l0.length : Int)) = true := decide_eq_true c47
                        clear c47
                        replace H := Option.bind_eq_some_iff.mp H
                        obtain ⟨t474, A480, H⟩ := H
                        replace H : (if t474 = t469 then (quoinlaw13_ObjectRuns.j4 k4 l0 t461 x8_6 true t462 t463 t464) else (if t463 < (l0.length : Int) then (if 0 ≤ t463 then ((class_Of.f k4 (rd l0 t463) a2).bind fun t476 => (quoinlaw13_ObjectRuns.j4 k4 l0 t461 x8_6 (t476 == t469) t462 t463 t464)) else (none)) else (quoinlaw13_ObjectRuns.j4 k4 l0 t461 x8_6 false t462 t463 t464))) = some r := H
                        have A48 := Aside0.mk A480
                        clear A480
                        by_cases c49 : t474 = t469
                        ·rw [if_pos c49] at H
                         have c49b0 : (t474 == t469) = true := beq_iff_eq.mpr c49
                         have c49b1 : (t474 != t469) = false := bne_eq_false_iff_eq.mpr c49
                         clear c49
                         have H' := Aside0.mk H
                         clear H
                         have hcz50_0 : wr.cell? ⟨gb466, 0, none⟩ = some (.int .i64 t462) := (blk_cell BK466.out 0).trans rfl
                         have hcz50_1 : wr.cell? ⟨gb466, 1, none⟩ = some (.int .i64 t463) := (blk_cell BK466.out 1).trans rfl
                         have hcz50_2 : wr.cell? ⟨gb466, 2, none⟩ = some (.int .i64 t464) := (blk_cell BK466.out 2).trans rfl
                         have hfz50_0 := blk_frozen BK466.out 0
                         have hfz50_1 := blk_frozen BK466.out 1
                         have hfz50_2 := blk_frozen BK466.out 2
                         have p473 : 0 ≤ ((ji45) : Int) := of_decide_eq_true (by first | (with_reducible assumption) | assumption)
                         have q473 : (ji45) < (l0.length : Int) := of_decide_eq_true (by first | (with_reducible assumption) | assumption)
                         obtain ⟨ad473, e473, hx473_0⟩ := Kd.at_int HR0.out (ji45) p473 q473
                         obtain rfl : ad468 = ad473 := (by injection e473)
                         replace hx473_0 := (HB.out.cell (World.block_lt_of_cell? w _ hx473_0)).trans hx473_0
                         replace p473 := eq_true p473
                         replace q473 := eq_true q473
                         go_wp2_with (first | (go_at_call 15; (with_reducible refine (class_Of.calls k4 (rd l0 (ji45)) a2 t474 _ A48.out).mono ?_); rintro e w' ⟨rfl, ⟨nd, rfl⟩⟩))
                         go_meet
                         case rel => exact ⟨_, (true), (by first | rfl | (simp; done) | (simp [*]; done)), H', ⟨by have := HJ6.out; have := HJ10.out; have := HJ23.out; have := HK4.out; first | omega | exact Nat.le_refl _⟩, ⟨by (with_reducible repeat (first | refine blk_drewN ?_ _ | refine blk_drew ?_ | refine blk_alloc ?_ _)); exact BK466.out⟩, ⟨by repeat (first | (with_reducible first | exact HB.out | apply below_alloc | apply pw_below_drewN | apply below_drew1 | refine below_set ?_ GE466.out) | exact HB.out)⟩⟩
                        ·rw [if_neg c49] at H
                         have c49b0 : (t474 == t469) = false := beq_eq_false_iff_ne.mpr c49
                         have c49b1 : (t474 != t469) = true := bne_iff_ne.mpr c49
                         by_cases c51 : t463 < (l0.length : Int)
                         ·rw [if_pos c51] at H
                          have c51b0 : decide (t463 < (l0.length : Int)) = true := decide_eq_true c51
                          clear c51
                          by_cases c52 : 0 ≤ t463
                          ·rw [if_pos c52] at H
                           have c52b0 : decide (0 ≤ t463) = true := decide_eq_true c52
                           clear c52
                           replace H := Option.bind_eq_some_iff.mp H
                           obtain ⟨t476, A530, H⟩ := H
                           replace H : (quoinlaw13_ObjectRuns.j4 k4 l0 t461 x8_6 (t476 == t469) t462 t463 t464) = some r := H
                           have A53 := Aside0.mk A530
                           clear A530
                           have H' := Aside0.mk H
                           clear H
                           have hcz54_0 : wr.cell? ⟨gb466, 0, none⟩ = some (.int .i64 t462) := (blk_cell BK466.out 0).trans rfl
                           have hcz54_1 : wr.cell? ⟨gb466, 1, none⟩ = some (.int .i64 t463) := (blk_cell BK466.out 1).trans rfl
                           have hcz54_2 : wr.cell? ⟨gb466, 2, none⟩ = some (.int .i64 t464) := (blk_cell BK466.out 2).trans rfl
                           have hfz54_0 := blk_frozen BK466.out 0
                           have hfz54_1 := blk_frozen BK466.out 1
                           have hfz54_2 := blk_frozen BK466.out 2
                           have p473 : 0 ≤ ((ji45) : Int) := of_decide_eq_true (by first | (with_reducible assumption) | assumption)
                           have q473 : (ji45) < (l0.length : Int) := of_decide_eq_true (by first | (with_reducible assumption) | assumption)
                           obtain ⟨ad473, e473, hx473_0⟩ := Kd.at_int HR0.out (ji45) p473 q473
                           obtain rfl : ad468 = ad473 := (by injection e473)
                           replace hx473_0 := (HB.out.cell (World.block_lt_of_cell? w _ hx473_0)).trans hx473_0
                           replace p473 := eq_true p473
                           replace q473 := eq_true q473
                           go_wp2_with (first | (go_at_call 15; (with_reducible refine (class_Of.calls k4 (rd l0 (ji45)) a2 t474 _ A48.out).mono ?_); rintro e w' ⟨rfl, ⟨nd, rfl⟩⟩; have p475 : 0 ≤ (t463 : Int) := of_decide_eq_true (by first | (with_reducible assumption) | assumption); have q475 : t463 < (l0.length : Int) := of_decide_eq_true (by first | (with_reducible assumption) | assumption); obtain ⟨ad475, e475, hx475_0⟩ := Kd.at_int HR0.out t463 p475 q475; obtain rfl : ad468 = ad475 := (by injection e475); replace hx475_0 := (HB.out.cell (World.block_lt_of_cell? w _ hx475_0)).trans hx475_0; replace p475 := eq_true p475; replace q475 := eq_true q475) | (go_at_call 15; (with_reducible refine (class_Of.calls k4 (rd l0 t463) a2 t476 _ A53.out).mono ?_); rintro e w' ⟨rfl, ⟨nd, rfl⟩⟩))
                           go_meet
                           case rel => exact ⟨_, ((t476 == t469)), (by first | rfl | (simp; done) | (simp [*]; done)), H', ⟨by have := HJ6.out; have := HJ10.out; have := HJ23.out; have := HK4.out; first | omega | exact Nat.le_refl _⟩, ⟨by (with_reducible repeat (first | refine blk_drewN ?_ _ | refine blk_drew ?_ | refine blk_alloc ?_ _)); exact BK466.out⟩, ⟨by repeat (first | (with_reducible first | exact HB.out | apply below_alloc | apply pw_below_drewN | apply below_drew1 | refine below_set ?_ GE466.out) | exact HB.out)⟩⟩
                          ·rw [if_neg c52] at H
                           exact absurd H (by simp)
                         ·rw [if_neg c51] at H
                          have c51b0 : decide (t463 < (l0.length : Int)) = false := decide_eq_false c51
                          clear c51
                          have H' := Aside0.mk H
                          clear H
                          have hcz55_0 : wr.cell? ⟨gb466, 0, none⟩ = some (.int .i64 t462) := (blk_cell BK466.out 0).trans rfl
                          have hcz55_1 : wr.cell? ⟨gb466, 1, none⟩ = some (.int .i64 t463) := (blk_cell BK466.out 1).trans rfl
                          have hcz55_2 : wr.cell? ⟨gb466, 2, none⟩ = some (.int .i64 t464) := (blk_cell BK466.out 2).trans rfl
                          have hfz55_0 := blk_frozen BK466.out 0
                          have hfz55_1 := blk_frozen BK466.out 1
                          have hfz55_2 := blk_frozen BK466.out 2
                          have p473 : 0 ≤ ((ji45) : Int) := of_decide_eq_true (by first | (with_reducible assumption) | assumption)
                          have q473 : (ji45) < (l0.length : Int) := of_decide_eq_true (by first | (with_reducible assumption) | assumption)
                          obtain ⟨ad473, e473, hx473_0⟩ := Kd.at_int HR0.out (ji45) p473 q473
                          obtain rfl : ad468 = ad473 := (by injection e473)
                          replace hx473_0 := (HB.out.cell (World.block_lt_of_cell? w _ hx473_0)).trans hx473_0
                          replace p473 := eq_true p473
                          replace q473 := eq_true q473
                          go_wp2_with (first | (go_at_call 15; (with_reducible refine (class_Of.calls k4 (rd l0 (ji45)) a2 t474 _ A48.out).mono ?_); rintro e w' ⟨rfl, ⟨nd, rfl⟩⟩))
                          go_meet
                          case rel => exact ⟨_, (false), (by first | rfl | (simp; done) | (simp [*]; done)), H', ⟨by have := HJ6.out; have := HJ10.out; have := HJ23.out; have := HK4.out; first | omega | exact Nat.le_refl _⟩, ⟨by (with_reducible repeat (first | refine blk_drewN ?_ _ | refine blk_drew ?_ | refine blk_alloc ?_ _)); exact BK466.out⟩, ⟨by repeat (first | (with_reducible first | exact HB.out | apply below_alloc | apply pw_below_drewN | apply below_drew1 | refine below_set ?_ GE466.out) | exact HB.out)⟩⟩
                       ·rw [if_neg c47] at H
                        exact absurd H (by simp)
                      ·rw [if_neg c46] at H
                       exact absurd H (by simp)
                     ·rw [if_neg c44] at H
                      have c44b0 : decide (0 < t462) = false := decide_eq_false c44
                      clear c44
                      (first | rw [c44b0] | (simp only [i64_w, i32_w]; rw [c44b0]) | skip)
                      by_cases c56 : t463 < (l0.length : Int)
                      ·rw [if_pos c56] at H
                       have c56b0 : decide (t463 < (l0.length : Int)) = true := decide_eq_true c56
                       clear c56
                       by_cases c57 : 0 ≤ t463
                       ·rw [if_pos c57] at H
                        have c57b0 : decide (0 ≤ t463) = true := decide_eq_true c57
                        clear c57
                        replace H := Option.bind_eq_some_iff.mp H
                        obtain ⟨t478, A580, H⟩ := H
                        replace H : (quoinlaw13_ObjectRuns.j4 k4 l0 t461 x8_6 (t478 == t469) t462 t463 t464) = some r := H
                        have A58 := Aside0.mk A580
                        clear A580
                        have H' := Aside0.mk H
                        clear H
                        have hcz59_0 : wr.cell? ⟨gb466, 0, none⟩ = some (.int .i64 t462) := (blk_cell BK466.out 0).trans rfl
                        have hcz59_1 : wr.cell? ⟨gb466, 1, none⟩ = some (.int .i64 t463) := (blk_cell BK466.out 1).trans rfl
                        have hcz59_2 : wr.cell? ⟨gb466, 2, none⟩ = some (.int .i64 t464) := (blk_cell BK466.out 2).trans rfl
                        have hfz59_0 := blk_frozen BK466.out 0
                        have hfz59_1 := blk_frozen BK466.out 1
                        have hfz59_2 := blk_frozen BK466.out 2
                        have p477 : 0 ≤ (t463 : Int) := of_decide_eq_true (by first | (with_reducible assumption) | assumption)
                        have q477 : t463 < (l0.length : Int) := of_decide_eq_true (by first | (with_reducible assumption) | assumption)
                        obtain ⟨ad477, e477, hx477_0⟩ := Kd.at_int HR0.out t463 p477 q477
                        obtain rfl : ad468 = ad477 := (by injection e477)
                        replace hx477_0 := (HB.out.cell (World.block_lt_of_cell? w _ hx477_0)).trans hx477_0
                        replace p477 := eq_true p477
                        replace q477 := eq_true q477
                        go_wp2_with (first | (go_at_call 15; (with_reducible refine (class_Of.calls k4 (rd l0 t463) a2 t478 _ A58.out).mono ?_); rintro e w' ⟨rfl, ⟨nd, rfl⟩⟩))
                        go_meet
                        case rel => exact ⟨_, ((t478 == t469)), (by first | rfl | (simp; done) | (simp [*]; done)), H', ⟨by have := HJ6.out; have := HJ10.out; have := HJ23.out; have := HK4.out; first | omega | exact Nat.le_refl _⟩, ⟨by (with_reducible repeat (first | refine blk_drewN ?_ _ | refine blk_drew ?_ | refine blk_alloc ?_ _)); exact BK466.out⟩, ⟨by repeat (first | (with_reducible first | exact HB.out | apply below_alloc | apply pw_below_drewN | apply below_drew1 | refine below_set ?_ GE466.out) | exact HB.out)⟩⟩
                       ·rw [if_neg c57] at H
                        exact absurd H (by simp)
                      ·rw [if_neg c56] at H
                       have c56b0 : decide (t463 < (l0.length : Int)) = false := decide_eq_false c56
                       clear c56
                       have H' := Aside0.mk H
                       clear H
                       have hcz60_0 : wr.cell? ⟨gb466, 0, none⟩ = some (.int .i64 t462) := (blk_cell BK466.out 0).trans rfl
                       have hcz60_1 : wr.cell? ⟨gb466, 1, none⟩ = some (.int .i64 t463) := (blk_cell BK466.out 1).trans rfl
                       have hcz60_2 : wr.cell? ⟨gb466, 2, none⟩ = some (.int .i64 t464) := (blk_cell BK466.out 2).trans rfl
                       have hfz60_0 := blk_frozen BK466.out 0
                       have hfz60_1 := blk_frozen BK466.out 1
                       have hfz60_2 := blk_frozen BK466.out 2
                       go_wp2
                       go_meet
                       case rel => exact ⟨_, (false), (by first | rfl | (simp; done) | (simp [*]; done)), H', ⟨by have := HJ6.out; have := HJ10.out; have := HJ23.out; have := HK4.out; first | omega | exact Nat.le_refl _⟩, ⟨by (with_reducible repeat (first | refine blk_drewN ?_ _ | refine blk_drew ?_ | refine blk_alloc ?_ _)); exact BK466.out⟩, ⟨by repeat (first | (with_reducible first | exact HB.out | apply below_alloc | apply pw_below_drewN | apply below_drew1 | refine below_set ?_ GE466.out) | exact HB.out)⟩⟩
                    case rest => as_aux_lemma =>
                     clear HC43
                     try clear c1
                     try clear c2
                     try clear p2
                     try clear c3
                     try clear c4
                     try clear p4
                     try clear q4
                     try clear hx4
                     try clear c5
                     try clear c6
                     try clear p6
                     try clear c7
                     try clear c9
                     try clear c10
                     try clear c12
                     try clear c15
                     try clear c15b0
                     try clear c15b1
                     try clear c16
                     try clear c16b0
                     try clear c17
                     try clear c17b0
                     try clear c18
                     try clear c20
                     try clear c20b0
                     try clear c20b1
                     try clear c21
                     try clear c21b0
                     try clear c22
                     try clear c22b0
                     try clear c25
                     try clear c25b0
                     try clear c27
                     try clear c27b0
                     try clear c29
                     try clear c29b0
                     try clear c32
                     try clear c33
                     try clear c33b0
                     try clear c33b1
                     try clear c34
                     try clear c34b0
                     try clear c34b1
                     try clear c35
                     try clear c35b0
                     try clear c35b1
                     try clear c38
                     try clear c38b0
                     try clear c39
                     try clear c39b0
                     try clear c40
                     try clear c40b0
                     try clear c42
                     try clear c42b0
                     try clear c42b1
                     try clear c44
                     try clear c44b0
                     try clear c46
                     try clear c46b0
                     try clear p46
                     try clear q46
                     try clear hx46
                     try clear c47
                     try clear c47b0
                     try clear p47
                     try clear q47
                     try clear hx47
                     try clear c49
                     try clear c49b0
                     try clear c49b1
                     try clear c51
                     try clear c51b0
                     try clear c52
                     try clear c52b0
                     try clear c56
                     try clear c56b0
                     try clear c57
                     try clear c57b0
                     try clear hcz14_0
                     try clear hcz14_1
                     try clear hcz14_2
                     try clear hcz26_0
                     try clear hcz26_1
                     try clear hcz26_2
                     try clear hcz28_0
                     try clear hcz28_1
                     try clear hcz28_2
                     try clear hcz30_0
                     try clear hcz30_1
                     try clear hcz30_2
                     try clear hcz31_0
                     try clear hcz31_1
                     try clear hcz31_2
                     try clear hcz36_0
                     try clear hcz36_1
                     try clear hcz36_2
                     try clear hcz50_0
                     try clear hcz50_1
                     try clear hcz50_2
                     try clear hcz54_0
                     try clear hcz54_1
                     try clear hcz54_2
                     try clear hcz55_0
                     try clear hcz55_1
                     try clear hcz55_2
                     try clear hcz59_0
                     try clear hcz59_1
                     try clear hcz59_2
                     try clear hcz60_0
                     try clear hcz60_1
                     try clear hcz60_2
                     try clear hfz14_0
                     try clear hfz14_1
                     try clear hfz14_2
                     try clear hfz26_0
                     try clear hfz26_1
                     try clear hfz26_2
                     try clear hfz28_0
                     try clear hfz28_1
                     try clear hfz28_2
                     try clear hfz30_0
                     try clear hfz30_1
                     try clear hfz30_2
                     try clear hfz31_0
                     try clear hfz31_1
                     try clear hfz31_2
                     try clear hfz36_0
                     try clear hfz36_1
                     try clear hfz36_2
                     try clear hfz50_0
                     try clear hfz50_1
                     try clear hfz50_2
                     try clear hfz54_0
                     try clear hfz54_1
                     try clear hfz54_2
                     try clear hfz55_0
                     try clear hfz55_1
                     try clear hfz55_2
                     try clear hfz59_0
                     try clear hfz59_1
                     try clear hfz59_2
                     try clear hfz60_0
                     try clear hfz60_1
                     try clear hfz60_2
                     try clear hx467_0
                     try clear hx468_0
                     try clear hx471_0
                     try clear hx473_0
                     try clear hx475_0
                     try clear hx477_0
                     try clear p2
                     try clear p4
                     try clear p467
                     try clear p468
                     try clear p471
                     try clear p473
                     try clear p475
                     try clear p477
                     try clear p6
                     try clear q4
                     try clear q467
                     try clear q468
                     try clear q471
                     try clear q473
                     try clear q475
                     try clear q477
                     obtain ⟨kq, x129_42, rfl, HA, HJ42, BK466, HB⟩ := hcut
                     cases kq with
                     | zero => exact absurd HA.out (by simp [quoinlaw13_ObjectRuns.j4])
                     | succ kj42 =>
                      have H := HA.out
                      clear HA
                      simp only [quoinlaw13_ObjectRuns.j4] at H
                      by_cases c61 : x129_42 = true
                      ·subst c61
                       have H1 : (some false) = some r := by rw [if_pos rfl] at H; exact H
                       clear H
                       have H := H1
                       clear H1
                       obtain rfl := Option.some.inj H
                       go_wp2
                       go_ret
                       exact ⟨by first | rfl | (simp [errW_none, errW_some] <;> rfl) | (simp [*, errW_none, errW_some] <;> rfl), by repeat (first | (with_reducible first | exact HB.out | apply below_alloc | apply pw_below_drewN | apply below_drew1 | refine below_set ?_ GE466.out) | exact HB.out)⟩
                      ·replace c61 := Bool.eq_false_iff.mpr c61
                       subst c61
                       have H1 : ((object_Select.f kj42 l0 t461 2 x8_6).bind fun bt479 => (if t463 = (l0.length : Int) then (quoinlaw13_ObjectRuns.j5 kj42 l0 t461 x8_6 bt479.2.2.2 true t462 t463 t464 bt479.1 bt479.2.1 bt479.2.2.1) else (if 0 ≤ t463 then (if t463 < (l0.length : Int) then (quoinlaw13_ObjectRuns.j5 kj42 l0 t461 x8_6 bt479.2.2.2 ((rd l0 t463) == 10) t462 t463 t464 bt479.1 bt479.2.1 bt479.2.2.1) else (none)) else (none)))) = some r := by rw [if_neg (show ¬ (false = true) by decide)] at H; exact H
                       clear H
                       have H := H1
                       clear H1
                       replace H := Option.bind_eq_some_iff.mp H
                       obtain ⟨⟨t479, t480, t481, t482⟩, A620, H⟩ := H
                       replace H : (if t463 = (l0.length : Int) then (quoinlaw13_ObjectRuns.j5 kj42 l0 t461 x8_6 t482 true t462 t463 t464 t479 t480 t481) else (if 0 ≤ t463 then (if t463 < (l0.length : Int) then (quoinlaw13_ObjectRuns.j5 kj42 l0 t461 x8_6 t482 ((rd l0 t463) == 10) t462 t463 t464 t479 t480 t481) else (none)) else (none))) = some r := H
                       have A62 := Aside0.mk A620
                       clear A620
                       have HC63 := Aside0.mk H
                       clear H
                       go_upto_region 23 with (first | ((with_reducible refine gate_callee (f := 10) rfl ?_); refine goesL_ (some 134) rfl rfl Tryd.func10 (by kernel_rfl) rfl #[.slice (some ad468) l0.length c0, .int .i64 t461, .int .i64 2, .string x8_6] rfl (by (try simp only [List.map_toArray, List.map_cons, List.map_nil]); first | done | rfl | (simp only [List.length_drop, List.length_take]; rfl)) ?_; (with_reducible refine (object_Select.calls kj42 _ _ l0 t461 2 x8_6 t479 t480 t481 t482 _ ?side1 ?side2 A62.out).mono ?_); (case side1 => repeat (first | exact (Kd.C_below HR0.out HB.out) | (with_reducible refine Kd.C_alloc ?_ _) | (with_reducible refine Kd.C_drewN ?_ _) | (with_reducible refine Kd.C_drew ?_))); (case side2 => exact HC0.out); rintro e w64 ⟨rfl, hb⟩; refine ⟨_, rfl, ?_⟩; have n0_ := Aside0.mk (blk_below (g := gb466) (o := .cells #[.int .i64 t462, .int .i64 t463, .int .i64 t464] 29 (0, 0)) (by (with_reducible repeat (first | refine blk_drewN ?_ _ | refine blk_drew ?_ | refine blk_alloc ?_ _)); exact BK466.out) hb); have n1_ := Aside0.mk (below_step (by repeat (first | (with_reducible first | exact HB.out | apply below_alloc | apply pw_below_drewN | apply below_drew1 | refine below_set ?_ GE466.out) | exact HB.out)) hb); clear BK466; clear HB; have BK466 := n0_; have HB := n1_; clear n0_ n1_; (try clear hb); (try clear hb2); (try clear hk); (try clear hi)) | ((with_reducible refine gate_dst (N := 14) rfl ?_); (try (refine gate_guard (by rfl) ?_; dsimp only)); refine box_event ?hg (N := 14) ?hd (cs := #[.int .i64 0, .int .i64 0, .int .i64 0]) (t := 29) ?hr ?_; (case hd => rfl); (case hg => rfl); (case hr => first | (go_simp; done) | (go_simp; rfl)); intro gb483 hg w65 hbox hb; have n0_ := Aside0.mk (blk_below (g := gb466) (o := .cells #[.int .i64 t462, .int .i64 t463, .int .i64 t464] 29 (0, 0)) (by (with_reducible repeat (first | refine blk_drewN ?_ _ | refine blk_drew ?_ | refine blk_alloc ?_ _)); exact BK466.out) hb); have n1_ := Aside0.mk (below_step (by repeat (first | (with_reducible first | exact HB.out | apply below_alloc | apply pw_below_drewN | apply below_drew1 | refine below_set ?_ GE466.out) | exact HB.out)) hb); have n2_ := Aside0.mk (hbox); have n3_ := Aside0.mk ((by rw [hg]; exact (below_size (by repeat (first | (with_reducible first | exact HB.out | apply below_alloc | apply pw_below_drewN | apply below_drew1 | refine below_set ?_ GE466.out) | exact HB.out))) : w.heap.size ≤ gb483)); have n4_ := Aside0.mk ((by rw [hg]; exact (below_size (by repeat (first | (with_reducible first | exact HB.out | apply below_alloc | apply pw_below_drewN | apply below_drew1 | refine below_set ?_ GE466.out) | exact HB.out))) : w.heap.size ≤ gb483)); have n5_ := Aside0.mk ((by rw [hg]; exact Nat.ne_of_lt (blk_lt (g := gb466) (o := .cells #[.int .i64 t462, .int .i64 t463, .int .i64 t464] 29 (0, 0)) (by (with_reducible repeat (first | refine blk_drewN ?_ _ | refine blk_drew ?_ | refine blk_alloc ?_ _)); exact BK466.out)) : gb466 ≠ gb483)); have n6_ := Aside0.mk ((by rw [hg]; exact Nat.ne_of_gt (blk_lt (g := gb466) (o := .cells #[.int .i64 t462, .int .i64 t463, .int .i64 t464] 29 (0, 0)) (by (with_reducible repeat (first | refine blk_drewN ?_ _ | refine blk_drew ?_ | refine blk_alloc ?_ _)); exact BK466.out)) : gb483 ≠ gb466)); clear BK466; clear HB; have BK466 := n0_; have HB := n1_; have BK483 := n2_; have GW483 := n3_; have GE483 := n4_; have NB466_483 := n5_; have NB483_466 := n6_; clear n0_ n1_ n2_ n3_ n4_ n5_ n6_; clear hb hbox hg; have hnb66 := NB483_466.out; have hnc66 := NB466_483.out; have hcz67_0 : w65.cell? ⟨gb483, 0, none⟩ = some (.int .i64 0) := (blk_cell BK483.out 0).trans rfl; have hcz67_1 : w65.cell? ⟨gb483, 1, none⟩ = some (.int .i64 0) := (blk_cell BK483.out 1).trans rfl; have hcz67_2 : w65.cell? ⟨gb483, 2, none⟩ = some (.int .i64 0) := (blk_cell BK483.out 2).trans rfl; have hfz67_0 := blk_frozen BK483.out 0; have hfz67_1 := blk_frozen BK483.out 1; have hfz67_2 := blk_frozen BK483.out 2))
                       (try simp only [Act.put, List.setIfInBounds_toArray, List.set_cons_zero, List.set_cons_succ])
                       go_cut [149] (fun v149 wc => ∃ (kq : Nat) (x149_62 : Bool), v149 = .bool x149_62 ∧ Aside0 (quoinlaw13_ObjectRuns.j5 kq l0 t461 x8_6 t482 x149_62 t462 t463 t464 t479 t480 t481 = some r) ∧ Aside0 (kq ≤ kj42) ∧ Aside0 (wc.heap[gb466]? = some (.cells #[.int .i64 t462, .int .i64 t463, .int .i64 t464] 29 (0, 0))) ∧ Aside0 (wc.heap[gb483]? = some (.cells #[.int .i64 t479, .int .i64 t480, .int .i64 t481] 29 (0, 0))) ∧ Aside0 (Below w.heap.size w wc))
                       case first => as_aux_lemma =>
                        have H := HC63.out
                        clear HC63
                        by_cases c68 : t463 = (l0.length : Int)
                        ·rw [if_pos c68] at H
                         have c68b0 : (t463 == (l0.length : Int)) = true := beq_iff_eq.mpr c68
                         have c68b1 : (t463 != (l0.length : Int)) = false := bne_eq_false_iff_eq.mpr c68
                         clear c68
                         (first | rw [c68b0] | (simp only [i64_w, i32_w]; rw [c68b0]) | skip)
                         have H' := Aside0.mk H
                         clear H
                         have hnb69 := NB466_483.out
                         have hnc69 := NB483_466.out
                         have hcz70_0 : w65.cell? ⟨gb466, 0, none⟩ = some (.int .i64 t462) := (blk_cell BK466.out 0).trans rfl
                         have hcz70_1 : w65.cell? ⟨gb466, 1, none⟩ = some (.int .i64 t463) := (blk_cell BK466.out 1).trans rfl
                         have hcz70_2 : w65.cell? ⟨gb466, 2, none⟩ = some (.int .i64 t464) := (blk_cell BK466.out 2).trans rfl
                         have hfz70_0 := blk_frozen BK466.out 0
                         have hfz70_1 := blk_frozen BK466.out 1
                         have hfz70_2 := blk_frozen BK466.out 2
                         go_wp2
                         go_meet
                         case rel => exact ⟨_, (true), (by first | rfl | (simp; done) | (simp [*]; done)), H', ⟨by have := HJ6.out; have := HJ10.out; have := HJ23.out; have := HK4.out; have := HJ42.out; first | omega | exact Nat.le_refl _⟩, ⟨by (with_reducible repeat (first | refine blk_drewN ?_ _ | refine blk_drew ?_ | refine blk_alloc ?_ _)); refine blk_far ?_ NB466_483.out _; (with_reducible repeat (first | refine blk_drewN ?_ _ | refine blk_drew ?_ | refine blk_alloc ?_ _)); refine blk_far ?_ NB466_483.out _; (with_reducible repeat (first | refine blk_drewN ?_ _ | refine blk_drew ?_ | refine blk_alloc ?_ _)); refine blk_far ?_ NB466_483.out _; (with_reducible repeat (first | refine blk_drewN ?_ _ | refine blk_drew ?_ | refine blk_alloc ?_ _)); exact BK466.out⟩, ⟨by (with_reducible repeat (first | refine blk_drewN ?_ _ | refine blk_drew ?_ | refine blk_alloc ?_ _)); refine blk_put (cs := #[.int .i64 t479, .int .i64 t480, .int .i64 0]) ?_ 2 _ rfl; (with_reducible repeat (first | refine blk_drewN ?_ _ | refine blk_drew ?_ | refine blk_alloc ?_ _)); refine blk_put (cs := #[.int .i64 t479, .int .i64 0, .int .i64 0]) ?_ 1 _ rfl; (with_reducible repeat (first | refine blk_drewN ?_ _ | refine blk_drew ?_ | refine blk_alloc ?_ _)); refine blk_put (cs := #[.int .i64 0, .int .i64 0, .int .i64 0]) ?_ 0 _ rfl; (with_reducible repeat (first | refine blk_drewN ?_ _ | refine blk_drew ?_ | refine blk_alloc ?_ _)); exact BK483.out⟩, ⟨by repeat (first | (with_reducible first | exact HB.out | apply below_alloc | apply pw_below_drewN | apply below_drew1 | refine below_set ?_ GE466.out | refine below_set ?_ GE483.out) | exact HB.out)⟩⟩
                        ·rw [if_neg c68] at H
                         have c68b0 : (t463 == (l0.length : Int)) = false := beq_eq_false_iff_ne.mpr c68
                         have c68b1 : (t463 != (l0.length : Int)) = true := bne_iff_ne.mpr c68
                         (first | rw [c68b0] | (simp only [i64_w, i32_w]; rw [c68b0]) | skip)
                         by_cases c71 : 0 ≤ t463
                         ·rw [if_pos c71] at H
                          have c71b0 : decide (0 ≤ t463) = true := decide_eq_true c71
                          clear c71
                          by_cases c72 : t463 < (l0.length : Int)
                          ·rw [if_pos c72] at H
                           have c72b0 : decide (t463 < (l0.length : Int)) = true := decide_eq_true c72
                           clear c72
                           have H' := Aside0.mk H
                           clear H
                           have hnb73 := NB466_483.out
                           have hnc73 := NB483_466.out
                           have hcz74_0 : w65.cell? ⟨gb466, 0, none⟩ = some (.int .i64 t462) := (blk_cell BK466.out 0).trans rfl
                           have hcz74_1 : w65.cell? ⟨gb466, 1, none⟩ = some (.int .i64 t463) := (blk_cell BK466.out 1).trans rfl
                           have hcz74_2 : w65.cell? ⟨gb466, 2, none⟩ = some (.int .i64 t464) := (blk_cell BK466.out 2).trans rfl
                           have hfz74_0 := blk_frozen BK466.out 0
                           have hfz74_1 := blk_frozen BK466.out 1
                           have hfz74_2 := blk_frozen BK466.out 2
                           have p484 : 0 ≤ (t463 : Int) := of_decide_eq_true (by first | (with_reducible assumption) | assumption)
                           have q484 : t463 < (l0.length : Int) := of_decide_eq_true (by first | (with_reducible assumption) | assumption)
                           obtain ⟨ad484, e484, hx484_0⟩ := Kd.at_int HR0.out t463 p484 q484
                           obtain rfl : ad468 = ad484 := (by injection e484)
                           have hn484_0 : ad468.block ≠ gb483 := Nat.ne_of_lt (Nat.lt_of_lt_of_le (by have := World.block_lt_of_cell? _ _ hx484_0; first | rwa [add_block] at this | exact this) GW483.out)
                           have hn484_1 : ad468.block ≠ gb483 := Nat.ne_of_lt (Nat.lt_of_lt_of_le (by have := World.block_lt_of_cell? _ _ hx484_0; first | rwa [add_block] at this | exact this) GW483.out)
                           have hn484_2 : ad468.block ≠ gb483 := Nat.ne_of_lt (Nat.lt_of_lt_of_le (by have := World.block_lt_of_cell? _ _ hx484_0; first | rwa [add_block] at this | exact this) GW483.out)
                           replace hx484_0 := (HB.out.cell (World.block_lt_of_cell? w _ hx484_0)).trans hx484_0
                           replace hx484_0 := (cell_far (p := ⟨gb483, 0, none⟩) (by first | (rw [add_block]; exact hn484_0) | (show (Addr.add _ _).block ≠ _; rw [add_block]; exact hn484_0) | exact hn484_0) (.int .i64 t479)).trans hx484_0
                           replace hx484_0 := (cell_far (p := ⟨gb483, 1, none⟩) (by first | (rw [add_block]; exact hn484_1) | (show (Addr.add _ _).block ≠ _; rw [add_block]; exact hn484_1) | exact hn484_1) (.int .i64 t480)).trans hx484_0
                           replace hx484_0 := (cell_far (p := ⟨gb483, 2, none⟩) (by first | (rw [add_block]; exact hn484_2) | (show (Addr.add _ _).block ≠ _; rw [add_block]; exact hn484_2) | exact hn484_2) (.int .i64 t481)).trans hx484_0
                           clear hn484_0
                           clear hn484_1
                           clear hn484_2
                           replace p484 := eq_true p484
                           replace q484 := eq_true q484
                           go_wp2
                           go_meet
                           case rel => exact ⟨_, (((rd l0 t463) == 10)), (by first | rfl | (simp; done) | (simp [*]; done)), H', ⟨by have := HJ6.out; have := HJ10.out; have := HJ23.out; have := HK4.out; have := HJ42.out; first | omega | exact Nat.le_refl _⟩, ⟨by (with_reducible repeat (first | refine blk_drewN ?_ _ | refine blk_drew ?_ | refine blk_alloc ?_ _)); refine blk_far ?_ NB466_483.out _; (with_reducible repeat (first | refine blk_drewN ?_ _ | refine blk_drew ?_ | refine blk_alloc ?_ _)); refine blk_far ?_ NB466_483.out _; (with_reducible repeat (first | refine blk_drewN ?_ _ | refine blk_drew ?_ | refine blk_alloc ?_ _)); refine blk_far ?_ NB466_483.out _; (with_reducible repeat (first | refine blk_drewN ?_ _ | refine blk_drew ?_ | refine blk_alloc ?_ _)); exact BK466.out⟩, ⟨by (with_reducible repeat (first | refine blk_drewN ?_ _ | refine blk_drew ?_ | refine blk_alloc ?_ _)); refine blk_put (cs := #[.int .i64 t479, .int .i64 t480, .int .i64 0]) ?_ 2 _ rfl; (with_reducible repeat (first | refine blk_drewN ?_ _ | refine blk_drew ?_ | refine blk_alloc ?_ _)); refine blk_put (cs := #[.int .i64 t479, .int .i64 0, .int .i64 0]) ?_ 1 _ rfl; (with_reducible repeat (first | refine blk_drewN ?_ _ | refine blk_drew ?_ | refine blk_alloc ?_ _)); refine blk_put (cs := #[.int .i64 0, .int .i64 0, .int .i64 0]) ?_ 0 _ rfl; (with_reducible repeat (first | refine blk_drewN ?_ _ | refine blk_drew ?_ | refine blk_alloc ?_ _)); exact BK483.out⟩, ⟨by repeat (first | (with_reducible first | exact HB.out | apply below_alloc | apply pw_below_drewN | apply below_drew1 | refine below_set ?_ GE466.out | refine below_set ?_ GE483.out) | exact HB.out)⟩⟩
                          ·rw [if_neg c72] at H
                           exact absurd H (by simp)
                         ·rw [if_neg c71] at H
                          exact absurd H (by simp)
                       case rest => as_aux_lemma =>
                        clear HC63
                        try clear c1
                        try clear c2
                        try clear p2
                        try clear c3
                        try clear c4
                        try clear p4
                        try clear q4
                        try clear hx4
                        try clear c5
                        try clear c6
                        try clear p6
                        try clear c7
                        try clear c9
                        try clear c10
                        try clear c12
                        try clear c15
                        try clear c15b0
                        try clear c15b1
                        try clear c16
                        try clear c16b0
                        try clear c17
                        try clear c17b0
                        try clear c18
                        try clear c20
                        try clear c20b0
                        try clear c20b1
                        try clear c21
                        try clear c21b0
                        try clear c22
                        try clear c22b0
                        try clear c25
                        try clear c25b0
                        try clear c27
                        try clear c27b0
                        try clear c29
                        try clear c29b0
                        try clear c32
                        try clear c33
                        try clear c33b0
                        try clear c33b1
                        try clear c34
                        try clear c34b0
                        try clear c34b1
                        try clear c35
                        try clear c35b0
                        try clear c35b1
                        try clear c38
                        try clear c38b0
                        try clear c39
                        try clear c39b0
                        try clear c40
                        try clear c40b0
                        try clear c42
                        try clear c42b0
                        try clear c42b1
                        try clear c44
                        try clear c44b0
                        try clear c46
                        try clear c46b0
                        try clear p46
                        try clear q46
                        try clear hx46
                        try clear c47
                        try clear c47b0
                        try clear p47
                        try clear q47
                        try clear hx47
                        try clear p48
                        try clear q48
                        try clear hx48
                        try clear c49
                        try clear c49b0
                        try clear c49b1
                        try clear c51
                        try clear c51b0
                        try clear c52
                        try clear c52b0
                        try clear c56
                        try clear c56b0
                        try clear c57
                        try clear c57b0
                        try clear c61
                        try clear p64
                        try clear c66
                        try clear c68
                        try clear c68b0
                        try clear c68b1
                        try clear c69
                        try clear c71
                        try clear c71b0
                        try clear c72
                        try clear c72b0
                        try clear c73
                        try clear hcz14_0
                        try clear hcz14_1
                        try clear hcz14_2
                        try clear hcz26_0
                        try clear hcz26_1
                        try clear hcz26_2
                        try clear hcz28_0
                        try clear hcz28_1
                        try clear hcz28_2
                        try clear hcz30_0
                        try clear hcz30_1
                        try clear hcz30_2
                        try clear hcz31_0
                        try clear hcz31_1
                        try clear hcz31_2
                        try clear hcz36_0
                        try clear hcz36_1
                        try clear hcz36_2
                        try clear hcz50_0
                        try clear hcz50_1
                        try clear hcz50_2
                        try clear hcz54_0
                        try clear hcz54_1
                        try clear hcz54_2
                        try clear hcz55_0
                        try clear hcz55_1
                        try clear hcz55_2
                        try clear hcz59_0
                        try clear hcz59_1
                        try clear hcz59_2
                        try clear hcz60_0
                        try clear hcz60_1
                        try clear hcz60_2
                        try clear hcz67_0
                        try clear hcz67_1
                        try clear hcz67_2
                        try clear hcz70_0
                        try clear hcz70_1
                        try clear hcz70_2
                        try clear hcz74_0
                        try clear hcz74_1
                        try clear hcz74_2
                        try clear hfz14_0
                        try clear hfz14_1
                        try clear hfz14_2
                        try clear hfz26_0
                        try clear hfz26_1
                        try clear hfz26_2
                        try clear hfz28_0
                        try clear hfz28_1
                        try clear hfz28_2
                        try clear hfz30_0
                        try clear hfz30_1
                        try clear hfz30_2
                        try clear hfz31_0
                        try clear hfz31_1
                        try clear hfz31_2
                        try clear hfz36_0
                        try clear hfz36_1
                        try clear hfz36_2
                        try clear hfz50_0
                        try clear hfz50_1
                        try clear hfz50_2
                        try clear hfz54_0
                        try clear hfz54_1
                        try clear hfz54_2
                        try clear hfz55_0
                        try clear hfz55_1
                        try clear hfz55_2
                        try clear hfz59_0
                        try clear hfz59_1
                        try clear hfz59_2
                        try clear hfz60_0
                        try clear hfz60_1
                        try clear hfz60_2
                        try clear hfz67_0
                        try clear hfz67_1
                        try clear hfz67_2
                        try clear hfz70_0
                        try clear hfz70_1
                        try clear hfz70_2
                        try clear hfz74_0
                        try clear hfz74_1
                        try clear hfz74_2
                        try clear hx467_0
                        try clear hx468_0
                        try clear hx471_0
                        try clear hx473_0
                        try clear hx475_0
                        try clear hx477_0
                        try clear hx484_0
                        try clear p2
                        try clear p4
                        try clear p46
                        try clear p467
                        try clear p468
                        try clear p47
                        try clear p471
                        try clear p473
                        try clear p475
                        try clear p477
                        try clear p484
                        try clear p6
                        try clear q4
                        try clear q46
                        try clear q467
                        try clear q468
                        try clear q47
                        try clear q471
                        try clear q473
                        try clear q475
                        try clear q477
                        try clear q484
                        obtain ⟨kq, x149_62, rfl, HA, HJ62, BK466, BK483, HB⟩ := hcut
                        cases kq with
                        | zero => exact absurd HA.out (by simp [quoinlaw13_ObjectRuns.j5])
                        | succ kj62 =>
                         have H := HA.out
                         clear HA
                         simp only [quoinlaw13_ObjectRuns.j5] at H
                         by_cases c75 : x149_62 = true
                         ·subst c75
                          have H1 : (if t482 = 130 then (some (t479 == 0 && (t480 == 0 && (t481 == 0)))) else (some false)) = some r := by rw [if_pos rfl] at H; exact H
                          clear H
                          have H := H1
                          clear H1
                          by_cases c76 : t482 = 130
                          ·rw [if_pos c76] at H
                           have c76b0 : (t482 == 130) = true := beq_iff_eq.mpr c76
                           have c76b1 : (t482 != 130) = false := bne_eq_false_iff_eq.mpr c76
                           clear c76
                           obtain rfl := Option.some.inj H
                           have hnb77 := NB483_466.out
                           have hnc77 := NB466_483.out
                           have hcz78_0 : wc.cell? ⟨gb483, 0, none⟩ = some (.int .i64 t479) := (blk_cell BK483.out 0).trans rfl
                           have hcz78_1 : wc.cell? ⟨gb483, 1, none⟩ = some (.int .i64 t480) := (blk_cell BK483.out 1).trans rfl
                           have hcz78_2 : wc.cell? ⟨gb483, 2, none⟩ = some (.int .i64 t481) := (blk_cell BK483.out 2).trans rfl
                           have hfz78_0 := blk_frozen BK483.out 0
                           have hfz78_1 := blk_frozen BK483.out 1
                           have hfz78_2 := blk_frozen BK483.out 2
                           go_wp2
                           go_ret
                           exact ⟨by first | rfl | (simp [errW_none, errW_some] <;> rfl) | (simp [*, errW_none, errW_some] <;> rfl), by repeat (first | (with_reducible first | exact HB.out | apply below_alloc | apply pw_below_drewN | apply below_drew1 | refine below_set ?_ GE466.out | refine below_set ?_ GE483.out) | exact HB.out)⟩
                          ·rw [if_neg c76] at H
                           have c76b0 : (t482 == 130) = false := beq_eq_false_iff_ne.mpr c76
                           have c76b1 : (t482 != 130) = true := bne_iff_ne.mpr c76
                           obtain rfl := Option.some.inj H
                           go_wp2
                           go_ret
                           exact ⟨by first | rfl | (simp [errW_none, errW_some] <;> rfl) | (simp [*, errW_none, errW_some] <;> rfl), by repeat (first | (with_reducible first | exact HB.out | apply below_alloc | apply pw_below_drewN | apply below_drew1 | refine below_set ?_ GE466.out | refine below_set ?_ GE483.out) | exact HB.out)⟩
                         ·replace c75 := Bool.eq_false_iff.mpr c75
                          subst c75
                          have H1 : ((object_Select.f kj62 l0 t463 1 x8_6).bind fun bt485 => (if t482 = 0 then (if bt485.2.2.2 = 0 then (if t479 = t462 then (if t480 = bt485.2.1 then (if bt485.1 = t463 then (quoinlaw13_ObjectRuns.j6 kj62 l0 t461) else (some false)) else (some false)) else (some false)) else (some false)) else (some false))) = some r := by rw [if_neg (show ¬ (false = true) by decide)] at H; exact H
                          clear H
                          have H := H1
                          clear H1
                          replace H := Option.bind_eq_some_iff.mp H
                          obtain ⟨⟨t485, t486, t487, t488⟩, A790, H⟩ := H
                          replace H : (if t482 = 0 then (if t488 = 0 then (if t479 = t462 then (if t480 = t486 then (if t485 = t463 then (quoinlaw13_ObjectRuns.j6 kj62 l0 t461) else (some false)) else (some false)) else (some false)) else (some false)) else (some false)) = some r := H
                          have A79 := Aside0.mk A790
                          clear A790
                          by_cases c80 : t482 = 0
                          ·rw [if_pos c80] at H
                           have c80b0 : (t482 == 0) = true := beq_iff_eq.mpr c80
                           have c80b1 : (t482 != 0) = false := bne_eq_false_iff_eq.mpr c80
                           clear c80
                           by_cases c81 : t488 = 0
                           ·rw [if_pos c81] at H
                            have c81b0 : (t488 == 0) = true := beq_iff_eq.mpr c81
                            have c81b1 : (t488 != 0) = false := bne_eq_false_iff_eq.mpr c81
                            clear c81
                            by_cases c82 : t479 = t462
                            ·rw [if_pos c82] at H
                             have c82b0 : (t479 == t462) = true := beq_iff_eq.mpr c82
                             have c82b1 : (t479 != t462) = false := bne_eq_false_iff_eq.mpr c82
                             clear c82
                             by_cases c83 : t480 = t486
                             ·rw [if_pos c83] at H
                              have c83b0 : (t480 == t486) = true := beq_iff_eq.mpr c83
                              have c83b1 : (t480 != t486) = false := bne_eq_false_iff_eq.mpr c83
                              clear c83
                              by_cases c84 : t485 = t463
                              ·rw [if_pos c84] at H
                               have c84b0 : (t485 == t463) = true := beq_iff_eq.mpr c84
                               have c84b1 : (t485 != t463) = false := bne_eq_false_iff_eq.mpr c84
                               clear c84
                               have H' := Aside0.mk H
                               clear H
                               have hnb85 := NB466_483.out
                               have hnc85 := NB483_466.out
                               have hcz86_0 : wc.cell? ⟨gb466, 0, none⟩ = some (.int .i64 t462) := (blk_cell BK466.out 0).trans rfl
                               have hcz86_1 : wc.cell? ⟨gb466, 1, none⟩ = some (.int .i64 t463) := (blk_cell BK466.out 1).trans rfl
                               have hcz86_2 : wc.cell? ⟨gb466, 2, none⟩ = some (.int .i64 t464) := (blk_cell BK466.out 2).trans rfl
                               have hfz86_0 := blk_frozen BK466.out 0
                               have hfz86_1 := blk_frozen BK466.out 1
                               have hfz86_2 := blk_frozen BK466.out 2
                               go_wp2_with (first | ((with_reducible refine gate_callee (f := 10) rfl ?_); refine goesL_ (some 162) rfl rfl Tryd.func10 (by kernel_rfl) rfl #[.slice (some ad468) l0.length c0, .int .i64 t463, .int .i64 1, .string x8_6] rfl (by (try simp only [List.map_toArray, List.map_cons, List.map_nil]); first | done | rfl | (simp only [List.length_drop, List.length_take]; rfl)) ?_; (with_reducible refine (object_Select.calls kj62 _ _ l0 t463 1 x8_6 t485 t486 t487 t488 _ ?side1 ?side2 A79.out).mono ?_); (case side1 => repeat (first | exact (Kd.C_below HR0.out HB.out) | (with_reducible refine Kd.C_alloc ?_ _) | (with_reducible refine Kd.C_drewN ?_ _) | (with_reducible refine Kd.C_drew ?_))); (case side2 => exact HC0.out); rintro e w87 ⟨rfl, hb⟩; refine ⟨_, rfl, ?_⟩; have n0_ := Aside0.mk (blk_below (g := gb466) (o := .cells #[.int .i64 t462, .int .i64 t463, .int .i64 t464] 29 (0, 0)) (by (with_reducible repeat (first | refine blk_drewN ?_ _ | refine blk_drew ?_ | refine blk_alloc ?_ _)); exact BK466.out) hb); have n1_ := Aside0.mk (blk_below (g := gb483) (o := .cells #[.int .i64 t479, .int .i64 t480, .int .i64 t481] 29 (0, 0)) (by (with_reducible repeat (first | refine blk_drewN ?_ _ | refine blk_drew ?_ | refine blk_alloc ?_ _)); exact BK483.out) hb); have n2_ := Aside0.mk (below_step (by repeat (first | (with_reducible first | exact HB.out | apply below_alloc | apply pw_below_drewN | apply below_drew1 | refine below_set ?_ GE466.out | refine below_set ?_ GE483.out) | exact HB.out)) hb); clear BK466; clear BK483; clear HB; have BK466 := n0_; have BK483 := n1_; have HB := n2_; clear n0_ n1_ n2_; (try clear hb); (try clear hb2); (try clear hk); (try clear hi)) | ((with_reducible refine gate_dst (N := 16) rfl ?_); (try (refine gate_guard (by rfl) ?_; dsimp only)); refine box_event ?hg (N := 16) ?hd (cs := #[.int .i64 0, .int .i64 0, .int .i64 0]) (t := 29) ?hr ?_; (case hd => rfl); (case hg => rfl); (case hr => first | (go_simp; done) | (go_simp; rfl)); intro gb489 hg w88 hbox hb; have n0_ := Aside0.mk (blk_below (g := gb466) (o := .cells #[.int .i64 t462, .int .i64 t463, .int .i64 t464] 29 (0, 0)) (by (with_reducible repeat (first | refine blk_drewN ?_ _ | refine blk_drew ?_ | refine blk_alloc ?_ _)); exact BK466.out) hb); have n1_ := Aside0.mk (blk_below (g := gb483) (o := .cells #[.int .i64 t479, .int .i64 t480, .int .i64 t481] 29 (0, 0)) (by (with_reducible repeat (first | refine blk_drewN ?_ _ | refine blk_drew ?_ | refine blk_alloc ?_ _)); exact BK483.out) hb); have n2_ := Aside0.mk (below_step (by repeat (first | (with_reducible first | exact HB.out | apply below_alloc | apply pw_below_drewN | apply below_drew1 | refine below_set ?_ GE466.out | refine below_set ?_ GE483.out) | exact HB.out)) hb); have n3_ := Aside0.mk (hbox); have n4_ := Aside0.mk ((by rw [hg]; exact (below_size (by repeat (first | (with_reducible first | exact HB.out | apply below_alloc | apply pw_below_drewN | apply below_drew1 | refine below_set ?_ GE466.out | refine below_set ?_ GE483.out) | exact HB.out))) : w.heap.size ≤ gb489)); have n5_ := Aside0.mk ((by rw [hg]; exact (below_size (by repeat (first | (with_reducible first | exact HB.out | apply below_alloc | apply pw_below_drewN | apply below_drew1 | refine below_set ?_ GE466.out | refine below_set ?_ GE483.out) | exact HB.out))) : w.heap.size ≤ gb489)); have n6_ := Aside0.mk ((by rw [hg]; exact Nat.ne_of_lt (blk_lt (g := gb466) (o := .cells #[.int .i64 t462, .int .i64 t463, .int .i64 t464] 29 (0, 0)) (by (with_reducible repeat (first | refine blk_drewN ?_ _ | refine blk_drew ?_ | refine blk_alloc ?_ _)); exact BK466.out)) : gb466 ≠ gb489)); have n7_ := Aside0.mk ((by rw [hg]; exact Nat.ne_of_gt (blk_lt (g := gb466) (o := .cells #[.int .i64 t462, .int .i64 t463, .int .i64 t464] 29 (0, 0)) (by (with_reducible repeat (first | refine blk_drewN ?_ _ | refine blk_drew ?_ | refine blk_alloc ?_ _)); exact BK466.out)) : gb489 ≠ gb466)); have n8_ := Aside0.mk ((by rw [hg]; exact Nat.ne_of_lt (blk_lt (g := gb483) (o := .cells #[.int .i64 t479, .int .i64 t480, .int .i64 t481] 29 (0, 0)) (by (with_reducible repeat (first | refine blk_drewN ?_ _ | refine blk_drew ?_ | refine blk_alloc ?_ _)); exact BK483.out)) : gb483 ≠ gb489)); have n9_ := Aside0.mk ((by rw [hg]; exact Nat.ne_of_gt (blk_lt (g := gb483) (o := .cells #[.int .i64 t479, .int .i64 t480, .int .i64 t481] 29 (0, 0)) (by (with_reducible repeat (first | refine blk_drewN ?_ _ | refine blk_drew ?_ | refine blk_alloc ?_ _)); exact BK483.out)) : gb489 ≠ gb483)); clear BK466; clear BK483; clear HB; have BK466 := n0_; have BK483 := n1_; have HB := n2_; have BK489 := n3_; have GW489 := n4_; have GE489 := n5_; have NB466_489 := n6_; have NB489_466 := n7_; have NB483_489 := n8_; have NB489_483 := n9_; clear n0_ n1_ n2_ n3_ n4_ n5_ n6_ n7_ n8_ n9_; clear hb hbox hg; have hnb89 := NB489_466.out; have hnc89 := NB466_489.out; have hnb90 := NB489_483.out; have hnc90 := NB483_489.out; have hcz91_0 : w88.cell? ⟨gb489, 0, none⟩ = some (.int .i64 0) := (blk_cell BK489.out 0).trans rfl; have hcz91_1 : w88.cell? ⟨gb489, 1, none⟩ = some (.int .i64 0) := (blk_cell BK489.out 1).trans rfl; have hcz91_2 : w88.cell? ⟨gb489, 2, none⟩ = some (.int .i64 0) := (blk_cell BK489.out 2).trans rfl; have hfz91_0 := blk_frozen BK489.out 0; have hfz91_1 := blk_frozen BK489.out 1; have hfz91_2 := blk_frozen BK489.out 2; have hcz92_0 : w88.cell? ⟨gb483, 0, none⟩ = some (.int .i64 t479) := (blk_cell BK483.out 0).trans rfl; have hcz92_1 : w88.cell? ⟨gb483, 1, none⟩ = some (.int .i64 t480) := (blk_cell BK483.out 1).trans rfl; have hcz92_2 : w88.cell? ⟨gb483, 2, none⟩ = some (.int .i64 t481) := (blk_cell BK483.out 2).trans rfl; have hfz92_0 := blk_frozen BK483.out 0; have hfz92_1 := blk_frozen BK483.out 1; have hfz92_2 := blk_frozen BK483.out 2; have hcz93_0 : w88.cell? ⟨gb466, 0, none⟩ = some (.int .i64 t462) := (blk_cell BK466.out 0).trans rfl; have hcz93_1 : w88.cell? ⟨gb466, 1, none⟩ = some (.int .i64 t463) := (blk_cell BK466.out 1).trans rfl; have hcz93_2 : w88.cell? ⟨gb466, 2, none⟩ = some (.int .i64 t464) := (blk_cell BK466.out 2).trans rfl; have hfz93_0 := blk_frozen BK466.out 0; have hfz93_1 := blk_frozen BK466.out 1; have hfz93_2 := blk_frozen BK466.out 2))
                               go_meet
                               case rel => exact ⟨_, H', ⟨by have := HJ6.out; have := HJ10.out; have := HJ23.out; have := HK4.out; have := HJ42.out; have := HJ62.out; first | omega | exact Nat.le_refl _⟩, ⟨by (with_reducible repeat (first | refine blk_drewN ?_ _ | refine blk_drew ?_ | refine blk_alloc ?_ _)); refine blk_far ?_ NB466_489.out _; (with_reducible repeat (first | refine blk_drewN ?_ _ | refine blk_drew ?_ | refine blk_alloc ?_ _)); refine blk_far ?_ NB466_489.out _; (with_reducible repeat (first | refine blk_drewN ?_ _ | refine blk_drew ?_ | refine blk_alloc ?_ _)); refine blk_far ?_ NB466_489.out _; (with_reducible repeat (first | refine blk_drewN ?_ _ | refine blk_drew ?_ | refine blk_alloc ?_ _)); exact BK466.out⟩, ⟨by repeat (first | (with_reducible first | exact HB.out | apply below_alloc | apply pw_below_drewN | apply below_drew1 | refine below_set ?_ GE466.out | refine below_set ?_ GE483.out | refine below_set ?_ GE489.out) | exact HB.out)⟩⟩
                              ·rw [if_neg c84] at H
                               have c84b0 : (t485 == t463) = false := beq_eq_false_iff_ne.mpr c84
                               have c84b1 : (t485 != t463) = true := bne_iff_ne.mpr c84
                               obtain rfl := Option.some.inj H
                               have hnb94 := NB466_483.out
                               have hnc94 := NB483_466.out
                               have hcz95_0 : wc.cell? ⟨gb466, 0, none⟩ = some (.int .i64 t462) := (blk_cell BK466.out 0).trans rfl
                               have hcz95_1 : wc.cell? ⟨gb466, 1, none⟩ = some (.int .i64 t463) := (blk_cell BK466.out 1).trans rfl
                               have hcz95_2 : wc.cell? ⟨gb466, 2, none⟩ = some (.int .i64 t464) := (blk_cell BK466.out 2).trans rfl
                               have hfz95_0 := blk_frozen BK466.out 0
                               have hfz95_1 := blk_frozen BK466.out 1
                               have hfz95_2 := blk_frozen BK466.out 2
                               go_wp2_with (first | ((with_reducible refine gate_callee (f := 10) rfl ?_); refine goesL_ (some 162) rfl rfl Tryd.func10 (by kernel_rfl) rfl #[.slice (some ad468) l0.length c0, .int .i64 t463, .int .i64 1, .string x8_6] rfl (by (try simp only [List.map_toArray, List.map_cons, List.map_nil]); first | done | rfl | (simp only [List.length_drop, List.length_take]; rfl)) ?_; (with_reducible refine (object_Select.calls kj62 _ _ l0 t463 1 x8_6 t485 t486 t487 t488 _ ?side1 ?side2 A79.out).mono ?_); (case side1 => repeat (first | exact (Kd.C_below HR0.out HB.out) | (with_reducible refine Kd.C_alloc ?_ _) | (with_reducible refine Kd.C_drewN ?_ _) | (with_reducible refine Kd.C_drew ?_))); (case side2 => exact HC0.out); rintro e w96 ⟨rfl, hb⟩; refine ⟨_, rfl, ?_⟩; have n0_ := Aside0.mk (blk_below (g := gb466) (o := .cells #[.int .i64 t462, .int .i64 t463, .int .i64 t464] 29 (0, 0)) (by (with_reducible repeat (first | refine blk_drewN ?_ _ | refine blk_drew ?_ | refine blk_alloc ?_ _)); exact BK466.out) hb); have n1_ := Aside0.mk (blk_below (g := gb483) (o := .cells #[.int .i64 t479, .int .i64 t480, .int .i64 t481] 29 (0, 0)) (by (with_reducible repeat (first | refine blk_drewN ?_ _ | refine blk_drew ?_ | refine blk_alloc ?_ _)); exact BK483.out) hb); have n2_ := Aside0.mk (below_step (by repeat (first | (with_reducible first | exact HB.out | apply below_alloc | apply pw_below_drewN | apply below_drew1 | refine below_set ?_ GE466.out | refine below_set ?_ GE483.out) | exact HB.out)) hb); clear BK466; clear BK483; clear HB; have BK466 := n0_; have BK483 := n1_; have HB := n2_; clear n0_ n1_ n2_; (try clear hb); (try clear hb2); (try clear hk); (try clear hi)) | ((with_reducible refine gate_dst (N := 16) rfl ?_); (try (refine gate_guard (by rfl) ?_; dsimp only)); refine box_event ?hg (N := 16) ?hd (cs := #[.int .i64 0, .int .i64 0, .int .i64 0]) (t := 29) ?hr ?_; (case hd => rfl); (case hg => rfl); (case hr => first | (go_simp; done) | (go_simp; rfl)); intro gb489 hg w97 hbox hb; have n0_ := Aside0.mk (blk_below (g := gb466) (o := .cells #[.int .i64 t462, .int .i64 t463, .int .i64 t464] 29 (0, 0)) (by (with_reducible repeat (first | refine blk_drewN ?_ _ | refine blk_drew ?_ | refine blk_alloc ?_ _)); exact BK466.out) hb); have n1_ := Aside0.mk (blk_below (g := gb483) (o := .cells #[.int .i64 t479, .int .i64 t480, .int .i64 t481] 29 (0, 0)) (by (with_reducible repeat (first | refine blk_drewN ?_ _ | refine blk_drew ?_ | refine blk_alloc ?_ _)); exact BK483.out) hb); have n2_ := Aside0.mk (below_step (by repeat (first | (with_reducible first | exact HB.out | apply below_alloc | apply pw_below_drewN | apply below_drew1 | refine below_set ?_ GE466.out | refine below_set ?_ GE483.out) | exact HB.out)) hb); have n3_ := Aside0.mk (hbox); have n4_ := Aside0.mk ((by rw [hg]; exact (below_size (by repeat (first | (with_reducible first | exact HB.out | apply below_alloc | apply pw_below_drewN | apply below_drew1 | refine below_set ?_ GE466.out | refine below_set ?_ GE483.out) | exact HB.out))) : w.heap.size ≤ gb489)); have n5_ := Aside0.mk ((by rw [hg]; exact (below_size (by repeat (first | (with_reducible first | exact HB.out | apply below_alloc | apply pw_below_drewN | apply below_drew1 | refine below_set ?_ GE466.out | refine below_set ?_ GE483.out) | exact HB.out))) : w.heap.size ≤ gb489)); have n6_ := Aside0.mk ((by rw [hg]; exact Nat.ne_of_lt (blk_lt (g := gb466) (o := .cells #[.int .i64 t462, .int .i64 t463, .int .i64 t464] 29 (0, 0)) (by (with_reducible repeat (first | refine blk_drewN ?_ _ | refine blk_drew ?_ | refine blk_alloc ?_ _)); exact BK466.out)) : gb466 ≠ gb489)); have n7_ := Aside0.mk ((by rw [hg]; exact Nat.ne_of_gt (blk_lt (g := gb466) (o := .cells #[.int .i64 t462, .int .i64 t463, .int .i64 t464] 29 (0, 0)) (by (with_reducible repeat (first | refine blk_drewN ?_ _ | refine blk_drew ?_ | refine blk_alloc ?_ _)); exact BK466.out)) : gb489 ≠ gb466)); have n8_ := Aside0.mk ((by rw [hg]; exact Nat.ne_of_lt (blk_lt (g := gb483) (o := .cells #[.int .i64 t479, .int .i64 t480, .int .i64 t481] 29 (0, 0)) (by (with_reducible repeat (first | refine blk_drewN ?_ _ | refine blk_drew ?_ | refine blk_alloc ?_ _)); exact BK483.out)) : gb483 ≠ gb489)); have n9_ := Aside0.mk ((by rw [hg]; exact Nat.ne_of_gt (blk_lt (g := gb483) (o := .cells #[.int .i64 t479, .int .i64 t480, .int .i64 t481] 29 (0, 0)) (by (with_reducible repeat (first | refine blk_drewN ?_ _ | refine blk_drew ?_ | refine blk_alloc ?_ _)); exact BK483.out)) : gb489 ≠ gb483)); clear BK466; clear BK483; clear HB; have BK466 := n0_; have BK483 := n1_; have HB := n2_; have BK489 := n3_; have GW489 := n4_; have GE489 := n5_; have NB466_489 := n6_; have NB489_466 := n7_; have NB483_489 := n8_; have NB489_483 := n9_; clear n0_ n1_ n2_ n3_ n4_ n5_ n6_ n7_ n8_ n9_; clear hb hbox hg; have hnb98 := NB489_466.out; have hnc98 := NB466_489.out; have hnb99 := NB489_483.out; have hnc99 := NB483_489.out; have hcz100_0 : w97.cell? ⟨gb489, 0, none⟩ = some (.int .i64 0) := (blk_cell BK489.out 0).trans rfl; have hcz100_1 : w97.cell? ⟨gb489, 1, none⟩ = some (.int .i64 0) := (blk_cell BK489.out 1).trans rfl; have hcz100_2 : w97.cell? ⟨gb489, 2, none⟩ = some (.int .i64 0) := (blk_cell BK489.out 2).trans rfl; have hfz100_0 := blk_frozen BK489.out 0; have hfz100_1 := blk_frozen BK489.out 1; have hfz100_2 := blk_frozen BK489.out 2; have hcz101_0 : w97.cell? ⟨gb483, 0, none⟩ = some (.int .i64 t479) := (blk_cell BK483.out 0).trans rfl; have hcz101_1 : w97.cell? ⟨gb483, 1, none⟩ = some (.int .i64 t480) := (blk_cell BK483.out 1).trans rfl; have hcz101_2 : w97.cell? ⟨gb483, 2, none⟩ = some (.int .i64 t481) := (blk_cell BK483.out 2).trans rfl; have hfz101_0 := blk_frozen BK483.out 0; have hfz101_1 := blk_frozen BK483.out 1; have hfz101_2 := blk_frozen BK483.out 2; have hcz102_0 : w97.cell? ⟨gb466, 0, none⟩ = some (.int .i64 t462) := (blk_cell BK466.out 0).trans rfl; have hcz102_1 : w97.cell? ⟨gb466, 1, none⟩ = some (.int .i64 t463) := (blk_cell BK466.out 1).trans rfl; have hcz102_2 : w97.cell? ⟨gb466, 2, none⟩ = some (.int .i64 t464) := (blk_cell BK466.out 2).trans rfl; have hfz102_0 := blk_frozen BK466.out 0; have hfz102_1 := blk_frozen BK466.out 1; have hfz102_2 := blk_frozen BK466.out 2))
                               go_ret
                               exact ⟨by first | rfl | (simp [errW_none, errW_some] <;> rfl) | (simp [*, errW_none, errW_some] <;> rfl), by repeat (first | (with_reducible first | exact HB.out | apply below_alloc | apply pw_below_drewN | apply below_drew1 | refine below_set ?_ GE466.out | refine below_set ?_ GE483.out | refine below_set ?_ GE489.out) | exact HB.out)⟩
                             ·rw [if_neg c83] at H
                              have c83b0 : (t480 == t486) = false := beq_eq_false_iff_ne.mpr c83
                              have c83b1 : (t480 != t486) = true := bne_iff_ne.mpr c83
                              obtain rfl := Option.some.inj H
                              have hnb103 := NB466_483.out
                              have hnc103 := NB483_466.out
                              have hcz104_0 : wc.cell? ⟨gb466, 0, none⟩ = some (.int .i64 t462) := (blk_cell BK466.out 0).trans rfl
                              have hcz104_1 : wc.cell? ⟨gb466, 1, none⟩ = some (.int .i64 t463) := (blk_cell BK466.out 1).trans rfl
                              have hcz104_2 : wc.cell? ⟨gb466, 2, none⟩ = some (.int .i64 t464) := (blk_cell BK466.out 2).trans rfl
                              have hfz104_0 := blk_frozen BK466.out 0
                              have hfz104_1 := blk_frozen BK466.out 1
                              have hfz104_2 := blk_frozen BK466.out 2
                              go_wp2_with (first | ((with_reducible refine gate_callee (f := 10) rfl ?_); refine goesL_ (some 162) rfl rfl Tryd.func10 (by kernel_rfl) rfl #[.slice (some ad468) l0.length c0, .int .i64 t463, .int .i64 1, .string x8_6] rfl (by (try simp only [List.map_toArray, List.map_cons, List.map_nil]); first | done | rfl | (simp only [List.length_drop, List.length_take]; rfl)) ?_; (with_reducible refine (object_Select.calls kj62 _ _ l0 t463 1 x8_6 t485 t486 t487 t488 _ ?side1 ?side2 A79.out).mono ?_); (case side1 => repeat (first | exact (Kd.C_below HR0.out HB.out) | (with_reducible refine Kd.C_alloc ?_ _) | (with_reducible refine Kd.C_drewN ?_ _) | (with_reducible refine Kd.C_drew ?_))); (case side2 => exact HC0.out); rintro e w105 ⟨rfl, hb⟩; refine ⟨_, rfl, ?_⟩; have n0_ := Aside0.mk (blk_below (g := gb466) (o := .cells #[.int .i64 t462, .int .i64 t463, .int .i64 t464] 29 (0, 0)) (by (with_reducible repeat (first | refine blk_drewN ?_ _ | refine blk_drew ?_ | refine blk_alloc ?_ _)); exact BK466.out) hb); have n1_ := Aside0.mk (blk_below (g := gb483) (o := .cells #[.int .i64 t479, .int .i64 t480, .int .i64 t481] 29 (0, 0)) (by (with_reducible repeat (first | refine blk_drewN ?_ _ | refine blk_drew ?_ | refine blk_alloc ?_ _)); exact BK483.out) hb); have n2_ := Aside0.mk (below_step (by repeat (first | (with_reducible first | exact HB.out | apply below_alloc | apply pw_below_drewN | apply below_drew1 | refine below_set ?_ GE466.out | refine below_set ?_ GE483.out) | exact HB.out)) hb); clear BK466; clear BK483; clear HB; have BK466 := n0_; have BK483 := n1_; have HB := n2_; clear n0_ n1_ n2_; (try clear hb); (try clear hb2); (try clear hk); (try clear hi)) | ((with_reducible refine gate_dst (N := 16) rfl ?_); (try (refine gate_guard (by rfl) ?_; dsimp only)); refine box_event ?hg (N := 16) ?hd (cs := #[.int .i64 0, .int .i64 0, .int .i64 0]) (t := 29) ?hr ?_; (case hd => rfl); (case hg => rfl); (case hr => first | (go_simp; done) | (go_simp; rfl)); intro gb489 hg w106 hbox hb; have n0_ := Aside0.mk (blk_below (g := gb466) (o := .cells #[.int .i64 t462, .int .i64 t463, .int .i64 t464] 29 (0, 0)) (by (with_reducible repeat (first | refine blk_drewN ?_ _ | refine blk_drew ?_ | refine blk_alloc ?_ _)); exact BK466.out) hb); have n1_ := Aside0.mk (blk_below (g := gb483) (o := .cells #[.int .i64 t479, .int .i64 t480, .int .i64 t481] 29 (0, 0)) (by (with_reducible repeat (first | refine blk_drewN ?_ _ | refine blk_drew ?_ | refine blk_alloc ?_ _)); exact BK483.out) hb); have n2_ := Aside0.mk (below_step (by repeat (first | (with_reducible first | exact HB.out | apply below_alloc | apply pw_below_drewN | apply below_drew1 | refine below_set ?_ GE466.out | refine below_set ?_ GE483.out) | exact HB.out)) hb); have n3_ := Aside0.mk (hbox); have n4_ := Aside0.mk ((by rw [hg]; exact (below_size (by repeat (first | (with_reducible first | exact HB.out | apply below_alloc | apply pw_below_drewN | apply below_drew1 | refine below_set ?_ GE466.out | refine below_set ?_ GE483.out) | exact HB.out))) : w.heap.size ≤ gb489)); have n5_ := Aside0.mk ((by rw [hg]; exact (below_size (by repeat (first | (with_reducible first | exact HB.out | apply below_alloc | apply pw_below_drewN | apply below_drew1 | refine below_set ?_ GE466.out | refine below_set ?_ GE483.out) | exact HB.out))) : w.heap.size ≤ gb489)); have n6_ := Aside0.mk ((by rw [hg]; exact Nat.ne_of_lt (blk_lt (g := gb466) (o := .cells #[.int .i64 t462, .int .i64 t463, .int .i64 t464] 29 (0, 0)) (by (with_reducible repeat (first | refine blk_drewN ?_ _ | refine blk_drew ?_ | refine blk_alloc ?_ _)); exact BK466.out)) : gb466 ≠ gb489)); have n7_ := Aside0.mk ((by rw [hg]; exact Nat.ne_of_gt (blk_lt (g := gb466) (o := .cells #[.int .i64 t462, .int .i64 t463, .int .i64 t464] 29 (0, 0)) (by (with_reducible repeat (first | refine blk_drewN ?_ _ | refine blk_drew ?_ | refine blk_alloc ?_ _)); exact BK466.out)) : gb489 ≠ gb466)); have n8_ := Aside0.mk ((by rw [hg]; exact Nat.ne_of_lt (blk_lt (g := gb483) (o := .cells #[.int .i64 t479, .int .i64 t480, .int .i64 t481] 29 (0, 0)) (by (with_reducible repeat (first | refine blk_drewN ?_ _ | refine blk_drew ?_ | refine blk_alloc ?_ _)); exact BK483.out)) : gb483 ≠ gb489)); have n9_ := Aside0.mk ((by rw [hg]; exact Nat.ne_of_gt (blk_lt (g := gb483) (o := .cells #[.int .i64 t479, .int .i64 t480, .int .i64 t481] 29 (0, 0)) (by (with_reducible repeat (first | refine blk_drewN ?_ _ | refine blk_drew ?_ | refine blk_alloc ?_ _)); exact BK483.out)) : gb489 ≠ gb483)); clear BK466; clear BK483; clear HB; have BK466 := n0_; have BK483 := n1_; have HB := n2_; have BK489 := n3_; have GW489 := n4_; have GE489 := n5_; have NB466_489 := n6_; have NB489_466 := n7_; have NB483_489 := n8_; have NB489_483 := n9_; clear n0_ n1_ n2_ n3_ n4_ n5_ n6_ n7_ n8_ n9_; clear hb hbox hg; have hnb107 := NB489_466.out; have hnc107 := NB466_489.out; have hnb108 := NB489_483.out; have hnc108 := NB483_489.out; have hcz109_0 : w106.cell? ⟨gb489, 0, none⟩ = some (.int .i64 0) := (blk_cell BK489.out 0).trans rfl; have hcz109_1 : w106.cell? ⟨gb489, 1, none⟩ = some (.int .i64 0) := (blk_cell BK489.out 1).trans rfl; have hcz109_2 : w106.cell? ⟨gb489, 2, none⟩ = some (.int .i64 0) := (blk_cell BK489.out 2).trans rfl; have hfz109_0 := blk_frozen BK489.out 0; have hfz109_1 := blk_frozen BK489.out 1; have hfz109_2 := blk_frozen BK489.out 2; have hcz110_0 : w106.cell? ⟨gb483, 0, none⟩ = some (.int .i64 t479) := (blk_cell BK483.out 0).trans rfl; have hcz110_1 : w106.cell? ⟨gb483, 1, none⟩ = some (.int .i64 t480) := (blk_cell BK483.out 1).trans rfl; have hcz110_2 : w106.cell? ⟨gb483, 2, none⟩ = some (.int .i64 t481) := (blk_cell BK483.out 2).trans rfl; have hfz110_0 := blk_frozen BK483.out 0; have hfz110_1 := blk_frozen BK483.out 1; have hfz110_2 := blk_frozen BK483.out 2; have hcz111_0 : w106.cell? ⟨gb466, 0, none⟩ = some (.int .i64 t462) := (blk_cell BK466.out 0).trans rfl; have hcz111_1 : w106.cell? ⟨gb466, 1, none⟩ = some (.int .i64 t463) := (blk_cell BK466.out 1).trans rfl; have hcz111_2 : w106.cell? ⟨gb466, 2, none⟩ = some (.int .i64 t464) := (blk_cell BK466.out 2).trans rfl; have hfz111_0 := blk_frozen BK466.out 0; have hfz111_1 := blk_frozen BK466.out 1; have hfz111_2 := blk_frozen BK466.out 2))
                              go_ret
                              exact ⟨by first | rfl | (simp [errW_none, errW_some] <;> rfl) | (simp [*, errW_none, errW_some] <;> rfl), by repeat (first | (with_reducible first | exact HB.out | apply below_alloc | apply pw_below_drewN | apply below_drew1 | refine below_set ?_ GE466.out | refine below_set ?_ GE483.out | refine below_set ?_ GE489.out) | exact HB.out)⟩
                            ·rw [if_neg c82] at H
                             have c82b0 : (t479 == t462) = false := beq_eq_false_iff_ne.mpr c82
                             have c82b1 : (t479 != t462) = true := bne_iff_ne.mpr c82
                             obtain rfl := Option.some.inj H
                             have hnb112 := NB466_483.out
                             have hnc112 := NB483_466.out
                             have hcz113_0 : wc.cell? ⟨gb466, 0, none⟩ = some (.int .i64 t462) := (blk_cell BK466.out 0).trans rfl
                             have hcz113_1 : wc.cell? ⟨gb466, 1, none⟩ = some (.int .i64 t463) := (blk_cell BK466.out 1).trans rfl
                             have hcz113_2 : wc.cell? ⟨gb466, 2, none⟩ = some (.int .i64 t464) := (blk_cell BK466.out 2).trans rfl
                             have hfz113_0 := blk_frozen BK466.out 0
                             have hfz113_1 := blk_frozen BK466.out 1
                             have hfz113_2 := blk_frozen BK466.out 2
                             go_wp2_with (first | ((with_reducible refine gate_callee (f := 10) rfl ?_); refine goesL_ (some 162) rfl rfl Tryd.func10 (by kernel_rfl) rfl #[.slice (some ad468) l0.length c0, .int .i64 t463, .int .i64 1, .string x8_6] rfl (by (try simp only [List.map_toArray, List.map_cons, List.map_nil]); first | done | rfl | (simp only [List.length_drop, List.length_take]; rfl)) ?_; (with_reducible refine (object_Select.calls kj62 _ _ l0 t463 1 x8_6 t485 t486 t487 t488 _ ?side1 ?side2 A79.out).mono ?_); (case side1 => repeat (first | exact (Kd.C_below HR0.out HB.out) | (with_reducible refine Kd.C_alloc ?_ _) | (with_reducible refine Kd.C_drewN ?_ _) | (with_reducible refine Kd.C_drew ?_))); (case side2 => exact HC0.out); rintro e w114 ⟨rfl, hb⟩; refine ⟨_, rfl, ?_⟩; have n0_ := Aside0.mk (blk_below (g := gb466) (o := .cells #[.int .i64 t462, .int .i64 t463, .int .i64 t464] 29 (0, 0)) (by (with_reducible repeat (first | refine blk_drewN ?_ _ | refine blk_drew ?_ | refine blk_alloc ?_ _)); exact BK466.out) hb); have n1_ := Aside0.mk (blk_below (g := gb483) (o := .cells #[.int .i64 t479, .int .i64 t480, .int .i64 t481] 29 (0, 0)) (by (with_reducible repeat (first | refine blk_drewN ?_ _ | refine blk_drew ?_ | refine blk_alloc ?_ _)); exact BK483.out) hb); have n2_ := Aside0.mk (below_step (by repeat (first | (with_reducible first | exact HB.out | apply below_alloc | apply pw_below_drewN | apply below_drew1 | refine below_set ?_ GE466.out | refine below_set ?_ GE483.out) | exact HB.out)) hb); clear BK466; clear BK483; clear HB; have BK466 := n0_; have BK483 := n1_; have HB := n2_; clear n0_ n1_ n2_; (try clear hb); (try clear hb2); (try clear hk); (try clear hi)) | ((with_reducible refine gate_dst (N := 16) rfl ?_); (try (refine gate_guard (by rfl) ?_; dsimp only)); refine box_event ?hg (N := 16) ?hd (cs := #[.int .i64 0, .int .i64 0, .int .i64 0]) (t := 29) ?hr ?_; (case hd => rfl); (case hg => rfl); (case hr => first | (go_simp; done) | (go_simp; rfl)); intro gb489 hg w115 hbox hb; have n0_ := Aside0.mk (blk_below (g := gb466) (o := .cells #[.int .i64 t462, .int .i64 t463, .int .i64 t464] 29 (0, 0)) (by (with_reducible repeat (first | refine blk_drewN ?_ _ | refine blk_drew ?_ | refine blk_alloc ?_ _)); exact BK466.out) hb); have n1_ := Aside0.mk (blk_below (g := gb483) (o := .cells #[.int .i64 t479, .int .i64 t480, .int .i64 t481] 29 (0, 0)) (by (with_reducible repeat (first | refine blk_drewN ?_ _ | refine blk_drew ?_ | refine blk_alloc ?_ _)); exact BK483.out) hb); have n2_ := Aside0.mk (below_step (by repeat (first | (with_reducible first | exact HB.out | apply below_alloc | apply pw_below_drewN | apply below_drew1 | refine below_set ?_ GE466.out | refine below_set ?_ GE483.out) | exact HB.out)) hb); have n3_ := Aside0.mk (hbox); have n4_ := Aside0.mk ((by rw [hg]; exact (below_size (by repeat (first | (with_reducible first | exact HB.out | apply below_alloc | apply pw_below_drewN | apply below_drew1 | refine below_set ?_ GE466.out | refine below_set ?_ GE483.out) | exact HB.out))) : w.heap.size ≤ gb489)); have n5_ := Aside0.mk ((by rw [hg]; exact (below_size (by repeat (first | (with_reducible first | exact HB.out | apply below_alloc | apply pw_below_drewN | apply below_drew1 | refine below_set ?_ GE466.out | refine below_set ?_ GE483.out) | exact HB.out))) : w.heap.size ≤ gb489)); have n6_ := Aside0.mk ((by rw [hg]; exact Nat.ne_of_lt (blk_lt (g := gb466) (o := .cells #[.int .i64 t462, .int .i64 t463, .int .i64 t464] 29 (0, 0)) (by (with_reducible repeat (first | refine blk_drewN ?_ _ | refine blk_drew ?_ | refine blk_alloc ?_ _)); exact BK466.out)) : gb466 ≠ gb489)); have n7_ := Aside0.mk ((by rw [hg]; exact Nat.ne_of_gt (blk_lt (g := gb466) (o := .cells #[.int .i64 t462, .int .i64 t463, .int .i64 t464] 29 (0, 0)) (by (with_reducible repeat (first | refine blk_drewN ?_ _ | refine blk_drew ?_ | refine blk_alloc ?_ _)); exact BK466.out)) : gb489 ≠ gb466)); have n8_ := Aside0.mk ((by rw [hg]; exact Nat.ne_of_lt (blk_lt (g := gb483) (o := .cells #[.int .i64 t479, .int .i64 t480, .int .i64 t481] 29 (0, 0)) (by (with_reducible repeat (first | refine blk_drewN ?_ _ | refine blk_drew ?_ | refine blk_alloc ?_ _)); exact BK483.out)) : gb483 ≠ gb489)); have n9_ := Aside0.mk ((by rw [hg]; exact Nat.ne_of_gt (blk_lt (g := gb483) (o := .cells #[.int .i64 t479, .int .i64 t480, .int .i64 t481] 29 (0, 0)) (by (with_reducible repeat (first | refine blk_drewN ?_ _ | refine blk_drew ?_ | refine blk_alloc ?_ _)); exact BK483.out)) : gb489 ≠ gb483)); clear BK466; clear BK483; clear HB; have BK466 := n0_; have BK483 := n1_; have HB := n2_; have BK489 := n3_; have GW489 := n4_; have GE489 := n5_; have NB466_489 := n6_; have NB489_466 := n7_; have NB483_489 := n8_; have NB489_483 := n9_; clear n0_ n1_ n2_ n3_ n4_ n5_ n6_ n7_ n8_ n9_; clear hb hbox hg; have hnb116 := NB489_466.out; have hnc116 := NB466_489.out; have hnb117 := NB489_483.out; have hnc117 := NB483_489.out; have hcz118_0 : w115.cell? ⟨gb489, 0, none⟩ = some (.int .i64 0) := (blk_cell BK489.out 0).trans rfl; have hcz118_1 : w115.cell? ⟨gb489, 1, none⟩ = some (.int .i64 0) := (blk_cell BK489.out 1).trans rfl; have hcz118_2 : w115.cell? ⟨gb489, 2, none⟩ = some (.int .i64 0) := (blk_cell BK489.out 2).trans rfl; have hfz118_0 := blk_frozen BK489.out 0; have hfz118_1 := blk_frozen BK489.out 1; have hfz118_2 := blk_frozen BK489.out 2; have hcz119_0 : w115.cell? ⟨gb483, 0, none⟩ = some (.int .i64 t479) := (blk_cell BK483.out 0).trans rfl; have hcz119_1 : w115.cell? ⟨gb483, 1, none⟩ = some (.int .i64 t480) := (blk_cell BK483.out 1).trans rfl; have hcz119_2 : w115.cell? ⟨gb483, 2, none⟩ = some (.int .i64 t481) := (blk_cell BK483.out 2).trans rfl; have hfz119_0 := blk_frozen BK483.out 0; have hfz119_1 := blk_frozen BK483.out 1; have hfz119_2 := blk_frozen BK483.out 2; have hcz120_0 : w115.cell? ⟨gb466, 0, none⟩ = some (.int .i64 t462) := (blk_cell BK466.out 0).trans rfl; have hcz120_1 : w115.cell? ⟨gb466, 1, none⟩ = some (.int .i64 t463) := (blk_cell BK466.out 1).trans rfl; have hcz120_2 : w115.cell? ⟨gb466, 2, none⟩ = some (.int .i64 t464) := (blk_cell BK466.out 2).trans rfl; have hfz120_0 := blk_frozen BK466.out 0; have hfz120_1 := blk_frozen BK466.out 1; have hfz120_2 := blk_frozen BK466.out 2))
                             go_ret
                             exact ⟨by first | rfl | (simp [errW_none, errW_some] <;> rfl) | (simp [*, errW_none, errW_some] <;> rfl), by repeat (first | (with_reducible first | exact HB.out | apply below_alloc | apply pw_below_drewN | apply below_drew1 | refine below_set ?_ GE466.out | refine below_set ?_ GE483.out | refine below_set ?_ GE489.out) | exact HB.out)⟩
                           ·rw [if_neg c81] at H
                            have c81b0 : (t488 == 0) = false := beq_eq_false_iff_ne.mpr c81
                            have c81b1 : (t488 != 0) = true := bne_iff_ne.mpr c81
                            obtain rfl := Option.some.inj H
                            have hnb121 := NB466_483.out
                            have hnc121 := NB483_466.out
                            have hcz122_0 : wc.cell? ⟨gb466, 0, none⟩ = some (.int .i64 t462) := (blk_cell BK466.out 0).trans rfl
                            have hcz122_1 : wc.cell? ⟨gb466, 1, none⟩ = some (.int .i64 t463) := (blk_cell BK466.out 1).trans rfl
                            have hcz122_2 : wc.cell? ⟨gb466, 2, none⟩ = some (.int .i64 t464) := (blk_cell BK466.out 2).trans rfl
                            have hfz122_0 := blk_frozen BK466.out 0
                            have hfz122_1 := blk_frozen BK466.out 1
                            have hfz122_2 := blk_frozen BK466.out 2
                            go_wp2_with (first | ((with_reducible refine gate_callee (f := 10) rfl ?_); refine goesL_ (some 162) rfl rfl Tryd.func10 (by kernel_rfl) rfl #[.slice (some ad468) l0.length c0, .int .i64 t463, .int .i64 1, .string x8_6] rfl (by (try simp only [List.map_toArray, List.map_cons, List.map_nil]); first | done | rfl | (simp only [List.length_drop, List.length_take]; rfl)) ?_; (with_reducible refine (object_Select.calls kj62 _ _ l0 t463 1 x8_6 t485 t486 t487 t488 _ ?side1 ?side2 A79.out).mono ?_); (case side1 => repeat (first | exact (Kd.C_below HR0.out HB.out) | (with_reducible refine Kd.C_alloc ?_ _) | (with_reducible refine Kd.C_drewN ?_ _) | (with_reducible refine Kd.C_drew ?_))); (case side2 => exact HC0.out); rintro e w123 ⟨rfl, hb⟩; refine ⟨_, rfl, ?_⟩; have n0_ := Aside0.mk (blk_below (g := gb466) (o := .cells #[.int .i64 t462, .int .i64 t463, .int .i64 t464] 29 (0, 0)) (by (with_reducible repeat (first | refine blk_drewN ?_ _ | refine blk_drew ?_ | refine blk_alloc ?_ _)); exact BK466.out) hb); have n1_ := Aside0.mk (blk_below (g := gb483) (o := .cells #[.int .i64 t479, .int .i64 t480, .int .i64 t481] 29 (0, 0)) (by (with_reducible repeat (first | refine blk_drewN ?_ _ | refine blk_drew ?_ | refine blk_alloc ?_ _)); exact BK483.out) hb); have n2_ := Aside0.mk (below_step (by repeat (first | (with_reducible first | exact HB.out | apply below_alloc | apply pw_below_drewN | apply below_drew1 | refine below_set ?_ GE466.out | refine below_set ?_ GE483.out) | exact HB.out)) hb); clear BK466; clear BK483; clear HB; have BK466 := n0_; have BK483 := n1_; have HB := n2_; clear n0_ n1_ n2_; (try clear hb); (try clear hb2); (try clear hk); (try clear hi)) | ((with_reducible refine gate_dst (N := 16) rfl ?_); (try (refine gate_guard (by rfl) ?_; dsimp only)); refine box_event ?hg (N := 16) ?hd (cs := #[.int .i64 0, .int .i64 0, .int .i64 0]) (t := 29) ?hr ?_; (case hd => rfl); (case hg => rfl); (case hr => first | (go_simp; done) | (go_simp; rfl)); intro gb489 hg w124 hbox hb; have n0_ := Aside0.mk (blk_below (g := gb466) (o := .cells #[.int .i64 t462, .int .i64 t463, .int .i64 t464] 29 (0, 0)) (by (with_reducible repeat (first | refine blk_drewN ?_ _ | refine blk_drew ?_ | refine blk_alloc ?_ _)); exact BK466.out) hb); have n1_ := Aside0.mk (blk_below (g := gb483) (o := .cells #[.int .i64 t479, .int .i64 t480, .int .i64 t481] 29 (0, 0)) (by (with_reducible repeat (first | refine blk_drewN ?_ _ | refine blk_drew ?_ | refine blk_alloc ?_ _)); exact BK483.out) hb); have n2_ := Aside0.mk (below_step (by repeat (first | (with_reducible first | exact HB.out | apply below_alloc | apply pw_below_drewN | apply below_drew1 | refine below_set ?_ GE466.out | refine below_set ?_ GE483.out) | exact HB.out)) hb); have n3_ := Aside0.mk (hbox); have n4_ := Aside0.mk ((by rw [hg]; exact (below_size (by repeat (first | (with_reducible first | exact HB.out | apply below_alloc | apply pw_below_drewN | apply below_drew1 | refine below_set ?_ GE466.out | refine below_set ?_ GE483.out) | exact HB.out))) : w.heap.size ≤ gb489)); have n5_ := Aside0.mk ((by rw [hg]; exact (below_size (by repeat (first | (with_reducible first | exact HB.out | apply below_alloc | apply pw_below_drewN | apply below_drew1 | refine below_set ?_ GE466.out | refine below_set ?_ GE483.out) | exact HB.out))) : w.heap.size ≤ gb489)); have n6_ := Aside0.mk ((by rw [hg]; exact Nat.ne_of_lt (blk_lt (g := gb466) (o := .cells #[.int .i64 t462, .int .i64 t463, .int .i64 t464] 29 (0, 0)) (by (with_reducible repeat (first | refine blk_drewN ?_ _ | refine blk_drew ?_ | refine blk_alloc ?_ _)); exact BK466.out)) : gb466 ≠ gb489)); have n7_ := Aside0.mk ((by rw [hg]; exact Nat.ne_of_gt (blk_lt (g := gb466) (o := .cells #[.int .i64 t462, .int .i64 t463, .int .i64 t464] 29 (0, 0)) (by (with_reducible repeat (first | refine blk_drewN ?_ _ | refine blk_drew ?_ | refine blk_alloc ?_ _)); exact BK466.out)) : gb489 ≠ gb466)); have n8_ := Aside0.mk ((by rw [hg]; exact Nat.ne_of_lt (blk_lt (g := gb483) (o := .cells #[.int .i64 t479, .int .i64 t480, .int .i64 t481] 29 (0, 0)) (by (with_reducible repeat (first | refine blk_drewN ?_ _ | refine blk_drew ?_ | refine blk_alloc ?_ _)); exact BK483.out)) : gb483 ≠ gb489)); have n9_ := Aside0.mk ((by rw [hg]; exact Nat.ne_of_gt (blk_lt (g := gb483) (o := .cells #[.int .i64 t479, .int .i64 t480, .int .i64 t481] 29 (0, 0)) (by (with_reducible repeat (first | refine blk_drewN ?_ _ | refine blk_drew ?_ | refine blk_alloc ?_ _)); exact BK483.out)) : gb489 ≠ gb483)); clear BK466; clear BK483; clear HB; have BK466 := n0_; have BK483 := n1_; have HB := n2_; have BK489 := n3_; have GW489 := n4_; have GE489 := n5_; have NB466_489 := n6_; have NB489_466 := n7_; have NB483_489 := n8_; have NB489_483 := n9_; clear n0_ n1_ n2_ n3_ n4_ n5_ n6_ n7_ n8_ n9_; clear hb hbox hg; have hnb125 := NB489_466.out; have hnc125 := NB466_489.out; have hnb126 := NB489_483.out; have hnc126 := NB483_489.out; have hcz127_0 : w124.cell? ⟨gb489, 0, none⟩ = some (.int .i64 0) := (blk_cell BK489.out 0).trans rfl; have hcz127_1 : w124.cell? ⟨gb489, 1, none⟩ = some (.int .i64 0) := (blk_cell BK489.out 1).trans rfl; have hcz127_2 : w124.cell? ⟨gb489, 2, none⟩ = some (.int .i64 0) := (blk_cell BK489.out 2).trans rfl; have hfz127_0 := blk_frozen BK489.out 0; have hfz127_1 := blk_frozen BK489.out 1; have hfz127_2 := blk_frozen BK489.out 2))
                            go_ret
                            exact ⟨by first | rfl | (simp [errW_none, errW_some] <;> rfl) | (simp [*, errW_none, errW_some] <;> rfl), by repeat (first | (with_reducible first | exact HB.out | apply below_alloc | apply pw_below_drewN | apply below_drew1 | refine below_set ?_ GE466.out | refine below_set ?_ GE483.out | refine below_set ?_ GE489.out) | exact HB.out)⟩
                          ·rw [if_neg c80] at H
                           have c80b0 : (t482 == 0) = false := beq_eq_false_iff_ne.mpr c80
                           have c80b1 : (t482 != 0) = true := bne_iff_ne.mpr c80
                           obtain rfl := Option.some.inj H
                           have hnb128 := NB466_483.out
                           have hnc128 := NB483_466.out
                           have hcz129_0 : wc.cell? ⟨gb466, 0, none⟩ = some (.int .i64 t462) := (blk_cell BK466.out 0).trans rfl
                           have hcz129_1 : wc.cell? ⟨gb466, 1, none⟩ = some (.int .i64 t463) := (blk_cell BK466.out 1).trans rfl
                           have hcz129_2 : wc.cell? ⟨gb466, 2, none⟩ = some (.int .i64 t464) := (blk_cell BK466.out 2).trans rfl
                           have hfz129_0 := blk_frozen BK466.out 0
                           have hfz129_1 := blk_frozen BK466.out 1
                           have hfz129_2 := blk_frozen BK466.out 2
                           go_wp2_with (first | ((with_reducible refine gate_callee (f := 10) rfl ?_); refine goesL_ (some 162) rfl rfl Tryd.func10 (by kernel_rfl) rfl #[.slice (some ad468) l0.length c0, .int .i64 t463, .int .i64 1, .string x8_6] rfl (by (try simp only [List.map_toArray, List.map_cons, List.map_nil]); first | done | rfl | (simp only [List.length_drop, List.length_take]; rfl)) ?_; (with_reducible refine (object_Select.calls kj62 _ _ l0 t463 1 x8_6 t485 t486 t487 t488 _ ?side1 ?side2 A79.out).mono ?_); (case side1 => repeat (first | exact (Kd.C_below HR0.out HB.out) | (with_reducible refine Kd.C_alloc ?_ _) | (with_reducible refine Kd.C_drewN ?_ _) | (with_reducible refine Kd.C_drew ?_))); (case side2 => exact HC0.out); rintro e w130 ⟨rfl, hb⟩; refine ⟨_, rfl, ?_⟩; have n0_ := Aside0.mk (blk_below (g := gb466) (o := .cells #[.int .i64 t462, .int .i64 t463, .int .i64 t464] 29 (0, 0)) (by (with_reducible repeat (first | refine blk_drewN ?_ _ | refine blk_drew ?_ | refine blk_alloc ?_ _)); exact BK466.out) hb); have n1_ := Aside0.mk (blk_below (g := gb483) (o := .cells #[.int .i64 t479, .int .i64 t480, .int .i64 t481] 29 (0, 0)) (by (with_reducible repeat (first | refine blk_drewN ?_ _ | refine blk_drew ?_ | refine blk_alloc ?_ _)); exact BK483.out) hb); have n2_ := Aside0.mk (below_step (by repeat (first | (with_reducible first | exact HB.out | apply below_alloc | apply pw_below_drewN | apply below_drew1 | refine below_set ?_ GE466.out | refine below_set ?_ GE483.out) | exact HB.out)) hb); clear BK466; clear BK483; clear HB; have BK466 := n0_; have BK483 := n1_; have HB := n2_; clear n0_ n1_ n2_; (try clear hb); (try clear hb2); (try clear hk); (try clear hi)) | ((with_reducible refine gate_dst (N := 16) rfl ?_); (try (refine gate_guard (by rfl) ?_; dsimp only)); refine box_event ?hg (N := 16) ?hd (cs := #[.int .i64 0, .int .i64 0, .int .i64 0]) (t := 29) ?hr ?_; (case hd => rfl); (case hg => rfl); (case hr => first | (go_simp; done) | (go_simp; rfl)); intro gb489 hg w131 hbox hb; have n0_ := Aside0.mk (blk_below (g := gb466) (o := .cells #[.int .i64 t462, .int .i64 t463, .int .i64 t464] 29 (0, 0)) (by (with_reducible repeat (first | refine blk_drewN ?_ _ | refine blk_drew ?_ | refine blk_alloc ?_ _)); exact BK466.out) hb); have n1_ := Aside0.mk (blk_below (g := gb483) (o := .cells #[.int .i64 t479, .int .i64 t480, .int .i64 t481] 29 (0, 0)) (by (with_reducible repeat (first | refine blk_drewN ?_ _ | refine blk_drew ?_ | refine blk_alloc ?_ _)); exact BK483.out) hb); have n2_ := Aside0.mk (below_step (by repeat (first | (with_reducible first | exact HB.out | apply below_alloc | apply pw_below_drewN | apply below_drew1 | refine below_set ?_ GE466.out | refine below_set ?_ GE483.out) | exact HB.out)) hb); have n3_ := Aside0.mk (hbox); have n4_ := Aside0.mk ((by rw [hg]; exact (below_size (by repeat (first | (with_reducible first | exact HB.out | apply below_alloc | apply pw_below_drewN | apply below_drew1 | refine below_set ?_ GE466.out | refine below_set ?_ GE483.out) | exact HB.out))) : w.heap.size ≤ gb489)); have n5_ := Aside0.mk ((by rw [hg]; exact (below_size (by repeat (first | (with_reducible first | exact HB.out | apply below_alloc | apply pw_below_drewN | apply below_drew1 | refine below_set ?_ GE466.out | refine below_set ?_ GE483.out) | exact HB.out))) : w.heap.size ≤ gb489)); have n6_ := Aside0.mk ((by rw [hg]; exact Nat.ne_of_lt (blk_lt (g := gb466) (o := .cells #[.int .i64 t462, .int .i64 t463, .int .i64 t464] 29 (0, 0)) (by (with_reducible repeat (first | refine blk_drewN ?_ _ | refine blk_drew ?_ | refine blk_alloc ?_ _)); exact BK466.out)) : gb466 ≠ gb489)); have n7_ := Aside0.mk ((by rw [hg]; exact Nat.ne_of_gt (blk_lt (g := gb466) (o := .cells #[.int .i64 t462, .int .i64 t463, .int .i64 t464] 29 (0, 0)) (by (with_reducible repeat (first | refine blk_drewN ?_ _ | refine blk_drew ?_ | refine blk_alloc ?_ _)); exact BK466.out)) : gb489 ≠ gb466)); have n8_ := Aside0.mk ((by rw [hg]; exact Nat.ne_of_lt (blk_lt (g := gb483) (o := .cells #[.int .i64 t479, .int .i64 t480, .int .i64 t481] 29 (0, 0)) (by (with_reducible repeat (first | refine blk_drewN ?_ _ | refine blk_drew ?_ | refine blk_alloc ?_ _)); exact BK483.out)) : gb483 ≠ gb489)); have n9_ := Aside0.mk ((by rw [hg]; exact Nat.ne_of_gt (blk_lt (g := gb483) (o := .cells #[.int .i64 t479, .int .i64 t480, .int .i64 t481] 29 (0, 0)) (by (with_reducible repeat (first | refine blk_drewN ?_ _ | refine blk_drew ?_ | refine blk_alloc ?_ _)); exact BK483.out)) : gb489 ≠ gb483)); clear BK466; clear BK483; clear HB; have BK466 := n0_; have BK483 := n1_; have HB := n2_; have BK489 := n3_; have GW489 := n4_; have GE489 := n5_; have NB466_489 := n6_; have NB489_466 := n7_; have NB483_489 := n8_; have NB489_483 := n9_; clear n0_ n1_ n2_ n3_ n4_ n5_ n6_ n7_ n8_ n9_; clear hb hbox hg; have hnb132 := NB489_466.out; have hnc132 := NB466_489.out; have hnb133 := NB489_483.out; have hnc133 := NB483_489.out; have hcz134_0 : w131.cell? ⟨gb489, 0, none⟩ = some (.int .i64 0) := (blk_cell BK489.out 0).trans rfl; have hcz134_1 : w131.cell? ⟨gb489, 1, none⟩ = some (.int .i64 0) := (blk_cell BK489.out 1).trans rfl; have hcz134_2 : w131.cell? ⟨gb489, 2, none⟩ = some (.int .i64 0) := (blk_cell BK489.out 2).trans rfl; have hfz134_0 := blk_frozen BK489.out 0; have hfz134_1 := blk_frozen BK489.out 1; have hfz134_2 := blk_frozen BK489.out 2))
                           go_ret
                           exact ⟨by first | rfl | (simp [errW_none, errW_some] <;> rfl) | (simp [*, errW_none, errW_some] <;> rfl), by repeat (first | (with_reducible first | exact HB.out | apply below_alloc | apply pw_below_drewN | apply below_drew1 | refine below_set ?_ GE466.out | refine below_set ?_ GE483.out | refine below_set ?_ GE489.out) | exact HB.out)⟩
                ·rw [if_neg c35] at H
                 exact absurd H (by simp)
               ·rw [if_neg c34] at H
                exact absurd H (by simp)
              ·rw [if_neg c33] at H
               exact absurd H (by simp)
          ·rw [if_neg c22] at H
           exact absurd H (by simp)
         ·rw [if_neg c21] at H
          exact absurd H (by simp)
        ·rw [if_neg c20] at H
         have c20b0 : (t465 == 0) = false := beq_eq_false_iff_ne.mpr c20
         have c20b1 : (t465 != 0) = true := bne_iff_ne.mpr c20
         (first | rw [c20b0] | (simp only [i64_w, i32_w]; rw [c20b0]) | skip)
         have H' := Aside0.mk H
         clear H
         go_wp2
         go_meet
         case rel => exact ⟨_, H', ⟨by have := HJ6.out; have := HJ10.out; first | omega | exact Nat.le_refl _⟩, ⟨by (with_reducible repeat (first | refine blk_drewN ?_ _ | refine blk_drew ?_ | refine blk_alloc ?_ _)); exact BK466.out⟩, ⟨by repeat (first | (with_reducible first | exact HB.out | apply below_alloc | apply pw_below_drewN | apply below_drew1 | refine below_set ?_ GE466.out) | exact HB.out)⟩⟩
       case rest => as_aux_lemma =>
        clear HC19
        try clear c1
        try clear c2
        try clear p2
        try clear c3
        try clear c4
        try clear p4
        try clear q4
        try clear hx4
        try clear c5
        try clear c6
        try clear p6
        try clear c7
        try clear c8
        try clear c9
        try clear c10
        try clear c11
        try clear c12
        try clear c13
        try clear c15
        try clear c15b0
        try clear c15b1
        try clear c16
        try clear c16b0
        try clear c17
        try clear c17b0
        try clear c18
        try clear c20
        try clear c20b0
        try clear c20b1
        try clear c21
        try clear c21b0
        try clear c22
        try clear c22b0
        try clear c25
        try clear c25b0
        try clear c27
        try clear c27b0
        try clear c29
        try clear c29b0
        try clear c32
        try clear c33
        try clear c33b0
        try clear c33b1
        try clear c34
        try clear c34b0
        try clear c34b1
        try clear c35
        try clear c35b0
        try clear c35b1
        try clear c38
        try clear c38b0
        try clear c39
        try clear c39b0
        try clear c40
        try clear c40b0
        try clear c42
        try clear c42b0
        try clear c42b1
        try clear c44
        try clear c44b0
        try clear c46
        try clear c46b0
        try clear p46
        try clear q46
        try clear hx46
        try clear c47
        try clear c47b0
        try clear p47
        try clear q47
        try clear hx47
        try clear p48
        try clear q48
        try clear hx48
        try clear c49
        try clear c49b0
        try clear c49b1
        try clear c51
        try clear c51b0
        try clear c52
        try clear c52b0
        try clear c56
        try clear c56b0
        try clear c57
        try clear c57b0
        try clear c61
        try clear p64
        try clear c66
        try clear c68
        try clear c68b0
        try clear c68b1
        try clear c69
        try clear c71
        try clear c71b0
        try clear c72
        try clear c72b0
        try clear c73
        try clear c75
        try clear c76
        try clear c76b0
        try clear c76b1
        try clear c77
        try clear c80
        try clear c80b0
        try clear c80b1
        try clear c81
        try clear c81b0
        try clear c81b1
        try clear c82
        try clear c82b0
        try clear c82b1
        try clear c83
        try clear c83b0
        try clear c83b1
        try clear c84
        try clear c84b0
        try clear c84b1
        try clear c85
        try clear c89
        try clear c90
        try clear c94
        try clear c98
        try clear c99
        try clear c103
        try clear c107
        try clear c108
        try clear c112
        try clear c116
        try clear c117
        try clear c121
        try clear c125
        try clear c126
        try clear c128
        try clear c132
        try clear c133
        try clear hcz100_0
        try clear hcz100_1
        try clear hcz100_2
        try clear hcz101_0
        try clear hcz101_1
        try clear hcz101_2
        try clear hcz102_0
        try clear hcz102_1
        try clear hcz102_2
        try clear hcz104_0
        try clear hcz104_1
        try clear hcz104_2
        try clear hcz109_0
        try clear hcz109_1
        try clear hcz109_2
        try clear hcz110_0
        try clear hcz110_1
        try clear hcz110_2
        try clear hcz111_0
        try clear hcz111_1
        try clear hcz111_2
        try clear hcz113_0
        try clear hcz113_1
        try clear hcz113_2
        try clear hcz118_0
        try clear hcz118_1
        try clear hcz118_2
        try clear hcz119_0
        try clear hcz119_1
        try clear hcz119_2
        try clear hcz120_0
        try clear hcz120_1
        try clear hcz120_2
        try clear hcz122_0
        try clear hcz122_1
        try clear hcz122_2
        try clear hcz127_0
        try clear hcz127_1
        try clear hcz127_2
        try clear hcz129_0
        try clear hcz129_1
        try clear hcz129_2
        try clear hcz134_0
        try clear hcz134_1
        try clear hcz134_2
        try clear hcz14_0
        try clear hcz14_1
        try clear hcz14_2
        try clear hcz26_0
        try clear hcz26_1
        try clear hcz26_2
        try clear hcz28_0
        try clear hcz28_1
        try clear hcz28_2
        try clear hcz30_0
        try clear hcz30_1
        try clear hcz30_2
        try clear hcz31_0
        try clear hcz31_1
        try clear hcz31_2
        try clear hcz36_0
        try clear hcz36_1
        try clear hcz36_2
        try clear hcz50_0
        try clear hcz50_1
        try clear hcz50_2
        try clear hcz54_0
        try clear hcz54_1
        try clear hcz54_2
        try clear hcz55_0
        try clear hcz55_1
        try clear hcz55_2
        try clear hcz59_0
        try clear hcz59_1
        try clear hcz59_2
        try clear hcz60_0
        try clear hcz60_1
        try clear hcz60_2
        try clear hcz67_0
        try clear hcz67_1
        try clear hcz67_2
        try clear hcz70_0
        try clear hcz70_1
        try clear hcz70_2
        try clear hcz74_0
        try clear hcz74_1
        try clear hcz74_2
        try clear hcz78_0
        try clear hcz78_1
        try clear hcz78_2
        try clear hcz86_0
        try clear hcz86_1
        try clear hcz86_2
        try clear hcz91_0
        try clear hcz91_1
        try clear hcz91_2
        try clear hcz92_0
        try clear hcz92_1
        try clear hcz92_2
        try clear hcz93_0
        try clear hcz93_1
        try clear hcz93_2
        try clear hcz95_0
        try clear hcz95_1
        try clear hcz95_2
        try clear hfz100_0
        try clear hfz100_1
        try clear hfz100_2
        try clear hfz101_0
        try clear hfz101_1
        try clear hfz101_2
        try clear hfz102_0
        try clear hfz102_1
        try clear hfz102_2
        try clear hfz104_0
        try clear hfz104_1
        try clear hfz104_2
        try clear hfz109_0
        try clear hfz109_1
        try clear hfz109_2
        try clear hfz110_0
        try clear hfz110_1
        try clear hfz110_2
        try clear hfz111_0
        try clear hfz111_1
        try clear hfz111_2
        try clear hfz113_0
        try clear hfz113_1
        try clear hfz113_2
        try clear hfz118_0
        try clear hfz118_1
        try clear hfz118_2
        try clear hfz119_0
        try clear hfz119_1
        try clear hfz119_2
        try clear hfz120_0
        try clear hfz120_1
        try clear hfz120_2
        try clear hfz122_0
        try clear hfz122_1
        try clear hfz122_2
        try clear hfz127_0
        try clear hfz127_1
        try clear hfz127_2
        try clear hfz129_0
        try clear hfz129_1
        try clear hfz129_2
        try clear hfz134_0
        try clear hfz134_1
        try clear hfz134_2
        try clear hfz14_0
        try clear hfz14_1
        try clear hfz14_2
        try clear hfz26_0
        try clear hfz26_1
        try clear hfz26_2
        try clear hfz28_0
        try clear hfz28_1
        try clear hfz28_2
        try clear hfz30_0
        try clear hfz30_1
        try clear hfz30_2
        try clear hfz31_0
        try clear hfz31_1
        try clear hfz31_2
        try clear hfz36_0
        try clear hfz36_1
        try clear hfz36_2
        try clear hfz50_0
        try clear hfz50_1
        try clear hfz50_2
        try clear hfz54_0
        try clear hfz54_1
        try clear hfz54_2
        try clear hfz55_0
        try clear hfz55_1
        try clear hfz55_2
        try clear hfz59_0
        try clear hfz59_1
        try clear hfz59_2
        try clear hfz60_0
        try clear hfz60_1
        try clear hfz60_2
        try clear hfz67_0
        try clear hfz67_1
        try clear hfz67_2
        try clear hfz70_0
        try clear hfz70_1
        try clear hfz70_2
        try clear hfz74_0
        try clear hfz74_1
        try clear hfz74_2
        try clear hfz78_0
        try clear hfz78_1
        try clear hfz78_2
        try clear hfz86_0
        try clear hfz86_1
        try clear hfz86_2
        try clear hfz91_0
        try clear hfz91_1
        try clear hfz91_2
        try clear hfz92_0
        try clear hfz92_1
        try clear hfz92_2
        try clear hfz93_0
        try clear hfz93_1
        try clear hfz93_2
        try clear hfz95_0
        try clear hfz95_1
        try clear hfz95_2
        try clear hx467_0
        try clear hx468_0
        try clear hx471_0
        try clear hx473_0
        try clear hx475_0
        try clear hx477_0
        try clear hx484_0
        try clear p2
        try clear p4
        try clear p46
        try clear p467
        try clear p468
        try clear p47
        try clear p471
        try clear p473
        try clear p475
        try clear p477
        try clear p48
        try clear p484
        try clear p6
        try clear p64
        try clear q4
        try clear q46
        try clear q467
        try clear q468
        try clear q47
        try clear q471
        try clear q473
        try clear q475
        try clear q477
        try clear q48
        try clear q484
        obtain ⟨kq, HA, HJ18, BK466, HB⟩ := hcut
        cases kq with
        | zero => exact absurd HA.out (by simp [quoinlaw13_ObjectRuns.j6])
        | succ kj18 =>
         have H := HA.out
         clear HA
         simp only [quoinlaw13_ObjectRuns.j6] at H
         replace H := Option.bind_eq_some_iff.mp H
         obtain ⟨⟨t490, t491, t492, t493⟩, A1350, H⟩ := H
         replace H : (if t493 = 0 then (if t490 > t461 then (quoinlaw13_ObjectRuns.j7 kj18 l0 true t490 t491 t492) else (if t491 < 0 then (quoinlaw13_ObjectRuns.j7 kj18 l0 true t490 t491 t492) else (if t491 > (l0.length : Int) then (quoinlaw13_ObjectRuns.j7 kj18 l0 true t490 t491 t492) else (quoinlaw13_ObjectRuns.j7 kj18 l0 (decide (t490 < 0)) t490 t491 t492)))) else (quoinlaw13_ObjectRuns.j7 kj18 l0 true t490 t491 t492)) = some r := H
         have A135 := Aside0.mk A1350
         clear A1350
         have HC136 := Aside0.mk H
         clear H
         go_upto_region 29 with (first | ((with_reducible refine gate_callee (f := 10) rfl ?_); refine goesL_ (some 195) rfl rfl Tryd.func10 (by kernel_rfl) rfl #[.slice A0 l0.length c0, .int .i64 t461, .int .i64 1, .string (⟨#[105, 112]⟩ : ByteArray)] rfl (by (try simp only [List.map_toArray, List.map_cons, List.map_nil]); first | done | rfl | (simp only [List.length_drop, List.length_take]; rfl)) ?_; (with_reducible refine (object_Select.calls kj18 _ _ l0 t461 1 (⟨#[105, 112]⟩ : ByteArray) t490 t491 t492 t493 _ ?side1 ?side2 A135.out).mono ?_); (case side1 => repeat (first | exact (Kd.C_below HR0.out HB.out) | (with_reducible refine Kd.C_alloc ?_ _) | (with_reducible refine Kd.C_drewN ?_ _) | (with_reducible refine Kd.C_drew ?_))); (case side2 => exact HC0.out); rintro e w137 ⟨rfl, hb⟩; refine ⟨_, rfl, ?_⟩; have n0_ := Aside0.mk (blk_below (g := gb466) (o := .cells #[.int .i64 t462, .int .i64 t463, .int .i64 t464] 29 (0, 0)) (by (with_reducible repeat (first | refine blk_drewN ?_ _ | refine blk_drew ?_ | refine blk_alloc ?_ _)); exact BK466.out) hb); have n1_ := Aside0.mk (below_step (by repeat (first | (with_reducible first | exact HB.out | apply below_alloc | apply pw_below_drewN | apply below_drew1 | refine below_set ?_ GE466.out) | exact HB.out)) hb); clear BK466; clear HB; have BK466 := n0_; have HB := n1_; clear n0_ n1_; (try clear hb); (try clear hb2); (try clear hk); (try clear hi)) | ((with_reducible refine gate_dst (N := 18) rfl ?_); (try (refine gate_guard (by rfl) ?_; dsimp only)); refine box_event ?hg (N := 18) ?hd (cs := #[.int .i64 0, .int .i64 0, .int .i64 0]) (t := 29) ?hr ?_; (case hd => rfl); (case hg => rfl); (case hr => first | (go_simp; done) | (go_simp; rfl)); intro gb494 hg w138 hbox hb; have n0_ := Aside0.mk (blk_below (g := gb466) (o := .cells #[.int .i64 t462, .int .i64 t463, .int .i64 t464] 29 (0, 0)) (by (with_reducible repeat (first | refine blk_drewN ?_ _ | refine blk_drew ?_ | refine blk_alloc ?_ _)); exact BK466.out) hb); have n1_ := Aside0.mk (below_step (by repeat (first | (with_reducible first | exact HB.out | apply below_alloc | apply pw_below_drewN | apply below_drew1 | refine below_set ?_ GE466.out) | exact HB.out)) hb); have n2_ := Aside0.mk (hbox); have n3_ := Aside0.mk ((by rw [hg]; exact (below_size (by repeat (first | (with_reducible first | exact HB.out | apply below_alloc | apply pw_below_drewN | apply below_drew1 | refine below_set ?_ GE466.out) | exact HB.out))) : w.heap.size ≤ gb494)); have n4_ := Aside0.mk ((by rw [hg]; exact (below_size (by repeat (first | (with_reducible first | exact HB.out | apply below_alloc | apply pw_below_drewN | apply below_drew1 | refine below_set ?_ GE466.out) | exact HB.out))) : w.heap.size ≤ gb494)); have n5_ := Aside0.mk ((by rw [hg]; exact Nat.ne_of_lt (blk_lt (g := gb466) (o := .cells #[.int .i64 t462, .int .i64 t463, .int .i64 t464] 29 (0, 0)) (by (with_reducible repeat (first | refine blk_drewN ?_ _ | refine blk_drew ?_ | refine blk_alloc ?_ _)); exact BK466.out)) : gb466 ≠ gb494)); have n6_ := Aside0.mk ((by rw [hg]; exact Nat.ne_of_gt (blk_lt (g := gb466) (o := .cells #[.int .i64 t462, .int .i64 t463, .int .i64 t464] 29 (0, 0)) (by (with_reducible repeat (first | refine blk_drewN ?_ _ | refine blk_drew ?_ | refine blk_alloc ?_ _)); exact BK466.out)) : gb494 ≠ gb466)); clear BK466; clear HB; have BK466 := n0_; have HB := n1_; have BK494 := n2_; have GW494 := n3_; have GE494 := n4_; have NB466_494 := n5_; have NB494_466 := n6_; clear n0_ n1_ n2_ n3_ n4_ n5_ n6_; clear hb hbox hg; have hnb139 := NB494_466.out; have hnc139 := NB466_494.out; have hcz140_0 : w138.cell? ⟨gb494, 0, none⟩ = some (.int .i64 0) := (blk_cell BK494.out 0).trans rfl; have hcz140_1 : w138.cell? ⟨gb494, 1, none⟩ = some (.int .i64 0) := (blk_cell BK494.out 1).trans rfl; have hcz140_2 : w138.cell? ⟨gb494, 2, none⟩ = some (.int .i64 0) := (blk_cell BK494.out 2).trans rfl; have hfz140_0 := blk_frozen BK494.out 0; have hfz140_1 := blk_frozen BK494.out 1; have hfz140_2 := blk_frozen BK494.out 2))
         (try simp only [Act.put, List.setIfInBounds_toArray, List.set_cons_zero, List.set_cons_succ])
         go_cut [222] (fun v222 wc => ∃ (kq : Nat) (x222_135 : Bool), v222 = .bool x222_135 ∧ Aside0 (quoinlaw13_ObjectRuns.j7 kq l0 x222_135 t490 t491 t492 = some r) ∧ Aside0 (kq ≤ kj18) ∧ Aside0 (wc.heap[gb466]? = some (.cells #[.int .i64 t462, .int .i64 t463, .int .i64 t464] 29 (0, 0))) ∧ Aside0 (wc.heap[gb494]? = some (.cells #[.int .i64 t490, .int .i64 t491, .int .i64 t492] 29 (0, 0))) ∧ Aside0 (Below w.heap.size w wc))
         case first => as_aux_lemma =>
          have H := HC136.out
          clear HC136
          by_cases c141 : t493 = 0
          ·rw [if_pos c141] at H
           have c141b0 : (t493 == 0) = true := beq_iff_eq.mpr c141
           have c141b1 : (t493 != 0) = false := bne_eq_false_iff_eq.mpr c141
           clear c141
           (first | rw [c141b0] | (simp only [i64_w, i32_w]; rw [c141b0]) | skip)
           by_cases c142 : t490 > t461
           ·rw [if_pos c142] at H
            have c142b0 : decide (t461 < t490) = true := decide_eq_true c142
            clear c142
            have H' := Aside0.mk H
            clear H
            have hnb143 := NB494_466.out
            have hnc143 := NB466_494.out
            have hcz144_0 : w138.cell? ⟨gb494, 0, none⟩ = some (.int .i64 0) := (blk_cell BK494.out 0).trans rfl
            have hcz144_1 : w138.cell? ⟨gb494, 1, none⟩ = some (.int .i64 0) := (blk_cell BK494.out 1).trans rfl
            have hcz144_2 : w138.cell? ⟨gb494, 2, none⟩ = some (.int .i64 0) := (blk_cell BK494.out 2).trans rfl
            have hfz144_0 := blk_frozen BK494.out 0
            have hfz144_1 := blk_frozen BK494.out 1
            have hfz144_2 := blk_frozen BK494.out 2
            go_wp2
            go_meet
            case rel => exact ⟨_, (true), (by first | rfl | (simp; done) | (simp [*]; done)), H', ⟨by have := HJ6.out; have := HJ10.out; have := HJ18.out; first | omega | exact Nat.le_refl _⟩, ⟨by (with_reducible repeat (first | refine blk_drewN ?_ _ | refine blk_drew ?_ | refine blk_alloc ?_ _)); refine blk_far ?_ NB466_494.out _; (with_reducible repeat (first | refine blk_drewN ?_ _ | refine blk_drew ?_ | refine blk_alloc ?_ _)); refine blk_far ?_ NB466_494.out _; (with_reducible repeat (first | refine blk_drewN ?_ _ | refine blk_drew ?_ | refine blk_alloc ?_ _)); refine blk_far ?_ NB466_494.out _; (with_reducible repeat (first | refine blk_drewN ?_ _ | refine blk_drew ?_ | refine blk_alloc ?_ _)); exact BK466.out⟩, ⟨by (with_reducible repeat (first | refine blk_drewN ?_ _ | refine blk_drew ?_ | refine blk_alloc ?_ _)); refine blk_put (cs := #[.int .i64 t490, .int .i64 t491, .int .i64 0]) ?_ 2 _ rfl; (with_reducible repeat (first | refine blk_drewN ?_ _ | refine blk_drew ?_ | refine blk_alloc ?_ _)); refine blk_put (cs := #[.int .i64 t490, .int .i64 0, .int .i64 0]) ?_ 1 _ rfl; (with_reducible repeat (first | refine blk_drewN ?_ _ | refine blk_drew ?_ | refine blk_alloc ?_ _)); refine blk_put (cs := #[.int .i64 0, .int .i64 0, .int .i64 0]) ?_ 0 _ rfl; (with_reducible repeat (first | refine blk_drewN ?_ _ | refine blk_drew ?_ | refine blk_alloc ?_ _)); exact BK494.out⟩, ⟨by repeat (first | (with_reducible first | exact HB.out | apply below_alloc | apply pw_below_drewN | apply below_drew1 | refine below_set ?_ GE466.out | refine below_set ?_ GE494.out) | exact HB.out)⟩⟩
           ·rw [if_neg c142] at H
            have c142b0 : decide (t461 < t490) = false := decide_eq_false c142
            clear c142
            by_cases c145 : t491 < 0
            ·rw [if_pos c145] at H
             have c145b0 : decide (t491 < 0) = true := decide_eq_true c145
             clear c145
             have H' := Aside0.mk H
             clear H
             have hnb146 := NB494_466.out
             have hnc146 := NB466_494.out
             have hcz147_0 : w138.cell? ⟨gb494, 0, none⟩ = some (.int .i64 0) := (blk_cell BK494.out 0).trans rfl
             have hcz147_1 : w138.cell? ⟨gb494, 1, none⟩ = some (.int .i64 0) := (blk_cell BK494.out 1).trans rfl
             have hcz147_2 : w138.cell? ⟨gb494, 2, none⟩ = some (.int .i64 0) := (blk_cell BK494.out 2).trans rfl
             have hfz147_0 := blk_frozen BK494.out 0
             have hfz147_1 := blk_frozen BK494.out 1
             have hfz147_2 := blk_frozen BK494.out 2
             go_wp2
             go_meet
             case rel => exact ⟨_, (true), (by first | rfl | (simp; done) | (simp [*]; done)), H', ⟨by have := HJ6.out; have := HJ10.out; have := HJ18.out; first | omega | exact Nat.le_refl _⟩, ⟨by (with_reducible repeat (first | refine blk_drewN ?_ _ | refine blk_drew ?_ | refine blk_alloc ?_ _)); refine blk_far ?_ NB466_494.out _; (with_reducible repeat (first | refine blk_drewN ?_ _ | refine blk_drew ?_ | refine blk_alloc ?_ _)); refine blk_far ?_ NB466_494.out _; (with_reducible repeat (first | refine blk_drewN ?_ _ | refine blk_drew ?_ | refine blk_alloc ?_ _)); refine blk_far ?_ NB466_494.out _; (with_reducible repeat (first | refine blk_drewN ?_ _ | refine blk_drew ?_ | refine blk_alloc ?_ _)); exact BK466.out⟩, ⟨by (with_reducible repeat (first | refine blk_drewN ?_ _ | refine blk_drew ?_ | refine blk_alloc ?_ _)); refine blk_put (cs := #[.int .i64 t490, .int .i64 t491, .int .i64 0]) ?_ 2 _ rfl; (with_reducible repeat (first | refine blk_drewN ?_ _ | refine blk_drew ?_ | refine blk_alloc ?_ _)); refine blk_put (cs := #[.int .i64 t490, .int .i64 0, .int .i64 0]) ?_ 1 _ rfl; (with_reducible repeat (first | refine blk_drewN ?_ _ | refine blk_drew ?_ | refine blk_alloc ?_ _)); refine blk_put (cs := #[.int .i64 0, .int .i64 0, .int .i64 0]) ?_ 0 _ rfl; (with_reducible repeat (first | refine blk_drewN ?_ _ | refine blk_drew ?_ | refine blk_alloc ?_ _)); exact BK494.out⟩, ⟨by repeat (first | (with_reducible first | exact HB.out | apply below_alloc | apply pw_below_drewN | apply below_drew1 | refine below_set ?_ GE466.out | refine below_set ?_ GE494.out) | exact HB.out)⟩⟩
            ·rw [if_neg c145] at H
             have c145b0 : decide (t491 < 0) = false := decide_eq_false c145
             clear c145
             by_cases c148 : t491 > (l0.length : Int)
             ·rw [if_pos c148] at H
              have c148b0 : decide ((l0.length : Int) < t491) = true := decide_eq_true c148
              clear c148
              have H' := Aside0.mk H
              clear H
              have hnb149 := NB494_466.out
              have hnc149 := NB466_494.out
              have hcz150_0 : w138.cell? ⟨gb494, 0, none⟩ = some (.int .i64 0) := (blk_cell BK494.out 0).trans rfl
              have hcz150_1 : w138.cell? ⟨gb494, 1, none⟩ = some (.int .i64 0) := (blk_cell BK494.out 1).trans rfl
              have hcz150_2 : w138.cell? ⟨gb494, 2, none⟩ = some (.int .i64 0) := (blk_cell BK494.out 2).trans rfl
              have hfz150_0 := blk_frozen BK494.out 0
              have hfz150_1 := blk_frozen BK494.out 1
              have hfz150_2 := blk_frozen BK494.out 2
              go_wp2
              go_meet
              case rel => exact ⟨_, (true), (by first | rfl | (simp; done) | (simp [*]; done)), H', ⟨by have := HJ6.out; have := HJ10.out; have := HJ18.out; first | omega | exact Nat.le_refl _⟩, ⟨by (with_reducible repeat (first | refine blk_drewN ?_ _ | refine blk_drew ?_ | refine blk_alloc ?_ _)); refine blk_far ?_ NB466_494.out _; (with_reducible repeat (first | refine blk_drewN ?_ _ | refine blk_drew ?_ | refine blk_alloc ?_ _)); refine blk_far ?_ NB466_494.out _; (with_reducible repeat (first | refine blk_drewN ?_ _ | refine blk_drew ?_ | refine blk_alloc ?_ _)); refine blk_far ?_ NB466_494.out _; (with_reducible repeat (first | refine blk_drewN ?_ _ | refine blk_drew ?_ | refine blk_alloc ?_ _)); exact BK466.out⟩, ⟨by (with_reducible repeat (first | refine blk_drewN ?_ _ | refine blk_drew ?_ | refine blk_alloc ?_ _)); refine blk_put (cs := #[.int .i64 t490, .int .i64 t491, .int .i64 0]) ?_ 2 _ rfl; (with_reducible repeat (first | refine blk_drewN ?_ _ | refine blk_drew ?_ | refine blk_alloc ?_ _)); refine blk_put (cs := #[.int .i64 t490, .int .i64 0, .int .i64 0]) ?_ 1 _ rfl; (with_reducible repeat (first | refine blk_drewN ?_ _ | refine blk_drew ?_ | refine blk_alloc ?_ _)); refine blk_put (cs := #[.int .i64 0, .int .i64 0, .int .i64 0]) ?_ 0 _ rfl; (with_reducible repeat (first | refine blk_drewN ?_ _ | refine blk_drew ?_ | refine blk_alloc ?_ _)); exact BK494.out⟩, ⟨by repeat (first | (with_reducible first | exact HB.out | apply below_alloc | apply pw_below_drewN | apply below_drew1 | refine below_set ?_ GE466.out | refine below_set ?_ GE494.out) | exact HB.out)⟩⟩
             ·rw [if_neg c148] at H
              have c148b0 : decide ((l0.length : Int) < t491) = false := decide_eq_false c148
              clear c148
              have H' := Aside0.mk H
              clear H
              have hnb151 := NB494_466.out
              have hnc151 := NB466_494.out
              have hcz152_0 : w138.cell? ⟨gb494, 0, none⟩ = some (.int .i64 0) := (blk_cell BK494.out 0).trans rfl
              have hcz152_1 : w138.cell? ⟨gb494, 1, none⟩ = some (.int .i64 0) := (blk_cell BK494.out 1).trans rfl
              have hcz152_2 : w138.cell? ⟨gb494, 2, none⟩ = some (.int .i64 0) := (blk_cell BK494.out 2).trans rfl
              have hfz152_0 := blk_frozen BK494.out 0
              have hfz152_1 := blk_frozen BK494.out 1
              have hfz152_2 := blk_frozen BK494.out 2
              go_wp2
              go_meet
              case rel => exact ⟨_, (decide (t490 < 0)), (by first | rfl | (simp; done) | (simp [*]; done)), H', ⟨by have := HJ6.out; have := HJ10.out; have := HJ18.out; first | omega | exact Nat.le_refl _⟩, ⟨by (with_reducible repeat (first | refine blk_drewN ?_ _ | refine blk_drew ?_ | refine blk_alloc ?_ _)); refine blk_far ?_ NB466_494.out _; (with_reducible repeat (first | refine blk_drewN ?_ _ | refine blk_drew ?_ | refine blk_alloc ?_ _)); refine blk_far ?_ NB466_494.out _; (with_reducible repeat (first | refine blk_drewN ?_ _ | refine blk_drew ?_ | refine blk_alloc ?_ _)); refine blk_far ?_ NB466_494.out _; (with_reducible repeat (first | refine blk_drewN ?_ _ | refine blk_drew ?_ | refine blk_alloc ?_ _)); exact BK466.out⟩, ⟨by (with_reducible repeat (first | refine blk_drewN ?_ _ | refine blk_drew ?_ | refine blk_alloc ?_ _)); refine blk_put (cs := #[.int .i64 t490, .int .i64 t491, .int .i64 0]) ?_ 2 _ rfl; (with_reducible repeat (first | refine blk_drewN ?_ _ | refine blk_drew ?_ | refine blk_alloc ?_ _)); refine blk_put (cs := #[.int .i64 t490, .int .i64 0, .int .i64 0]) ?_ 1 _ rfl; (with_reducible repeat (first | refine blk_drewN ?_ _ | refine blk_drew ?_ | refine blk_alloc ?_ _)); refine blk_put (cs := #[.int .i64 0, .int .i64 0, .int .i64 0]) ?_ 0 _ rfl; (with_reducible repeat (first | refine blk_drewN ?_ _ | refine blk_drew ?_ | refine blk_alloc ?_ _)); exact BK494.out⟩, ⟨by repeat (first | (with_reducible first | exact HB.out | apply below_alloc | apply pw_below_drewN | apply below_drew1 | refine below_set ?_ GE466.out | refine below_set ?_ GE494.out) | exact HB.out)⟩⟩
          ·rw [if_neg c141] at H
           have c141b0 : (t493 == 0) = false := beq_eq_false_iff_ne.mpr c141
           have c141b1 : (t493 != 0) = true := bne_iff_ne.mpr c141
           (first | rw [c141b0] | (simp only [i64_w, i32_w]; rw [c141b0]) | skip)
           have H' := Aside0.mk H
           clear H
           go_wp2
           go_meet
           case rel => exact ⟨_, (true), (by first | rfl | (simp; done) | (simp [*]; done)), H', ⟨by have := HJ6.out; have := HJ10.out; have := HJ18.out; first | omega | exact Nat.le_refl _⟩, ⟨by (with_reducible repeat (first | refine blk_drewN ?_ _ | refine blk_drew ?_ | refine blk_alloc ?_ _)); refine blk_far ?_ NB466_494.out _; (with_reducible repeat (first | refine blk_drewN ?_ _ | refine blk_drew ?_ | refine blk_alloc ?_ _)); refine blk_far ?_ NB466_494.out _; (with_reducible repeat (first | refine blk_drewN ?_ _ | refine blk_drew ?_ | refine blk_alloc ?_ _)); refine blk_far ?_ NB466_494.out _; (with_reducible repeat (first | refine blk_drewN ?_ _ | refine blk_drew ?_ | refine blk_alloc ?_ _)); exact BK466.out⟩, ⟨by (with_reducible repeat (first | refine blk_drewN ?_ _ | refine blk_drew ?_ | refine blk_alloc ?_ _)); refine blk_put (cs := #[.int .i64 t490, .int .i64 t491, .int .i64 0]) ?_ 2 _ rfl; (with_reducible repeat (first | refine blk_drewN ?_ _ | refine blk_drew ?_ | refine blk_alloc ?_ _)); refine blk_put (cs := #[.int .i64 t490, .int .i64 0, .int .i64 0]) ?_ 1 _ rfl; (with_reducible repeat (first | refine blk_drewN ?_ _ | refine blk_drew ?_ | refine blk_alloc ?_ _)); refine blk_put (cs := #[.int .i64 0, .int .i64 0, .int .i64 0]) ?_ 0 _ rfl; (with_reducible repeat (first | refine blk_drewN ?_ _ | refine blk_drew ?_ | refine blk_alloc ?_ _)); exact BK494.out⟩, ⟨by repeat (first | (with_reducible first | exact HB.out | apply below_alloc | apply pw_below_drewN | apply below_drew1 | refine below_set ?_ GE466.out | refine below_set ?_ GE494.out) | exact HB.out)⟩⟩
         case rest => as_aux_lemma =>
          clear HC136
          try clear c1
          try clear c2
          try clear p2
          try clear c3
          try clear c4
          try clear p4
          try clear q4
          try clear hx4
          try clear c5
          try clear c6
          try clear p6
          try clear c7
          try clear c8
          try clear c9
          try clear c10
          try clear c11
          try clear c12
          try clear c13
          try clear c14
          try clear c15
          try clear c15b0
          try clear c15b1
          try clear c16
          try clear c16b0
          try clear c17
          try clear c17b0
          try clear c18
          try clear c20
          try clear c20b0
          try clear c20b1
          try clear c21
          try clear c21b0
          try clear c22
          try clear c22b0
          try clear c25
          try clear c25b0
          try clear c27
          try clear c27b0
          try clear c29
          try clear c29b0
          try clear c32
          try clear c33
          try clear c33b0
          try clear c33b1
          try clear c34
          try clear c34b0
          try clear c34b1
          try clear c35
          try clear c35b0
          try clear c35b1
          try clear c38
          try clear c38b0
          try clear c39
          try clear c39b0
          try clear c40
          try clear c40b0
          try clear c42
          try clear c42b0
          try clear c42b1
          try clear c44
          try clear c44b0
          try clear c46
          try clear c46b0
          try clear p46
          try clear q46
          try clear hx46
          try clear c47
          try clear c47b0
          try clear p47
          try clear q47
          try clear hx47
          try clear p48
          try clear q48
          try clear hx48
          try clear c49
          try clear c49b0
          try clear c49b1
          try clear c51
          try clear c51b0
          try clear c52
          try clear c52b0
          try clear c56
          try clear c56b0
          try clear c57
          try clear c57b0
          try clear c61
          try clear p64
          try clear c66
          try clear c68
          try clear c68b0
          try clear c68b1
          try clear c69
          try clear c71
          try clear c71b0
          try clear c72
          try clear c72b0
          try clear c73
          try clear c75
          try clear c76
          try clear c76b0
          try clear c76b1
          try clear c77
          try clear c80
          try clear c80b0
          try clear c80b1
          try clear c81
          try clear c81b0
          try clear c81b1
          try clear c82
          try clear c82b0
          try clear c82b1
          try clear c83
          try clear c83b0
          try clear c83b1
          try clear c84
          try clear c84b0
          try clear c84b1
          try clear c85
          try clear c89
          try clear c90
          try clear c94
          try clear c98
          try clear c99
          try clear c103
          try clear c107
          try clear c108
          try clear c112
          try clear c116
          try clear c117
          try clear c121
          try clear c125
          try clear c126
          try clear c128
          try clear c132
          try clear c133
          try clear c139
          try clear c141
          try clear c141b0
          try clear c141b1
          try clear c142
          try clear c142b0
          try clear c143
          try clear c145
          try clear c145b0
          try clear c146
          try clear c148
          try clear c148b0
          try clear c149
          try clear c151
          try clear hcz100_0
          try clear hcz100_1
          try clear hcz100_2
          try clear hcz101_0
          try clear hcz101_1
          try clear hcz101_2
          try clear hcz102_0
          try clear hcz102_1
          try clear hcz102_2
          try clear hcz104_0
          try clear hcz104_1
          try clear hcz104_2
          try clear hcz109_0
          try clear hcz109_1
          try clear hcz109_2
          try clear hcz110_0
          try clear hcz110_1
          try clear hcz110_2
          try clear hcz111_0
          try clear hcz111_1
          try clear hcz111_2
          try clear hcz113_0
          try clear hcz113_1
          try clear hcz113_2
          try clear hcz118_0
          try clear hcz118_1
          try clear hcz118_2
          try clear hcz119_0
          try clear hcz119_1
          try clear hcz119_2
          try clear hcz120_0
          try clear hcz120_1
          try clear hcz120_2
          try clear hcz122_0
          try clear hcz122_1
          try clear hcz122_2
          try clear hcz127_0
          try clear hcz127_1
          try clear hcz127_2
          try clear hcz129_0
          try clear hcz129_1
          try clear hcz129_2
          try clear hcz134_0
          try clear hcz134_1
          try clear hcz134_2
          try clear hcz140_0
          try clear hcz140_1
          try clear hcz140_2
          try clear hcz144_0
          try clear hcz144_1
          try clear hcz144_2
          try clear hcz147_0
          try clear hcz147_1
          try clear hcz147_2
          try clear hcz14_0
          try clear hcz14_1
          try clear hcz14_2
          try clear hcz150_0
          try clear hcz150_1
          try clear hcz150_2
          try clear hcz152_0
          try clear hcz152_1
          try clear hcz152_2
          try clear hcz26_0
          try clear hcz26_1
          try clear hcz26_2
          try clear hcz28_0
          try clear hcz28_1
          try clear hcz28_2
          try clear hcz30_0
          try clear hcz30_1
          try clear hcz30_2
          try clear hcz31_0
          try clear hcz31_1
          try clear hcz31_2
          try clear hcz36_0
          try clear hcz36_1
          try clear hcz36_2
          try clear hcz50_0
          try clear hcz50_1
          try clear hcz50_2
          try clear hcz54_0
          try clear hcz54_1
          try clear hcz54_2
          try clear hcz55_0
          try clear hcz55_1
          try clear hcz55_2
          try clear hcz59_0
          try clear hcz59_1
          try clear hcz59_2
          try clear hcz60_0
          try clear hcz60_1
          try clear hcz60_2
          try clear hcz67_0
          try clear hcz67_1
          try clear hcz67_2
          try clear hcz70_0
          try clear hcz70_1
          try clear hcz70_2
          try clear hcz74_0
          try clear hcz74_1
          try clear hcz74_2
          try clear hcz78_0
          try clear hcz78_1
          try clear hcz78_2
          try clear hcz86_0
          try clear hcz86_1
          try clear hcz86_2
          try clear hcz91_0
          try clear hcz91_1
          try clear hcz91_2
          try clear hcz92_0
          try clear hcz92_1
          try clear hcz92_2
          try clear hcz93_0
          try clear hcz93_1
          try clear hcz93_2
          try clear hcz95_0
          try clear hcz95_1
          try clear hcz95_2
          try clear hfz100_0
          try clear hfz100_1
          try clear hfz100_2
          try clear hfz101_0
          try clear hfz101_1
          try clear hfz101_2
          try clear hfz102_0
          try clear hfz102_1
          try clear hfz102_2
          try clear hfz104_0
          try clear hfz104_1
          try clear hfz104_2
          try clear hfz109_0
          try clear hfz109_1
          try clear hfz109_2
          try clear hfz110_0
          try clear hfz110_1
          try clear hfz110_2
          try clear hfz111_0
          try clear hfz111_1
          try clear hfz111_2
          try clear hfz113_0
          try clear hfz113_1
          try clear hfz113_2
          try clear hfz118_0
          try clear hfz118_1
          try clear hfz118_2
          try clear hfz119_0
          try clear hfz119_1
          try clear hfz119_2
          try clear hfz120_0
          try clear hfz120_1
          try clear hfz120_2
          try clear hfz122_0
          try clear hfz122_1
          try clear hfz122_2
          try clear hfz127_0
          try clear hfz127_1
          try clear hfz127_2
          try clear hfz129_0
          try clear hfz129_1
          try clear hfz129_2
          try clear hfz134_0
          try clear hfz134_1
          try clear hfz134_2
          try clear hfz140_0
          try clear hfz140_1
          try clear hfz140_2
          try clear hfz144_0
          try clear hfz144_1
          try clear hfz144_2
          try clear hfz147_0
          try clear hfz147_1
          try clear hfz147_2
          try clear hfz14_0
          try clear hfz14_1
          try clear hfz14_2
          try clear hfz150_0
          try clear hfz150_1
          try clear hfz150_2
          try clear hfz152_0
          try clear hfz152_1
          try clear hfz152_2
          try clear hfz26_0
          try clear hfz26_1
          try clear hfz26_2
          try clear hfz28_0
          try clear hfz28_1
          try clear hfz28_2
          try clear hfz30_0
          try clear hfz30_1
          try clear hfz30_2
          try clear hfz31_0
          try clear hfz31_1
          try clear hfz31_2
          try clear hfz36_0
          try clear hfz36_1
          try clear hfz36_2
          try clear hfz50_0
          try clear hfz50_1
          try clear hfz50_2
          try clear hfz54_0
          try clear hfz54_1
          try clear hfz54_2
          try clear hfz55_0
          try clear hfz55_1
          try clear hfz55_2
          try clear hfz59_0
          try clear hfz59_1
          try clear hfz59_2
          try clear hfz60_0
          try clear hfz60_1
          try clear hfz60_2
          try clear hfz67_0
          try clear hfz67_1
          try clear hfz67_2
          try clear hfz70_0
          try clear hfz70_1
          try clear hfz70_2
          try clear hfz74_0
          try clear hfz74_1
          try clear hfz74_2
          try clear hfz78_0
          try clear hfz78_1
          try clear hfz78_2
          try clear hfz86_0
          try clear hfz86_1
          try clear hfz86_2
          try clear hfz91_0
          try clear hfz91_1
          try clear hfz91_2
          try clear hfz92_0
          try clear hfz92_1
          try clear hfz92_2
          try clear hfz93_0
          try clear hfz93_1
          try clear hfz93_2
          try clear hfz95_0
          try clear hfz95_1
          try clear hfz95_2
          try clear hx467_0
          try clear hx468_0
          try clear hx471_0
          try clear hx473_0
          try clear hx475_0
          try clear hx477_0
          try clear hx484_0
          try clear p2
          try clear p4
          try clear p46
          try clear p467
          try clear p468
          try clear p47
          try clear p471
          try clear p473
          try clear p475
          try clear p477
          try clear p48
          try clear p484
          try clear p6
          try clear p64
          try clear q4
          try clear q46
          try clear q467
          try clear q468
          try clear q47
          try clear q471
          try clear q473
          try clear q475
          try clear q477
          try clear q48
          try clear q484
          obtain ⟨kq, x222_135, rfl, HA, HJ135, BK466, BK494, HB⟩ := hcut
          cases kq with
          | zero => exact absurd HA.out (by simp [quoinlaw13_ObjectRuns.j7])
          | succ kj135 =>
           have H := HA.out
           clear HA
           simp only [quoinlaw13_ObjectRuns.j7] at H
           by_cases c153 : x222_135 = true
           ·subst c153
            have H1 : (some false) = some r := by rw [if_pos rfl] at H; exact H
            clear H
            have H := H1
            clear H1
            obtain rfl := Option.some.inj H
            go_wp2
            go_ret
            exact ⟨by first | rfl | (simp [errW_none, errW_some] <;> rfl) | (simp [*, errW_none, errW_some] <;> rfl), by repeat (first | (with_reducible first | exact HB.out | apply below_alloc | apply pw_below_drewN | apply below_drew1 | refine below_set ?_ GE466.out | refine below_set ?_ GE494.out) | exact HB.out)⟩
           ·replace c153 := Bool.eq_false_iff.mpr c153
            subst c153
            have H1 : (if t490 = (l0.length : Int) then (quoinlaw13_ObjectRuns.j8 kj135 l0 true t490 t491 t492) else (if 0 ≤ t490 then (if t490 < (l0.length : Int) then (quoinlaw13_ObjectRuns.j8 kj135 l0 ((rd l0 t490) == 10) t490 t491 t492) else (none)) else (none))) = some r := by rw [if_neg (show ¬ (false = true) by decide)] at H; exact H
            clear H
            have H := H1
            clear H1
            have HC154 := Aside0.mk H
            clear H
            go_upto_region 31 with (fail)
            go_cut [19] (fun v19 wc => ∃ (kq : Nat) (x19_153 : Bool), v19 = .bool x19_153 ∧ Aside0 (quoinlaw13_ObjectRuns.j8 kq l0 x19_153 t490 t491 t492 = some r) ∧ Aside0 (kq ≤ kj135) ∧ Aside0 (wc.heap[gb466]? = some (.cells #[.int .i64 t462, .int .i64 t463, .int .i64 t464] 29 (0, 0))) ∧ Aside0 (wc.heap[gb494]? = some (.cells #[.int .i64 t490, .int .i64 t491, .int .i64 t492] 29 (0, 0))) ∧ Aside0 (Below w.heap.size w wc))
            case first => as_aux_lemma =>
             have H := HC154.out
             clear HC154
             by_cases c155 : t490 = (l0.length : Int)
             ·rw [if_pos c155] at H
              have c155b0 : (t490 == (l0.length : Int)) = true := beq_iff_eq.mpr c155
              have c155b1 : (t490 != (l0.length : Int)) = false := bne_eq_false_iff_eq.mpr c155
              clear c155
              (first | rw [c155b0] | (simp only [i64_w, i32_w]; rw [c155b0]) | skip)
              have H' := Aside0.mk H
              clear H
              have hnb156 := NB494_466.out
              have hnc156 := NB466_494.out
              have hcz157_0 : wc.cell? ⟨gb494, 0, none⟩ = some (.int .i64 t490) := (blk_cell BK494.out 0).trans rfl
              have hcz157_1 : wc.cell? ⟨gb494, 1, none⟩ = some (.int .i64 t491) := (blk_cell BK494.out 1).trans rfl
              have hcz157_2 : wc.cell? ⟨gb494, 2, none⟩ = some (.int .i64 t492) := (blk_cell BK494.out 2).trans rfl
              have hfz157_0 := blk_frozen BK494.out 0
              have hfz157_1 := blk_frozen BK494.out 1
              have hfz157_2 := blk_frozen BK494.out 2
              go_wp2
              go_meet
              case rel => exact ⟨_, (true), (by first | rfl | (simp; done) | (simp [*]; done)), H', ⟨by have := HJ6.out; have := HJ10.out; have := HJ18.out; have := HJ135.out; first | omega | exact Nat.le_refl _⟩, ⟨by (with_reducible repeat (first | refine blk_drewN ?_ _ | refine blk_drew ?_ | refine blk_alloc ?_ _)); exact BK466.out⟩, ⟨by (with_reducible repeat (first | refine blk_drewN ?_ _ | refine blk_drew ?_ | refine blk_alloc ?_ _)); exact BK494.out⟩, ⟨by repeat (first | (with_reducible first | exact HB.out | apply below_alloc | apply pw_below_drewN | apply below_drew1 | refine below_set ?_ GE466.out | refine below_set ?_ GE494.out) | exact HB.out)⟩⟩
             ·rw [if_neg c155] at H
              have c155b0 : (t490 == (l0.length : Int)) = false := beq_eq_false_iff_ne.mpr c155
              have c155b1 : (t490 != (l0.length : Int)) = true := bne_iff_ne.mpr c155
              (first | rw [c155b0] | (simp only [i64_w, i32_w]; rw [c155b0]) | skip)
              by_cases c158 : 0 ≤ t490
              ·rw [if_pos c158] at H
               have c158b0 : decide (0 ≤ t490) = true := decide_eq_true c158
               clear c158
               by_cases c159 : t490 < (l0.length : Int)
               ·rw [if_pos c159] at H
                have c159b0 : decide (t490 < (l0.length : Int)) = true := decide_eq_true c159
                clear c159
                have H' := Aside0.mk H
                clear H
                have hnb160 := NB494_466.out
                have hnc160 := NB466_494.out
                have hcz161_0 : wc.cell? ⟨gb494, 0, none⟩ = some (.int .i64 t490) := (blk_cell BK494.out 0).trans rfl
                have hcz161_1 : wc.cell? ⟨gb494, 1, none⟩ = some (.int .i64 t491) := (blk_cell BK494.out 1).trans rfl
                have hcz161_2 : wc.cell? ⟨gb494, 2, none⟩ = some (.int .i64 t492) := (blk_cell BK494.out 2).trans rfl
                have hfz161_0 := blk_frozen BK494.out 0
                have hfz161_1 := blk_frozen BK494.out 1
                have hfz161_2 := blk_frozen BK494.out 2
                have p495 : 0 ≤ (t490 : Int) := of_decide_eq_true (by first | (with_reducible assumption) | assumption)
                have q495 : t490 < (l0.length : Int) := of_decide_eq_true (by first | (with_reducible assumption) | assumption)
                obtain ⟨ad495, e495, hx495_0⟩ := Kd.at_int HR0.out t490 p495 q495
                cases e495
                replace hx495_0 := (HB.out.cell (World.block_lt_of_cell? w _ hx495_0)).trans hx495_0
                replace p495 := eq_true p495
                replace q495 := eq_true q495
                go_wp2
                go_meet
                case rel => exact ⟨_, (((rd l0 t490) == 10)), (by first | rfl | (simp; done) | (simp [*]; done)), H', ⟨by have := HJ6.out; have := HJ10.out; have := HJ18.out; have := HJ135.out; first | omega | exact Nat.le_refl _⟩, ⟨by (with_reducible repeat (first | refine blk_drewN ?_ _ | refine blk_drew ?_ | refine blk_alloc ?_ _)); exact BK466.out⟩, ⟨by (with_reducible repeat (first | refine blk_drewN ?_ _ | refine blk_drew ?_ | refine blk_alloc ?_ _)); exact BK494.out⟩, ⟨by repeat (first | (with_reducible first | exact HB.out | apply below_alloc | apply pw_below_drewN | apply below_drew1 | refine below_set ?_ GE466.out | refine below_set ?_ GE494.out) | exact HB.out)⟩⟩
               ·rw [if_neg c159] at H
                exact absurd H (by simp)
              ·rw [if_neg c158] at H
               exact absurd H (by simp)
            case rest => as_aux_lemma =>
             clear HC154
             try clear c1
             try clear c2
             try clear p2
             try clear c3
             try clear c4
             try clear p4
             try clear q4
             try clear hx4
             try clear c5
             try clear c6
             try clear p6
             try clear c7
             try clear c8
             try clear c9
             try clear c10
             try clear c11
             try clear c12
             try clear c13
             try clear c14
             try clear c15
             try clear c15b0
             try clear c15b1
             try clear c16
             try clear c16b0
             try clear c17
             try clear c17b0
             try clear c18
             try clear c20
             try clear c20b0
             try clear c20b1
             try clear c21
             try clear c21b0
             try clear c22
             try clear c22b0
             try clear c25
             try clear c25b0
             try clear c27
             try clear c27b0
             try clear c29
             try clear c29b0
             try clear c32
             try clear c33
             try clear c33b0
             try clear c33b1
             try clear c34
             try clear c34b0
             try clear c34b1
             try clear c35
             try clear c35b0
             try clear c35b1
             try clear c38
             try clear c38b0
             try clear c39
             try clear c39b0
             try clear c40
             try clear c40b0
             try clear c42
             try clear c42b0
             try clear c42b1
             try clear c44
             try clear c44b0
             try clear c46
             try clear c46b0
             try clear p46
             try clear q46
             try clear hx46
             try clear c47
             try clear c47b0
             try clear p47
             try clear q47
             try clear hx47
             try clear p48
             try clear q48
             try clear hx48
             try clear c49
             try clear c49b0
             try clear c49b1
             try clear p49
             try clear q49
             try clear hx49
             try clear c51
             try clear c51b0
             try clear c52
             try clear c52b0
             try clear c56
             try clear c56b0
             try clear c57
             try clear c57b0
             try clear c61
             try clear p64
             try clear c66
             try clear c68
             try clear c68b0
             try clear c68b1
             try clear c69
             try clear c71
             try clear c71b0
             try clear c72
             try clear c72b0
             try clear c73
             try clear c75
             try clear c76
             try clear c76b0
             try clear c76b1
             try clear c77
             try clear c80
             try clear c80b0
             try clear c80b1
             try clear c81
             try clear c81b0
             try clear c81b1
             try clear c82
             try clear c82b0
             try clear c82b1
             try clear c83
             try clear c83b0
             try clear c83b1
             try clear c84
             try clear c84b0
             try clear c84b1
             try clear c85
             try clear c89
             try clear c90
             try clear c94
             try clear c98
             try clear c99
             try clear c103
             try clear c107
             try clear c108
             try clear c112
             try clear c116
             try clear c117
             try clear c121
             try clear c125
             try clear c126
             try clear c128
             try clear c132
             try clear c133
             try clear c139
             try clear c141
             try clear c141b0
             try clear c141b1
             try clear c142
             try clear c142b0
             try clear c143
             try clear c145
             try clear c145b0
             try clear c146
             try clear c148
             try clear c148b0
             try clear c149
             try clear c151
             try clear c153
             try clear c155
             try clear c155b0
             try clear c155b1
             try clear c156
             try clear c158
             try clear c158b0
             try clear c159
             try clear c159b0
             try clear c160
             try clear hcz100_0
             try clear hcz100_1
             try clear hcz100_2
             try clear hcz101_0
             try clear hcz101_1
             try clear hcz101_2
             try clear hcz102_0
             try clear hcz102_1
             try clear hcz102_2
             try clear hcz104_0
             try clear hcz104_1
             try clear hcz104_2
             try clear hcz109_0
             try clear hcz109_1
             try clear hcz109_2
             try clear hcz110_0
             try clear hcz110_1
             try clear hcz110_2
             try clear hcz111_0
             try clear hcz111_1
             try clear hcz111_2
             try clear hcz113_0
             try clear hcz113_1
             try clear hcz113_2
             try clear hcz118_0
             try clear hcz118_1
             try clear hcz118_2
             try clear hcz119_0
             try clear hcz119_1
             try clear hcz119_2
             try clear hcz120_0
             try clear hcz120_1
             try clear hcz120_2
             try clear hcz122_0
             try clear hcz122_1
             try clear hcz122_2
             try clear hcz127_0
             try clear hcz127_1
             try clear hcz127_2
             try clear hcz129_0
             try clear hcz129_1
             try clear hcz129_2
             try clear hcz134_0
             try clear hcz134_1
             try clear hcz134_2
             try clear hcz140_0
             try clear hcz140_1
             try clear hcz140_2
             try clear hcz144_0
             try clear hcz144_1
             try clear hcz144_2
             try clear hcz147_0
             try clear hcz147_1
             try clear hcz147_2
             try clear hcz14_0
             try clear hcz14_1
             try clear hcz14_2
             try clear hcz150_0
             try clear hcz150_1
             try clear hcz150_2
             try clear hcz152_0
             try clear hcz152_1
             try clear hcz152_2
             try clear hcz157_0
             try clear hcz157_1
             try clear hcz157_2
             try clear hcz161_0
             try clear hcz161_1
             try clear hcz161_2
             try clear hcz26_0
             try clear hcz26_1
             try clear hcz26_2
             try clear hcz28_0
             try clear hcz28_1
             try clear hcz28_2
             try clear hcz30_0
             try clear hcz30_1
             try clear hcz30_2
             try clear hcz31_0
             try clear hcz31_1
             try clear hcz31_2
             try clear hcz36_0
             try clear hcz36_1
             try clear hcz36_2
             try clear hcz50_0
             try clear hcz50_1
             try clear hcz50_2
             try clear hcz54_0
             try clear hcz54_1
             try clear hcz54_2
             try clear hcz55_0
             try clear hcz55_1
             try clear hcz55_2
             try clear hcz59_0
             try clear hcz59_1
             try clear hcz59_2
             try clear hcz60_0
             try clear hcz60_1
             try clear hcz60_2
             try clear hcz67_0
             try clear hcz67_1
             try clear hcz67_2
             try clear hcz70_0
             try clear hcz70_1
             try clear hcz70_2
             try clear hcz74_0
             try clear hcz74_1
             try clear hcz74_2
             try clear hcz78_0
             try clear hcz78_1
             try clear hcz78_2
             try clear hcz86_0
             try clear hcz86_1
             try clear hcz86_2
             try clear hcz91_0
             try clear hcz91_1
             try clear hcz91_2
             try clear hcz92_0
             try clear hcz92_1
             try clear hcz92_2
             try clear hcz93_0
             try clear hcz93_1
             try clear hcz93_2
             try clear hcz95_0
             try clear hcz95_1
             try clear hcz95_2
             try clear hfz100_0
             try clear hfz100_1
             try clear hfz100_2
             try clear hfz101_0
             try clear hfz101_1
             try clear hfz101_2
             try clear hfz102_0
             try clear hfz102_1
             try clear hfz102_2
             try clear hfz104_0
             try clear hfz104_1
             try clear hfz104_2
             try clear hfz109_0
             try clear hfz109_1
             try clear hfz109_2
             try clear hfz110_0
             try clear hfz110_1
             try clear hfz110_2
             try clear hfz111_0
             try clear hfz111_1
             try clear hfz111_2
             try clear hfz113_0
             try clear hfz113_1
             try clear hfz113_2
             try clear hfz118_0
             try clear hfz118_1
             try clear hfz118_2
             try clear hfz119_0
             try clear hfz119_1
             try clear hfz119_2
             try clear hfz120_0
             try clear hfz120_1
             try clear hfz120_2
             try clear hfz122_0
             try clear hfz122_1
             try clear hfz122_2
             try clear hfz127_0
             try clear hfz127_1
             try clear hfz127_2
             try clear hfz129_0
             try clear hfz129_1
             try clear hfz129_2
             try clear hfz134_0
             try clear hfz134_1
             try clear hfz134_2
             try clear hfz140_0
             try clear hfz140_1
             try clear hfz140_2
             try clear hfz144_0
             try clear hfz144_1
             try clear hfz144_2
             try clear hfz147_0
             try clear hfz147_1
             try clear hfz147_2
             try clear hfz14_0
             try clear hfz14_1
             try clear hfz14_2
             try clear hfz150_0
             try clear hfz150_1
             try clear hfz150_2
             try clear hfz152_0
             try clear hfz152_1
             try clear hfz152_2
             try clear hfz157_0
             try clear hfz157_1
             try clear hfz157_2
             try clear hfz161_0
             try clear hfz161_1
             try clear hfz161_2
             try clear hfz26_0
             try clear hfz26_1
             try clear hfz26_2
             try clear hfz28_0
             try clear hfz28_1
             try clear hfz28_2
             try clear hfz30_0
             try clear hfz30_1
             try clear hfz30_2
             try clear hfz31_0
             try clear hfz31_1
             try clear hfz31_2
             try clear hfz36_0
             try clear hfz36_1
             try clear hfz36_2
             try clear hfz50_0
             try clear hfz50_1
             try clear hfz50_2
             try clear hfz54_0
             try clear hfz54_1
             try clear hfz54_2
             try clear hfz55_0
             try clear hfz55_1
             try clear hfz55_2
             try clear hfz59_0
             try clear hfz59_1
             try clear hfz59_2
             try clear hfz60_0
             try clear hfz60_1
             try clear hfz60_2
             try clear hfz67_0
             try clear hfz67_1
             try clear hfz67_2
             try clear hfz70_0
             try clear hfz70_1
             try clear hfz70_2
             try clear hfz74_0
             try clear hfz74_1
             try clear hfz74_2
             try clear hfz78_0
             try clear hfz78_1
             try clear hfz78_2
             try clear hfz86_0
             try clear hfz86_1
             try clear hfz86_2
             try clear hfz91_0
             try clear hfz91_1
             try clear hfz91_2
             try clear hfz92_0
             try clear hfz92_1
             try clear hfz92_2
             try clear hfz93_0
             try clear hfz93_1
             try clear hfz93_2
             try clear hfz95_0
             try clear hfz95_1
             try clear hfz95_2
             try clear hx467_0
             try clear hx468_0
             try clear hx471_0
             try clear hx473_0
             try clear hx475_0
             try clear hx477_0
             try clear hx484_0
             try clear hx495_0
             try clear p2
             try clear p4
             try clear p46
             try clear p467
             try clear p468
             try clear p47
             try clear p471
             try clear p473
             try clear p475
             try clear p477
             try clear p48
             try clear p484
             try clear p495
             try clear p6
             try clear p64
             try clear q4
             try clear q46
             try clear q467
             try clear q468
             try clear q47
             try clear q471
             try clear q473
             try clear q475
             try clear q477
             try clear q48
             try clear q484
             try clear q495
             obtain ⟨kq, x19_153, rfl, HA, HJ153, BK466, BK494, HB⟩ := hcut
             cases kq with
             | zero => exact absurd HA.out (by simp [quoinlaw13_ObjectRuns.j8])
             | succ kj153 =>
              have H := HA.out
              clear HA
              simp only [quoinlaw13_ObjectRuns.j8] at H
              have H' := Aside0.mk H
              clear H
              have hnb162 := NB494_466.out
              have hnc162 := NB466_494.out
              have hcz163_0 : wc.cell? ⟨gb494, 0, none⟩ = some (.int .i64 t490) := (blk_cell BK494.out 0).trans rfl
              have hcz163_1 : wc.cell? ⟨gb494, 1, none⟩ = some (.int .i64 t491) := (blk_cell BK494.out 1).trans rfl
              have hcz163_2 : wc.cell? ⟨gb494, 2, none⟩ = some (.int .i64 t492) := (blk_cell BK494.out 2).trans rfl
              have hfz163_0 := blk_frozen BK494.out 0
              have hfz163_1 := blk_frozen BK494.out 1
              have hfz163_2 := blk_frozen BK494.out 2
              go_wp2
              go_loopg [20] kj153 (fun kq v20 w' => ∃ (x20_6 : Int), v20 = .int .i64 x20_6 ∧ Aside0 (quoinlaw13_ObjectRuns.l1 kq l0 x19_153 x20_6 t490 t491 t492 = some r) ∧ Aside0 (kq ≤ kj153) ∧ Aside0 (w'.heap[gb466]? = some (.cells #[.int .i64 t462, .int .i64 t463, .int .i64 t464] 29 (0, 0))) ∧ Aside0 (w'.heap[gb494]? = some (.cells #[.int .i64 t490, .int .i64 t491, .int .i64 t492] 29 (0, 0))) ∧ Aside0 (Below w.heap.size w w'))
              case atStart => exact ⟨(t490), (by first | rfl | (simp; done) | (simp [*]; done)), H', ⟨Nat.le_refl _⟩, ⟨by (with_reducible repeat (first | refine blk_drewN ?_ _ | refine blk_drew ?_ | refine blk_alloc ?_ _)); exact BK466.out⟩, ⟨by (with_reducible repeat (first | refine blk_drewN ?_ _ | refine blk_drew ?_ | refine blk_alloc ?_ _)); exact BK494.out⟩, ⟨by repeat (first | (with_reducible first | exact HB.out | apply below_alloc | apply pw_below_drewN | apply below_drew1 | refine below_set ?_ GE466.out | refine below_set ?_ GE494.out) | exact HB.out)⟩⟩
              case round =>
               clear H'
               try clear c1
               try clear c2
               try clear p2
               try clear c3
               try clear c4
               try clear p4
               try clear q4
               try clear hx4
               try clear c5
               try clear c6
               try clear p6
               try clear c7
               try clear c8
               try clear c9
               try clear c10
               try clear c11
               try clear c12
               try clear c13
               try clear c14
               try clear c15
               try clear c15b0
               try clear c15b1
               try clear c16
               try clear c16b0
               try clear c17
               try clear c17b0
               try clear c18
               try clear c20
               try clear c20b0
               try clear c20b1
               try clear c21
               try clear c21b0
               try clear c22
               try clear c22b0
               try clear c25
               try clear c25b0
               try clear c27
               try clear c27b0
               try clear c29
               try clear c29b0
               try clear c32
               try clear c33
               try clear c33b0
               try clear c33b1
               try clear c34
               try clear c34b0
               try clear c34b1
               try clear c35
               try clear c35b0
               try clear c35b1
               try clear c38
               try clear c38b0
               try clear c39
               try clear c39b0
               try clear c40
               try clear c40b0
               try clear c42
               try clear c42b0
               try clear c42b1
               try clear c44
               try clear c44b0
               try clear c46
               try clear c46b0
               try clear p46
               try clear q46
               try clear hx46
               try clear c47
               try clear c47b0
               try clear p47
               try clear q47
               try clear hx47
               try clear p48
               try clear q48
               try clear hx48
               try clear c49
               try clear c49b0
               try clear c49b1
               try clear p49
               try clear q49
               try clear hx49
               try clear c51
               try clear c51b0
               try clear c52
               try clear c52b0
               try clear c56
               try clear c56b0
               try clear c57
               try clear c57b0
               try clear c61
               try clear p64
               try clear c66
               try clear c68
               try clear c68b0
               try clear c68b1
               try clear c69
               try clear c71
               try clear c71b0
               try clear c72
               try clear c72b0
               try clear c73
               try clear c75
               try clear c76
               try clear c76b0
               try clear c76b1
               try clear c77
               try clear c80
               try clear c80b0
               try clear c80b1
               try clear c81
               try clear c81b0
               try clear c81b1
               try clear c82
               try clear c82b0
               try clear c82b1
               try clear c83
               try clear c83b0
               try clear c83b1
               try clear c84
               try clear c84b0
               try clear c84b1
               try clear c85
               try clear c89
               try clear c90
               try clear c94
               try clear c98
               try clear c99
               try clear c103
               try clear c107
               try clear c108
               try clear c112
               try clear c116
               try clear c117
               try clear c121
               try clear c125
               try clear c126
               try clear c128
               try clear c132
               try clear c133
               try clear c139
               try clear c141
               try clear c141b0
               try clear c141b1
               try clear c142
               try clear c142b0
               try clear c143
               try clear c145
               try clear c145b0
               try clear c146
               try clear c148
               try clear c148b0
               try clear c149
               try clear c151
               try clear c153
               try clear c155
               try clear c155b0
               try clear c155b1
               try clear c156
               try clear c158
               try clear c158b0
               try clear c159
               try clear c159b0
               try clear c160
               try clear c162
               try clear hcz100_0
               try clear hcz100_1
               try clear hcz100_2
               try clear hcz101_0
               try clear hcz101_1
               try clear hcz101_2
               try clear hcz102_0
               try clear hcz102_1
               try clear hcz102_2
               try clear hcz104_0
               try clear hcz104_1
               try clear hcz104_2
               try clear hcz109_0
               try clear hcz109_1
               try clear hcz109_2
               try clear hcz110_0
               try clear hcz110_1
               try clear hcz110_2
               try clear hcz111_0
               try clear hcz111_1
               try clear hcz111_2
               try clear hcz113_0
               try clear hcz113_1
               try clear hcz113_2
               try clear hcz118_0
               try clear hcz118_1
               try clear hcz118_2
               try clear hcz119_0
               try clear hcz119_1
               try clear hcz119_2
               try clear hcz120_0
               try clear hcz120_1
               try clear hcz120_2
               try clear hcz122_0
               try clear hcz122_1
               try clear hcz122_2
               try clear hcz127_0
               try clear hcz127_1
               try clear hcz127_2
               try clear hcz129_0
               try clear hcz129_1
               try clear hcz129_2
               try clear hcz134_0
               try clear hcz134_1
               try clear hcz134_2
               try clear hcz140_0
               try clear hcz140_1
               try clear hcz140_2
               try clear hcz144_0
               try clear hcz144_1
               try clear hcz144_2
               try clear hcz147_0
               try clear hcz147_1
               try clear hcz147_2
               try clear hcz14_0
               try clear hcz14_1
               try clear hcz14_2
               try clear hcz150_0
               try clear hcz150_1
               try clear hcz150_2
               try clear hcz152_0
               try clear hcz152_1
               try clear hcz152_2
               try clear hcz157_0
               try clear hcz157_1
               try clear hcz157_2
               try clear hcz161_0
               try clear hcz161_1
               try clear hcz161_2
               try clear hcz163_0
               try clear hcz163_1
               try clear hcz163_2
               try clear hcz26_0
               try clear hcz26_1
               try clear hcz26_2
               try clear hcz28_0
               try clear hcz28_1
               try clear hcz28_2
               try clear hcz30_0
               try clear hcz30_1
               try clear hcz30_2
               try clear hcz31_0
               try clear hcz31_1
               try clear hcz31_2
               try clear hcz36_0
               try clear hcz36_1
               try clear hcz36_2
               try clear hcz50_0
               try clear hcz50_1
               try clear hcz50_2
               try clear hcz54_0
               try clear hcz54_1
               try clear hcz54_2
               try clear hcz55_0
               try clear hcz55_1
               try clear hcz55_2
               try clear hcz59_0
               try clear hcz59_1
               try clear hcz59_2
               try clear hcz60_0
               try clear hcz60_1
               try clear hcz60_2
               try clear hcz67_0
               try clear hcz67_1
               try clear hcz67_2
               try clear hcz70_0
               try clear hcz70_1
               try clear hcz70_2
               try clear hcz74_0
               try clear hcz74_1
               try clear hcz74_2
               try clear hcz78_0
               try clear hcz78_1
               try clear hcz78_2
               try clear hcz86_0
               try clear hcz86_1
               try clear hcz86_2
               try clear hcz91_0
               try clear hcz91_1
               try clear hcz91_2
               try clear hcz92_0
               try clear hcz92_1
               try clear hcz92_2
               try clear hcz93_0
               try clear hcz93_1
               try clear hcz93_2
               try clear hcz95_0
               try clear hcz95_1
               try clear hcz95_2
               try clear hfz100_0
               try clear hfz100_1
               try clear hfz100_2
               try clear hfz101_0
               try clear hfz101_1
               try clear hfz101_2
               try clear hfz102_0
               try clear hfz102_1
               try clear hfz102_2
               try clear hfz104_0
               try clear hfz104_1
               try clear hfz104_2
               try clear hfz109_0
               try clear hfz109_1
               try clear hfz109_2
               try clear hfz110_0
               try clear hfz110_1
               try clear hfz110_2
               try clear hfz111_0
               try clear hfz111_1
               try clear hfz111_2
               try clear hfz113_0
               try clear hfz113_1
               try clear hfz113_2
               try clear hfz118_0
               try clear hfz118_1
               try clear hfz118_2
               try clear hfz119_0
               try clear hfz119_1
               try clear hfz119_2
               try clear hfz120_0
               try clear hfz120_1
               try clear hfz120_2
               try clear hfz122_0
               try clear hfz122_1
               try clear hfz122_2
               try clear hfz127_0
               try clear hfz127_1
               try clear hfz127_2
               try clear hfz129_0
               try clear hfz129_1
               try clear hfz129_2
               try clear hfz134_0
               try clear hfz134_1
               try clear hfz134_2
               try clear hfz140_0
               try clear hfz140_1
               try clear hfz140_2
               try clear hfz144_0
               try clear hfz144_1
               try clear hfz144_2
               try clear hfz147_0
               try clear hfz147_1
               try clear hfz147_2
               try clear hfz14_0
               try clear hfz14_1
               try clear hfz14_2
               try clear hfz150_0
               try clear hfz150_1
               try clear hfz150_2
               try clear hfz152_0
               try clear hfz152_1
               try clear hfz152_2
               try clear hfz157_0
               try clear hfz157_1
               try clear hfz157_2
               try clear hfz161_0
               try clear hfz161_1
               try clear hfz161_2
               try clear hfz163_0
               try clear hfz163_1
               try clear hfz163_2
               try clear hfz26_0
               try clear hfz26_1
               try clear hfz26_2
               try clear hfz28_0
               try clear hfz28_1
               try clear hfz28_2
               try clear hfz30_0
               try clear hfz30_1
               try clear hfz30_2
               try clear hfz31_0
               try clear hfz31_1
               try clear hfz31_2
               try clear hfz36_0
               try clear hfz36_1
               try clear hfz36_2
               try clear hfz50_0
               try clear hfz50_1
               try clear hfz50_2
               try clear hfz54_0
               try clear hfz54_1
               try clear hfz54_2
               try clear hfz55_0
               try clear hfz55_1
               try clear hfz55_2
               try clear hfz59_0
               try clear hfz59_1
               try clear hfz59_2
               try clear hfz60_0
               try clear hfz60_1
               try clear hfz60_2
               try clear hfz67_0
               try clear hfz67_1
               try clear hfz67_2
               try clear hfz70_0
               try clear hfz70_1
               try clear hfz70_2
               try clear hfz74_0
               try clear hfz74_1
               try clear hfz74_2
               try clear hfz78_0
               try clear hfz78_1
               try clear hfz78_2
               try clear hfz86_0
               try clear hfz86_1
               try clear hfz86_2
               try clear hfz91_0
               try clear hfz91_1
               try clear hfz91_2
               try clear hfz92_0
               try clear hfz92_1
               try clear hfz92_2
               try clear hfz93_0
               try clear hfz93_1
               try clear hfz93_2
               try clear hfz95_0
               try clear hfz95_1
               try clear hfz95_2
               try clear hx467_0
               try clear hx468_0
               try clear hx471_0
               try clear hx473_0
               try clear hx475_0
               try clear hx477_0
               try clear hx484_0
               try clear hx495_0
               try clear p2
               try clear p4
               try clear p46
               try clear p467
               try clear p468
               try clear p47
               try clear p471
               try clear p473
               try clear p475
               try clear p477
               try clear p48
               try clear p484
               try clear p49
               try clear p495
               try clear p6
               try clear p64
               try clear q4
               try clear q46
               try clear q467
               try clear q468
               try clear q47
               try clear q471
               try clear q473
               try clear q475
               try clear q477
               try clear q48
               try clear q484
               try clear q49
               try clear q495
               obtain ⟨x20_6, rfl, HA, HK6, BK466, BK494, HB⟩ := hrel
               cases gk with
               | zero => exact absurd HA.out (by simp [quoinlaw13_ObjectRuns.l1])
               | succ k6 =>
                have H := HA.out
                clear HA
                simp only [quoinlaw13_ObjectRuns.l1] at H
                by_cases c164 : x20_6 ≤ t491
                ·rw [if_pos c164] at H
                 have c164b0 : decide (x20_6 ≤ t491) = true := decide_eq_true c164
                 clear c164
                 by_cases c165 : x20_6 = 0
                 ·rw [if_pos c165] at H
                  have c165b0 : (x20_6 == 0) = true := beq_iff_eq.mpr c165
                  have c165b1 : (x20_6 != 0) = false := bne_eq_false_iff_eq.mpr c165
                  clear c165
                  by_cases c166 : x20_6 = (l0.length : Int)
                  ·rw [if_pos c166] at H
                   have c166b0 : (x20_6 == (l0.length : Int)) = true := beq_iff_eq.mpr c166
                   have c166b1 : (x20_6 != (l0.length : Int)) = false := bne_eq_false_iff_eq.mpr c166
                   clear c166
                   by_cases c167 : (true != x19_153) = true
                   ·rw [if_pos c167] at H
                    have c167b0 : (true != x19_153) = true := c167
                    (try (have c167b1 : decide (true = x19_153) = false := by simpa using c167))
                    (try (have c167b2 : (true == x19_153) = false := by simpa using c167))
                    (try (have c167b3 : ¬ (true = x19_153) := by simpa using c167))
                    clear c167
                    obtain rfl := Option.some.inj H
                    have hnb168 := NB494_466.out
                    have hnc168 := NB466_494.out
                    have hcz169_0 : wr.cell? ⟨gb494, 0, none⟩ = some (.int .i64 t490) := (blk_cell BK494.out 0).trans rfl
                    have hcz169_1 : wr.cell? ⟨gb494, 1, none⟩ = some (.int .i64 t491) := (blk_cell BK494.out 1).trans rfl
                    have hcz169_2 : wr.cell? ⟨gb494, 2, none⟩ = some (.int .i64 t492) := (blk_cell BK494.out 2).trans rfl
                    have hfz169_0 := blk_frozen BK494.out 0
                    have hfz169_1 := blk_frozen BK494.out 1
                    have hfz169_2 := blk_frozen BK494.out 2
                    go_wp2
                    go_ret
                    exact ⟨by first | rfl | (simp [errW_none, errW_some] <;> rfl) | (simp [*, errW_none, errW_some] <;> rfl), by repeat (first | (with_reducible first | exact HB.out | apply below_alloc | apply pw_below_drewN | apply below_drew1 | refine below_set ?_ GE466.out | refine below_set ?_ GE494.out) | exact HB.out)⟩
                   ·rw [if_neg c167] at H
                    have c167b0 : (true != x19_153) = false := by simpa using c167
                    (try (have c167b1 : decide (true = x19_153) = true := by simpa using c167))
                    (try (have c167b2 : (true == x19_153) = true := by simpa using c167))
                    clear c167
                    have H' := Aside0.mk H
                    clear H
                    have hnb170 := NB494_466.out
                    have hnc170 := NB466_494.out
                    have hcz171_0 : wr.cell? ⟨gb494, 0, none⟩ = some (.int .i64 t490) := (blk_cell BK494.out 0).trans rfl
                    have hcz171_1 : wr.cell? ⟨gb494, 1, none⟩ = some (.int .i64 t491) := (blk_cell BK494.out 1).trans rfl
                    have hcz171_2 : wr.cell? ⟨gb494, 2, none⟩ = some (.int .i64 t492) := (blk_cell BK494.out 2).trans rfl
                    have hfz171_0 := blk_frozen BK494.out 0
                    have hfz171_1 := blk_frozen BK494.out 1
                    have hfz171_2 := blk_frozen BK494.out 2
                    go_wp2
                    go_roundg k6
                    case measure => have := HJ6.out; have := HJ10.out; have := HJ18.out; have := HJ135.out; have := HJ153.out; have := HK6.out; omega
                    case rel => exact ⟨(wrap64 (x20_6 + 1)), (by first | rfl | (simp; done) | (simp [*]; done)), H', ⟨by have := HJ6.out; have := HJ10.out; have := HJ18.out; have := HJ135.out; have := HJ153.out; have := HK6.out; omega⟩, ⟨by (with_reducible repeat (first | refine blk_drewN ?_ _ | refine blk_drew ?_ | refine blk_alloc ?_ _)); exact BK466.out⟩, ⟨by (with_reducible repeat (first | refine blk_drewN ?_ _ | refine blk_drew ?_ | refine blk_alloc ?_ _)); exact BK494.out⟩, ⟨by repeat (first | (with_reducible first | exact HB.out | apply below_alloc | apply pw_below_drewN | apply below_drew1 | refine below_set ?_ GE466.out | refine below_set ?_ GE494.out) | exact HB.out)⟩⟩
                  ·rw [if_neg c166] at H
                   have c166b0 : (x20_6 == (l0.length : Int)) = false := beq_eq_false_iff_ne.mpr c166
                   have c166b1 : (x20_6 != (l0.length : Int)) = true := bne_iff_ne.mpr c166
                   by_cases c172 : 0 ≤ x20_6
                   ·rw [if_pos c172] at H
                    have c172b0 : decide (0 ≤ x20_6) = true := decide_eq_true c172
                    clear c172
                    by_cases c173 : x20_6 < (l0.length : Int)
                    ·rw [if_pos c173] at H
                     have c173b0 : decide (x20_6 < (l0.length : Int)) = true := decide_eq_true c173
                     clear c173
                     by_cases c174 : (((rd l0 x20_6) == 10) != x19_153) = true
                     ·rw [if_pos c174] at H
                      have c174b0 : (((rd l0 x20_6) == 10) != x19_153) = true := c174
                      (try (have c174b1 : decide (((rd l0 x20_6) == 10) = x19_153) = false := by simpa using c174))
                      (try (have c174b2 : (((rd l0 x20_6) == 10) == x19_153) = false := by simpa using c174))
                      (try (have c174b3 : ¬ (((rd l0 x20_6) == 10) = x19_153) := by simpa using c174))
                      clear c174
                      obtain rfl := Option.some.inj H
                      have hnb175 := NB494_466.out
                      have hnc175 := NB466_494.out
                      have hcz176_0 : wr.cell? ⟨gb494, 0, none⟩ = some (.int .i64 t490) := (blk_cell BK494.out 0).trans rfl
                      have hcz176_1 : wr.cell? ⟨gb494, 1, none⟩ = some (.int .i64 t491) := (blk_cell BK494.out 1).trans rfl
                      have hcz176_2 : wr.cell? ⟨gb494, 2, none⟩ = some (.int .i64 t492) := (blk_cell BK494.out 2).trans rfl
                      have hfz176_0 := blk_frozen BK494.out 0
                      have hfz176_1 := blk_frozen BK494.out 1
                      have hfz176_2 := blk_frozen BK494.out 2
                      have p496 : 0 ≤ (x20_6 : Int) := of_decide_eq_true (by first | (with_reducible assumption) | assumption)
                      have q496 : x20_6 < (l0.length : Int) := of_decide_eq_true (by first | (with_reducible assumption) | assumption)
                      obtain ⟨ad496, e496, hx496_0⟩ := Kd.at_int HR0.out x20_6 p496 q496
                      cases e496
                      replace hx496_0 := (HB.out.cell (World.block_lt_of_cell? w _ hx496_0)).trans hx496_0
                      replace p496 := eq_true p496
                      replace q496 := eq_true q496
                      go_wp2
                      go_ret
                      exact ⟨by first | rfl | (simp [errW_none, errW_some] <;> rfl) | (simp [*, errW_none, errW_some] <;> rfl), by repeat (first | (with_reducible first | exact HB.out | apply below_alloc | apply pw_below_drewN | apply below_drew1 | refine below_set ?_ GE466.out | refine below_set ?_ GE494.out) | exact HB.out)⟩
                     ·rw [if_neg c174] at H
                      have c174b0 : (((rd l0 x20_6) == 10) != x19_153) = false := by simpa using c174
                      (try (have c174b1 : decide (((rd l0 x20_6) == 10) = x19_153) = true := by simpa using c174))
                      (try (have c174b2 : (((rd l0 x20_6) == 10) == x19_153) = true := by simpa using c174))
                      clear c174
                      have H' := Aside0.mk H
                      clear H
                      have hnb177 := NB494_466.out
                      have hnc177 := NB466_494.out
                      have hcz178_0 : wr.cell? ⟨gb494, 0, none⟩ = some (.int .i64 t490) := (blk_cell BK494.out 0).trans rfl
                      have hcz178_1 : wr.cell? ⟨gb494, 1, none⟩ = some (.int .i64 t491) := (blk_cell BK494.out 1).trans rfl
                      have hcz178_2 : wr.cell? ⟨gb494, 2, none⟩ = some (.int .i64 t492) := (blk_cell BK494.out 2).trans rfl
                      have hfz178_0 := blk_frozen BK494.out 0
                      have hfz178_1 := blk_frozen BK494.out 1
                      have hfz178_2 := blk_frozen BK494.out 2
                      have p496 : 0 ≤ (x20_6 : Int) := of_decide_eq_true (by first | (with_reducible assumption) | assumption)
                      have q496 : x20_6 < (l0.length : Int) := of_decide_eq_true (by first | (with_reducible assumption) | assumption)
                      obtain ⟨ad496, e496, hx496_0⟩ := Kd.at_int HR0.out x20_6 p496 q496
                      cases e496
                      replace hx496_0 := (HB.out.cell (World.block_lt_of_cell? w _ hx496_0)).trans hx496_0
                      replace p496 := eq_true p496
                      replace q496 := eq_true q496
                      go_wp2
                      go_roundg k6
                      case measure => have := HJ6.out; have := HJ10.out; have := HJ18.out; have := HJ135.out; have := HJ153.out; have := HK6.out; omega
                      case rel => exact ⟨(wrap64 (x20_6 + 1)), (by first | rfl | (simp; done) | (simp [*]; done)), H', ⟨by have := HJ6.out; have := HJ10.out; have := HJ18.out; have := HJ135.out; have := HJ153.out; have := HK6.out; omega⟩, ⟨by (with_reducible repeat (first | refine blk_drewN ?_ _ | refine blk_drew ?_ | refine blk_alloc ?_ _)); exact BK466.out⟩, ⟨by (with_reducible repeat (first | refine blk_drewN ?_ _ | refine blk_drew ?_ | refine blk_alloc ?_ _)); exact BK494.out⟩, ⟨by repeat (first | (with_reducible first | exact HB.out | apply below_alloc | apply pw_below_drewN | apply below_drew1 | refine below_set ?_ GE466.out | refine below_set ?_ GE494.out) | exact HB.out)⟩⟩
                    ·rw [if_neg c173] at H
                     exact absurd H (by simp)
                   ·rw [if_neg c172] at H
                    exact absurd H (by simp)
                 ·rw [if_neg c165] at H
                  have c165b0 : (x20_6 == 0) = false := beq_eq_false_iff_ne.mpr c165
                  have c165b1 : (x20_6 != 0) = true := bne_iff_ne.mpr c165
                  obtain ⟨ji179, hji179⟩ : ∃ j_ : Int, (wrap64 (x20_6 - 1)) = j_ := ⟨_, rfl⟩
                  replace H : (if 0 ≤ (ji179) then (if (ji179) < (l0.length : Int) then (if (rd l0 (ji179)) = 10 then (if x20_6 = (l0.length : Int) then (if (true != x19_153) = true then (some false) else (quoinlaw13_ObjectRuns.l1 k6 l0 x19_153 (wrap64 (x20_6 + 1)) t490 t491 t492)) else (if 0 ≤ x20_6 then (if x20_6 < (l0.length : Int) then (if (((rd l0 x20_6) == 10) != x19_153) = true then (some false) else (quoinlaw13_ObjectRuns.l1 k6 l0 x19_153 (wrap64 (x20_6 + 1)) t490 t491 t492)) else (none)) else (none))) else (quoinlaw13_ObjectRuns.l1 k6 l0 x19_153 (wrap64 (x20_6 + 1)) t490 t491 t492)) else (none)) else (none)) = some r := by first | (rw [hji179] at H; exact H) | (simp only [hji179] at H ⊢; exact H)
                  have hji179w : (IntKind.i64.wrap (x20_6 - 1)) = ji179 := (i64_w _).trans hji179
                  by_cases c180 : 0 ≤ (ji179)
                  ·rw [if_pos c180] at H
                   have c180b0 : decide (0 ≤ (ji179)) = true := decide_eq_true c180
                   clear c180
                   by_cases c181 : (ji179) < (l0.length : Int)
                   ·rw [if_pos c181] at H
                    have c181b0 : decide ((ji179) < (l0.length : Int)) = true := decide_eq_true c181
                    clear c181
                    by_cases c182 : (rd l0 (ji179)) = 10
                    ·rw [if_pos c182] at H
                     have c182b0 : ((rd l0 (ji179)) == 10) = true := beq_iff_eq.mpr c182
                     have c182b1 : ((rd l0 (ji179)) != 10) = false := bne_eq_false_iff_eq.mpr c182
                     clear c182
                     by_cases c183 : x20_6 = (l0.length : Int)
                     ·rw [if_pos c183] at H
                      have c183b0 : (x20_6 == (l0.length : Int)) = true := beq_iff_eq.mpr c183
                      have c183b1 : (x20_6 != (l0.length : Int)) = false := bne_eq_false_iff_eq.mpr c183
                      clear c183
                      by_cases c184 : (true != x19_153) = true
                      ·rw [if_pos c184] at H
                       have c184b0 : (true != x19_153) = true := c184
                       (try (have c184b1 : decide (true = x19_153) = false := by simpa using c184))
                       (try (have c184b2 : (true == x19_153) = false := by simpa using c184))
                       (try (have c184b3 : ¬ (true = x19_153) := by simpa using c184))
                       clear c184
                       obtain rfl := Option.some.inj H
                       have hnb185 := NB494_466.out
                       have hnc185 := NB466_494.out
                       have hcz186_0 : wr.cell? ⟨gb494, 0, none⟩ = some (.int .i64 t490) := (blk_cell BK494.out 0).trans rfl
                       have hcz186_1 : wr.cell? ⟨gb494, 1, none⟩ = some (.int .i64 t491) := (blk_cell BK494.out 1).trans rfl
                       have hcz186_2 : wr.cell? ⟨gb494, 2, none⟩ = some (.int .i64 t492) := (blk_cell BK494.out 2).trans rfl
                       have hfz186_0 := blk_frozen BK494.out 0
                       have hfz186_1 := blk_frozen BK494.out 1
                       have hfz186_2 := blk_frozen BK494.out 2
                       have p497 : 0 ≤ ((ji179) : Int) := of_decide_eq_true (by first | (with_reducible assumption) | assumption)
                       have q497 : (ji179) < (l0.length : Int) := of_decide_eq_true (by first | (with_reducible assumption) | assumption)
                       obtain ⟨ad497, e497, hx497_0⟩ := Kd.at_int HR0.out (ji179) p497 q497
                       cases e497
                       replace hx497_0 := (HB.out.cell (World.block_lt_of_cell? w _ hx497_0)).trans hx497_0
                       replace p497 := eq_true p497
                       replace q497 := eq_true q497
                       go_wp2
                       go_ret
                       exact ⟨by first | rfl | (simp [errW_none, errW_some] <;> rfl) | (simp only [← hji179]; first | rfl | (simp [errW_none, errW_some] <;> rfl)) | (simp [*, errW_none, errW_some] <;> rfl), by repeat (first | (with_reducible first | exact HB.out | apply below_alloc | apply pw_below_drewN | apply below_drew1 | refine below_set ?_ GE466.out | refine below_set ?_ GE494.out) | exact HB.out)⟩
                      ·rw [if_neg c184] at H
                       have c184b0 : (true != x19_153) = false := by simpa using c184
                       (try (have c184b1 : decide (true = x19_153) = true := by simpa using c184))
                       (try (have c184b2 : (true == x19_153) = true := by simpa using c184))
                       clear c184
                       have H' := Aside0.mk H
                       clear H
                       have hnb187 := NB494_466.out
                       have hnc187 := NB466_494.out
                       have hcz188_0 : wr.cell? ⟨gb494, 0, none⟩ = some (.int .i64 t490) := (blk_cell BK494.out 0).trans rfl
                       have hcz188_1 : wr.cell? ⟨gb494, 1, none⟩ = some (.int .i64 t491) := (blk_cell BK494.out 1).trans rfl
                       have hcz188_2 : wr.cell? ⟨gb494, 2, none⟩ = some (.int .i64 t492) := (blk_cell BK494.out 2).trans rfl
                       have hfz188_0 := blk_frozen BK494.out 0
                       have hfz188_1 := blk_frozen BK494.out 1
                       have hfz188_2 := blk_frozen BK494.out 2
                       have p497 : 0 ≤ ((ji179) : Int) := of_decide_eq_true (by first | (with_reducible assumption) | assumption)
                       have q497 : (ji179) < (l0.length : Int) := of_decide_eq_true (by first | (with_reducible assumption) | assumption)
                       obtain ⟨ad497, e497, hx497_0⟩ := Kd.at_int HR0.out (ji179) p497 q497
                       cases e497
                       replace hx497_0 := (HB.out.cell (World.block_lt_of_cell? w _ hx497_0)).trans hx497_0
                       replace p497 := eq_true p497
                       replace q497 := eq_true q497
                       go_wp2
                       go_roundg k6
                       case measure => have := HJ6.out; have := HJ10.out; have := HJ18.out; have := HJ135.out; have := HJ153.out; have := HK6.out; omega
                       case rel => exact ⟨(wrap64 (x20_6 + 1)), (by first | rfl | (simp; done) | (simp [*]; done)), H', ⟨by have := HJ6.out; have := HJ10.out; have := HJ18.out; have := HJ135.out; have := HJ153.out; have := HK6.out; omega⟩, ⟨by (with_reducible repeat (first | refine blk_drewN ?_ _ | refine blk_drew ?_ | refine blk_alloc ?_ _)); exact BK466.out⟩, ⟨by (with_reducible repeat (first | refine blk_drewN ?_ _ | refine blk_drew ?_ | refine blk_alloc ?_ _)); exact BK494.out⟩, ⟨by repeat (first | (with_reducible first | exact HB.out | apply below_alloc | apply pw_below_drewN | apply below_drew1 | refine below_set ?_ GE466.out | refine below_set ?_ GE494.out) | exact HB.out)⟩⟩
                     ·rw [if_neg c183] at H
                      have c183b0 : (x20_6 == (l0.length : Int)) = false := beq_eq_false_iff_ne.mpr c183
                      have c183b1 : (x20_6 != (l0.length : Int)) = true := bne_iff_ne.mpr c183
                      by_cases c189 : 0 ≤ x20_6
                      ·rw [if_pos c189] at H
                       have c189b0 : decide (0 ≤ x20_6) = true := decide_eq_true c189
                       clear c189
                       by_cases c190 : x20_6 < (l0.length : Int)
                       ·rw [if_pos c190] at H
                        have c190b0 : decide (x20_6 < (l0.length : Int)) = true := decide_eq_true c190
                        clear c190
                        by_cases c191 : (((rd l0 x20_6) == 10) != x19_153) = true
                        ·rw [if_pos c191] at H
                         have c191b0 : (((rd l0 x20_6) == 10) != x19_153) = true := c191
                         (try (have c191b1 : decide (((rd l0 x20_6) == 10) = x19_153) = false := by simpa using c191))
                         (try (have c191b2 : (((rd l0 x20_6) == 10) == x19_153) = false := by simpa using c191))
                         (try (have c191b3 : ¬ (((rd l0 x20_6) == 10) = x19_153) := by simpa using c191))
                         clear c191
                         obtain rfl := Option.some.inj H
                         have hnb192 := NB494_466.out
                         have hnc192 := NB466_494.out
                         have hcz193_0 : wr.cell? ⟨gb494, 0, none⟩ = some (.int .i64 t490) := (blk_cell BK494.out 0).trans rfl
                         have hcz193_1 : wr.cell? ⟨gb494, 1, none⟩ = some (.int .i64 t491) := (blk_cell BK494.out 1).trans rfl
                         have hcz193_2 : wr.cell? ⟨gb494, 2, none⟩ = some (.int .i64 t492) := (blk_cell BK494.out 2).trans rfl
                         have hfz193_0 := blk_frozen BK494.out 0
                         have hfz193_1 := blk_frozen BK494.out 1
                         have hfz193_2 := blk_frozen BK494.out 2
                         have p497 : 0 ≤ ((ji179) : Int) := of_decide_eq_true (by first | (with_reducible assumption) | assumption)
                         have q497 : (ji179) < (l0.length : Int) := of_decide_eq_true (by first | (with_reducible assumption) | assumption)
                         obtain ⟨ad497, e497, hx497_0⟩ := Kd.at_int HR0.out (ji179) p497 q497
                         cases e497
                         replace hx497_0 := (HB.out.cell (World.block_lt_of_cell? w _ hx497_0)).trans hx497_0
                         replace p497 := eq_true p497
                         replace q497 := eq_true q497
                         have p498 : 0 ≤ (x20_6 : Int) := of_decide_eq_true (by first | (with_reducible assumption) | assumption)
                         have q498 : x20_6 < (l0.length : Int) := of_decide_eq_true (by first | (with_reducible assumption) | assumption)
                         obtain ⟨ad498, e498, hx498_0⟩ := Kd.at_int HR0.out x20_6 p498 q498
                         obtain rfl : ad497 = ad498 := (by injection e498)
                         replace hx498_0 := (HB.out.cell (World.block_lt_of_cell? w _ hx498_0)).trans hx498_0
                         replace p498 := eq_true p498
                         replace q498 := eq_true q498
                         go_wp2
                         go_ret
                         exact ⟨by first | rfl | (simp [errW_none, errW_some] <;> rfl) | (simp only [← hji179]; first | rfl | (simp [errW_none, errW_some] <;> rfl)) | (simp [*, errW_none, errW_some] <;> rfl), by repeat (first | (with_reducible first | exact HB.out | apply below_alloc | apply pw_below_drewN | apply below_drew1 | refine below_set ?_ GE466.out | refine below_set ?_ GE494.out) | exact HB.out)⟩
                        ·rw [if_neg c191] at H
                         have c191b0 : (((rd l0 x20_6) == 10) != x19_153) = false := by simpa using c191
                         (try (have c191b1 : decide (((rd l0 x20_6) == 10) = x19_153) = true := by simpa using c191))
                         (try (have c191b2 : (((rd l0 x20_6) == 10) == x19_153) = true := by simpa using c191))
                         clear c191
                         have H' := Aside0.mk H
                         clear H
                         have hnb194 := NB494_466.out
                         have hnc194 := NB466_494.out
                         have hcz195_0 : wr.cell? ⟨gb494, 0, none⟩ = some (.int .i64 t490) := (blk_cell BK494.out 0).trans rfl
                         have hcz195_1 : wr.cell? ⟨gb494, 1, none⟩ = some (.int .i64 t491) := (blk_cell BK494.out 1).trans rfl
                         have hcz195_2 : wr.cell? ⟨gb494, 2, none⟩ = some (.int .i64 t492) := (blk_cell BK494.out 2).trans rfl
                         have hfz195_0 := blk_frozen BK494.out 0
                         have hfz195_1 := blk_frozen BK494.out 1
                         have hfz195_2 := blk_frozen BK494.out 2
                         have p497 : 0 ≤ ((ji179) : Int) := of_decide_eq_true (by first | (with_reducible assumption) | assumption)
                         have q497 : (ji179) < (l0.length : Int) := of_decide_eq_true (by first | (with_reducible assumption) | assumption)
                         obtain ⟨ad497, e497, hx497_0⟩ := Kd.at_int HR0.out (ji179) p497 q497
                         cases e497
                         replace hx497_0 := (HB.out.cell (World.block_lt_of_cell? w _ hx497_0)).trans hx497_0
                         replace p497 := eq_true p497
                         replace q497 := eq_true q497
                         have p498 : 0 ≤ (x20_6 : Int) := of_decide_eq_true (by first | (with_reducible assumption) | assumption)
                         have q498 : x20_6 < (l0.length : Int) := of_decide_eq_true (by first | (with_reducible assumption) | assumption)
                         obtain ⟨ad498, e498, hx498_0⟩ := Kd.at_int HR0.out x20_6 p498 q498
                         obtain rfl : ad497 = ad498 := (by injection e498)
                         replace hx498_0 := (HB.out.cell (World.block_lt_of_cell? w _ hx498_0)).trans hx498_0
                         replace p498 := eq_true p498
                         replace q498 := eq_true q498
                         go_wp2
                         go_roundg k6
                         case measure => have := HJ6.out; have := HJ10.out; have := HJ18.out; have := HJ135.out; have := HJ153.out; have := HK6.out; omega
                         case rel => exact ⟨(wrap64 (x20_6 + 1)), (by first | rfl | (simp; done) | (simp [*]; done)), H', ⟨by have := HJ6.out; have := HJ10.out; have := HJ18.out; have := HJ135.out; have := HJ153.out; have := HK6.out; omega⟩, ⟨by (with_reducible repeat (first | refine blk_drewN ?_ _ | refine blk_drew ?_ | refine blk_alloc ?_ _)); exact BK466.out⟩, ⟨by (with_reducible repeat (first | refine blk_drewN ?_ _ | refine blk_drew ?_ | refine blk_alloc ?_ _)); exact BK494.out⟩, ⟨by repeat (first | (with_reducible first | exact HB.out | apply below_alloc | apply pw_below_drewN | apply below_drew1 | refine below_set ?_ GE466.out | refine below_set ?_ GE494.out) | exact HB.out)⟩⟩
                       ·rw [if_neg c190] at H
                        exact absurd H (by simp)
                      ·rw [if_neg c189] at H
                       exact absurd H (by simp)
                    ·rw [if_neg c182] at H
                     have c182b0 : ((rd l0 (ji179)) == 10) = false := beq_eq_false_iff_ne.mpr c182
                     have c182b1 : ((rd l0 (ji179)) != 10) = true := bne_iff_ne.mpr c182
                     have H' := Aside0.mk H
                     clear H
                     have hnb196 := NB494_466.out
                     have hnc196 := NB466_494.out
                     have hcz197_0 : wr.cell? ⟨gb494, 0, none⟩ = some (.int .i64 t490) := (blk_cell BK494.out 0).trans rfl
                     have hcz197_1 : wr.cell? ⟨gb494, 1, none⟩ = some (.int .i64 t491) := (blk_cell BK494.out 1).trans rfl
                     have hcz197_2 : wr.cell? ⟨gb494, 2, none⟩ = some (.int .i64 t492) := (blk_cell BK494.out 2).trans rfl
                     have hfz197_0 := blk_frozen BK494.out 0
                     have hfz197_1 := blk_frozen BK494.out 1
                     have hfz197_2 := blk_frozen BK494.out 2
                     have p497 : 0 ≤ ((ji179) : Int) := of_decide_eq_true (by first | (with_reducible assumption) | assumption)
                     have q497 : (ji179) < (l0.length : Int) := of_decide_eq_true (by first | (with_reducible assumption) | assumption)
                     obtain ⟨ad497, e497, hx497_0⟩ := Kd.at_int HR0.out (ji179) p497 q497
                     cases e497
                     replace hx497_0 := (HB.out.cell (World.block_lt_of_cell? w _ hx497_0)).trans hx497_0
                     replace p497 := eq_true p497
                     replace q497 := eq_true q497
                     go_wp2
                     go_roundg k6
                     case measure => have := HJ6.out; have := HJ10.out; have := HJ18.out; have := HJ135.out; have := HJ153.out; have := HK6.out; omega
                     case rel => exact ⟨(wrap64 (x20_6 + 1)), (by first | rfl | (simp; done) | (simp [*]; done)), H', ⟨by have := HJ6.out; have := HJ10.out; have := HJ18.out; have := HJ135.out; have := HJ153.out; have := HK6.out; omega⟩, ⟨by (with_reducible repeat (first | refine blk_drewN ?_ _ | refine blk_drew ?_ | refine blk_alloc ?_ _)); exact BK466.out⟩, ⟨by (with_reducible repeat (first | refine blk_drewN ?_ _ | refine blk_drew ?_ | refine blk_alloc ?_ _)); exact BK494.out⟩, ⟨by repeat (first | (with_reducible first | exact HB.out | apply below_alloc | apply pw_below_drewN | apply below_drew1 | refine below_set ?_ GE466.out | refine below_set ?_ GE494.out) | exact HB.out)⟩⟩
                   ·rw [if_neg c181] at H
                    exact absurd H (by simp)
                  ·rw [if_neg c180] at H
                   exact absurd H (by simp)
                ·rw [if_neg c164] at H
                 have c164b0 : decide (x20_6 ≤ t491) = false := decide_eq_false c164
                 clear c164
                 obtain rfl := Option.some.inj H
                 have hnb198 := NB494_466.out
                 have hnc198 := NB466_494.out
                 have hcz199_0 : wr.cell? ⟨gb494, 0, none⟩ = some (.int .i64 t490) := (blk_cell BK494.out 0).trans rfl
                 have hcz199_1 : wr.cell? ⟨gb494, 1, none⟩ = some (.int .i64 t491) := (blk_cell BK494.out 1).trans rfl
                 have hcz199_2 : wr.cell? ⟨gb494, 2, none⟩ = some (.int .i64 t492) := (blk_cell BK494.out 2).trans rfl
                 have hfz199_0 := blk_frozen BK494.out 0
                 have hfz199_1 := blk_frozen BK494.out 1
                 have hfz199_2 := blk_frozen BK494.out 2
                 go_wp2
                 go_ret
                 exact ⟨by first | rfl | (simp [errW_none, errW_some] <;> rfl) | (simp [*, errW_none, errW_some] <;> rfl), by repeat (first | (with_reducible first | exact HB.out | apply below_alloc | apply pw_below_drewN | apply below_drew1 | refine below_set ?_ GE466.out | refine below_set ?_ GE494.out) | exact HB.out)⟩
 ·replace c5 := Bool.eq_false_iff.mpr c5
  subst c5
  have H1 : (some false) = some r := by rw [if_neg (show ¬ (false = true) by decide)] at H; exact H
  clear H
  have H := H1
  clear H1
  obtain rfl := Option.some.inj H
  go_enter Tryd.func6, Tryd.ntmps6
  go_wp2_with (first | ((with_reducible refine gate_callee (f := 7) rfl ?_); refine goesL_ (some 21) rfl rfl Tryd.func7 (by kernel_rfl) rfl #[] rfl (by (try simp only [List.map_toArray, List.map_cons, List.map_nil]); first | done | rfl | (simp only [List.length_drop, List.length_take]; rfl)) ?_; (with_reducible refine (quoinlaw13_awake.calls k  false _ A4.out).mono ?_); rintro e w200 ⟨rfl, hb⟩; refine ⟨_, rfl, ?_⟩; have n0_ := Aside0.mk (below_step (by repeat (first | (with_reducible first | exact HB.out | apply below_alloc | apply pw_below_drewN | apply below_drew1) | exact HB.out)) hb); clear HB; have HB := n0_; clear n0_; (try clear hb); (try clear hb2); (try clear hk); (try clear hi)))
  go_ret
  exact ⟨by first | rfl | (simp [errW_none, errW_some] <;> rfl) | (simp [*, errW_none, errW_some] <;> rfl), by repeat (first | (with_reducible first | exact HB.out | apply below_alloc | apply pw_below_drewN | apply below_drew1) | exact HB.out)⟩

end Go.Proofs.YtcochbkdgjgaeaaDoor.X
end
