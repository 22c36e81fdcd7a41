/-
  Texts of one proof in one file (wip/bundle.py): X23, PureStepPlacesParts, X47, X48D.
  Conditions: none.
-/
import Derived.Test.YtofkcdnkbjpmmaaBPlaces1
import Derived.Test.YtofkcdnkbjpmmaaBPlaces6
section
-- Written by wip/xprint.py over the kit's print.py: the Lean function of each Go function, and the proof that the Go text comes to it.
namespace Go.Proofs.Ytofkcdnkbjpmmaa.X
open Go.RowKit Go.Proofs.YtofkcdnkbjpmmaaW.PrintWords Go.Proofs.YtofkcdnkbjpmmaaW.PrintLast Go.Proofs.YtofkcdnkbjpmmaaW.PrintMore
attribute [local go_sem] max2_int min2_int max_two min_two max_three min_three max_four min_four   -- for this text's walks alone
set_option linter.unusedVariables false
set_option linter.unusedSimpArgs false

attribute [local go_sem high] eqA29
/-! ### quoinlaw07_awake: function 7 -/
def quoinlaw07_awake.f (k : Nat)  : Option (Bool) := (step_Move.f k (([97, 98, 10, 10, 99, 100, 101] : List Int)) 3 1 0 (⟨#[106]⟩ : ByteArray)).bind fun bt276 => (if bt276.2.2.2.2 = 0 then (if (bt276.1 == 3 && (bt276.2.1 == 5 && (bt276.2.2.1 == 3))) = true then (some (bt276.2.2.2.1 == 1)) else (some false)) else (some false))
theorem quoinlaw07_awake.mono : ∀ k, LeO (quoinlaw07_awake.f k ) (quoinlaw07_awake.f (k + 1) ) := by
  intro  k
  unfold quoinlaw07_awake.f
  repeat' first
      | (with_reducible exact step_Move.mono _ _ _ _ _ _)
      | (with_reducible exact LeO.refl _)
      | (with_reducible exact LeO.none _)
      | (with_reducible refine LeO.ite ?_ ?_)
      | (with_reducible refine LeO.bind ?_ (fun _ => ?_))
      | exact step_Move.mono _ _ _ _ _ _
      | exact LeO.none _
      | refine LeO.ite ?_ ?_
      | refine LeO.bind ?_ (fun _ => ?_)
set_option maxHeartbeats 8000000 in
set_option maxRecDepth 100000 in
theorem quoinlaw07_awake.calls (k : Nat)  (r : Bool) (w : World) (h : quoinlaw07_awake.f k  = some r) :
    Calls Try.prog 7 #[] w fun e w' => e = .returned (.bool r) ∧ Below w.heap.size w w' := by
  have hu29 := Try.underlying29
  have HB := Aside0.mk (Below.refl w.heap.size w)
  have H : ((step_Move.f k (([97, 98, 10, 10, 99, 100, 101] : List Int)) 3 1 0 (⟨#[106]⟩ : ByteArray)).bind fun bt276 => (if bt276.2.2.2.2 = 0 then (if (bt276.1 == 3 && (bt276.2.1 == 5 && (bt276.2.2.1 == 3))) = true then (some (bt276.2.2.2.1 == 1)) else (some false)) else (some false))) = some r := h
  clear h
  obtain ⟨y273, hy273⟩ : ∃ y_ : List Int, y_ = (([97, 98, 10, 10, 99, 100, 101] : List Int)) := ⟨_, rfl⟩
  replace H : ((step_Move.f k y273 3 1 0 (⟨#[106]⟩ : ByteArray)).bind fun bt276 => (if bt276.2.2.2.2 = 0 then (if (bt276.1 == 3 && (bt276.2.1 == 5 && (bt276.2.2.1 == 3))) = true then (some (bt276.2.2.2.1 == 1)) else (some false)) else (some false))) = some r := by first | (rw [hy273]; with_reducible exact H) | (have H2_ := (Option.bind_some _ _).symm.trans H; rw [hy273]; with_reducible exact H2_) | (have H2_ := (Option.bind_some _ _).symm.trans H; with_reducible exact H2_) | with_reducible exact H | (rw [hy273]; exact H) | exact H
  have Ny273 := Aside0.mk hy273
  clear hy273
  replace H := Option.bind_eq_some_iff.mp H
  obtain ⟨⟨t276, t277, t278, t279, t280⟩, A10, H⟩ := H
  replace H : (if t280 = 0 then (if (t276 == 3 && (t277 == 5 && (t278 == 3))) = true then (some (t279 == 1)) else (some false)) else (some false)) = some r := H
  have A1 := Aside0.mk A10
  clear A10
  by_cases c2 : t280 = 0
  · rw [if_pos c2] at H
    have c2b0 : (t280 == 0) = true := beq_iff_eq.mpr c2
    have c2b1 : (t280 != 0) = false := bne_eq_false_iff_eq.mpr c2
    clear c2
    by_cases c3 : (t276 == 3 && (t277 == 5 && (t278 == 3))) = true
    · rw [if_pos c3] at H
      have c3b0 : (t276 == 3 && (t277 == 5 && (t278 == 3))) = true := c3
      (try (have c3b1 : decide (t276 = 3 && (t277 == 5 && (t278 == 3))) = true := by simpa using c3))
      (try (have c3b2 : (t276 == 3 && (t277 == 5 && (t278 == 3))) = true := by simpa using c3))
      clear c3
      obtain rfl := Option.some.inj H
      go_enter Try.func7, Try.ntmps7
      go_wp2_with (first | ((with_reducible refine gate_dst (N := 6) rfl ?_); refine Kd.V_conv 5 ?hg (N := 6) ?hd ([97, 98, 10, 10, 99, 100, 101] : List Int) (cs := #[.int .u8 97, .int .u8 98, .int .u8 10, .int .u8 10, .int .u8 99, .int .u8 100, .int .u8 101]) ?hc ?hr (by simp) ?_; (case hd => rfl); (case hg => rfl); (case hc => rfl); (case hr => have kc_ := fun (w_ : World) (C_ : Array Value) (n_ c_ : Nat) => Lib.run_convert_bytes_const (P := Try.prog) w_ 22 5 C_ n_ c_ Try.underlying22 Try.underlying5; first | (go_simp; done) | (go_simp; rfl)); intro v274 w4 ho5 hb; (first | rw [← Ny273.out] at ho5 | (simp only [Int.reduceToNat] at ho5; rw [← Ny273.out] at ho5)); have n0_ := Aside0.mk (Kd.V_lower (Kd.V_mono (ok' := fun k_ => True) ho5 (fun k_ hk_ => trivial)) (below_size (by repeat (first | (with_reducible first | exact HB.out | apply below_alloc | apply pw_below_drewN | apply below_drew1) | exact HB.out)))); have n1_ := Aside0.mk (below_step (by repeat (first | (with_reducible first | exact HB.out | apply below_alloc | apply pw_below_drewN | apply below_drew1) | exact HB.out)) hb); clear HB; have HO275 := n0_; have HB := n1_; clear n0_ n1_; clear hb ho5; obtain ⟨Ao6, co6, eo6⟩ := Kd.V_slice HO275.out; subst eo6) | ((with_reducible refine gate_callee (f := 10) rfl ?_); refine goesL_ (some 7) rfl rfl Try.func10 (by kernel_rfl) rfl #[.slice Ao6 y273.length co6, .int .i64 3, .int .i64 1, .int .i64 0, .string (⟨#[106]⟩ : ByteArray)] rfl (by (try simp only [List.map_toArray, List.map_cons, List.map_nil]); first | done | rfl | (simp only [List.length_drop, List.length_take]; rfl)) ?_; (with_reducible refine (step_Move.calls k _ _ y273 3 1 0 (⟨#[106]⟩ : ByteArray) t276 t277 t278 t279 t280 _ ?side1 ?side2 A1.out).mono ?_); (case side1 => repeat (first | exact (Kd.V_reads' HO275.out).2.2 | (with_reducible refine Kd.C_alloc ?_ _) | (with_reducible refine Kd.C_drewN ?_ _) | (with_reducible refine Kd.C_drew ?_))); (case side2 => exact (Kd.V_reads' HO275.out).2.1); rintro e w7 ⟨rfl, hb⟩; refine ⟨_, rfl, ?_⟩; have n0_ := Aside0.mk (Kd.V_below (by (with_reducible repeat (first | apply Kd.V_alloc | apply Kd.V_drewN | apply Kd.V_drew)); exact HO275.out) hb); have n1_ := Aside0.mk (below_step (by repeat (first | (with_reducible first | exact HB.out | apply below_alloc | apply pw_below_drewN | apply below_drew1) | exact HB.out)) hb); clear HO275; clear HB; have HO275 := n0_; have HB := n1_; clear n0_ n1_; (try clear hb); (try clear hb2); (try clear hk); (try clear hi)) | ((with_reducible refine gate_dst (N := 1) rfl ?_); refine box_event ?hg (N := 1) ?hd (cs := #[.int .i64 0, .int .i64 0, .int .i64 0]) (t := 29) ?hr ?_; (case hd => rfl); (case hg => rfl); (case hr => first | (go_simp; done) | (go_simp; rfl)); intro gb281 hg w8 hbox hb; have n0_ := Aside0.mk (Kd.V_below (Kd.V_elderB (by (with_reducible repeat (first | apply Kd.V_alloc | apply Kd.V_drewN | apply Kd.V_drew)); exact HO275.out) gb281 (Nat.le_of_eq hg.symm)) hb); have n1_ := Aside0.mk (below_step (by repeat (first | (with_reducible first | exact HB.out | apply below_alloc | apply pw_below_drewN | apply below_drew1) | exact HB.out)) hb); have n2_ := Aside0.mk (hbox); have n3_ := Aside0.mk ((by rw [hg]; exact (below_size (by repeat (first | (with_reducible first | exact HB.out | apply below_alloc | apply pw_below_drewN | apply below_drew1) | exact HB.out))) : w.heap.size ≤ gb281)); have n4_ := Aside0.mk ((by rw [hg]; exact (below_size (by repeat (first | (with_reducible first | exact HB.out | apply below_alloc | apply pw_below_drewN | apply below_drew1) | exact HB.out))) : w.heap.size ≤ gb281)); clear HO275; clear HB; have HO275 := n0_; have HB := n1_; have BK281 := n2_; have GW281 := n3_; have GE281 := n4_; clear n0_ n1_ n2_ n3_ n4_; clear hb hbox hg; have hcz9_0 : w8.cell? ⟨gb281, 0, none⟩ = some (.int .i64 0) := (blk_cell BK281.out 0).trans rfl; have hcz9_1 : w8.cell? ⟨gb281, 1, none⟩ = some (.int .i64 0) := (blk_cell BK281.out 1).trans rfl; have hcz9_2 : w8.cell? ⟨gb281, 2, none⟩ = some (.int .i64 0) := (blk_cell BK281.out 2).trans rfl; have hfz9_0 := blk_frozen BK281.out 0; have hfz9_1 := blk_frozen BK281.out 1; have hfz9_2 := blk_frozen BK281.out 2))
      go_ret
      exact ⟨by first | rfl | (simp [errW_none, errW_some] <;> rfl) | (simp [*, errW_none, errW_some] <;> rfl), by repeat (first | (with_reducible first | exact HB.out | apply below_alloc | apply pw_below_drewN | apply below_drew1 | refine below_set ?_ GE281.out) | exact HB.out)⟩
    · rw [if_neg c3] at H
      have c3b0 : (t276 == 3 && (t277 == 5 && (t278 == 3))) = false := by simpa using c3
      (try (have c3b1 : decide (t276 = 3 && (t277 == 5 && (t278 == 3))) = false := by simpa using c3))
      (try (have c3b2 : (t276 == 3 && (t277 == 5 && (t278 == 3))) = false := by simpa using c3))
      (try (have c3b3 : ¬ (t276 = 3 && (t277 == 5 && (t278 == 3))) := by simpa using c3))
      clear c3
      obtain rfl := Option.some.inj H
      go_enter Try.func7, Try.ntmps7
      go_wp2_with (first | ((with_reducible refine gate_dst (N := 6) rfl ?_); refine Kd.V_conv 5 ?hg (N := 6) ?hd ([97, 98, 10, 10, 99, 100, 101] : List Int) (cs := #[.int .u8 97, .int .u8 98, .int .u8 10, .int .u8 10, .int .u8 99, .int .u8 100, .int .u8 101]) ?hc ?hr (by simp) ?_; (case hd => rfl); (case hg => rfl); (case hc => rfl); (case hr => have kc_ := fun (w_ : World) (C_ : Array Value) (n_ c_ : Nat) => Lib.run_convert_bytes_const (P := Try.prog) w_ 22 5 C_ n_ c_ Try.underlying22 Try.underlying5; first | (go_simp; done) | (go_simp; rfl)); intro v274 w10 ho11 hb; (first | rw [← Ny273.out] at ho11 | (simp only [Int.reduceToNat] at ho11; rw [← Ny273.out] at ho11)); have n0_ := Aside0.mk (Kd.V_lower (Kd.V_mono (ok' := fun k_ => True) ho11 (fun k_ hk_ => trivial)) (below_size (by repeat (first | (with_reducible first | exact HB.out | apply below_alloc | apply pw_below_drewN | apply below_drew1) | exact HB.out)))); have n1_ := Aside0.mk (below_step (by repeat (first | (with_reducible first | exact HB.out | apply below_alloc | apply pw_below_drewN | apply below_drew1) | exact HB.out)) hb); clear HB; have HO275 := n0_; have HB := n1_; clear n0_ n1_; clear hb ho11; obtain ⟨Ao12, co12, eo12⟩ := Kd.V_slice HO275.out; subst eo12) | ((with_reducible refine gate_callee (f := 10) rfl ?_); refine goesL_ (some 7) rfl rfl Try.func10 (by kernel_rfl) rfl #[.slice Ao12 y273.length co12, .int .i64 3, .int .i64 1, .int .i64 0, .string (⟨#[106]⟩ : ByteArray)] rfl (by (try simp only [List.map_toArray, List.map_cons, List.map_nil]); first | done | rfl | (simp only [List.length_drop, List.length_take]; rfl)) ?_; (with_reducible refine (step_Move.calls k _ _ y273 3 1 0 (⟨#[106]⟩ : ByteArray) t276 t277 t278 t279 t280 _ ?side1 ?side2 A1.out).mono ?_); (case side1 => repeat (first | exact (Kd.V_reads' HO275.out).2.2 | (with_reducible refine Kd.C_alloc ?_ _) | (with_reducible refine Kd.C_drewN ?_ _) | (with_reducible refine Kd.C_drew ?_))); (case side2 => exact (Kd.V_reads' HO275.out).2.1); rintro e w13 ⟨rfl, hb⟩; refine ⟨_, rfl, ?_⟩; have n0_ := Aside0.mk (Kd.V_below (by (with_reducible repeat (first | apply Kd.V_alloc | apply Kd.V_drewN | apply Kd.V_drew)); exact HO275.out) hb); have n1_ := Aside0.mk (below_step (by repeat (first | (with_reducible first | exact HB.out | apply below_alloc | apply pw_below_drewN | apply below_drew1) | exact HB.out)) hb); clear HO275; clear HB; have HO275 := n0_; have HB := n1_; clear n0_ n1_; (try clear hb); (try clear hb2); (try clear hk); (try clear hi)) | ((with_reducible refine gate_dst (N := 1) rfl ?_); refine box_event ?hg (N := 1) ?hd (cs := #[.int .i64 0, .int .i64 0, .int .i64 0]) (t := 29) ?hr ?_; (case hd => rfl); (case hg => rfl); (case hr => first | (go_simp; done) | (go_simp; rfl)); intro gb281 hg w14 hbox hb; have n0_ := Aside0.mk (Kd.V_below (Kd.V_elderB (by (with_reducible repeat (first | apply Kd.V_alloc | apply Kd.V_drewN | apply Kd.V_drew)); exact HO275.out) gb281 (Nat.le_of_eq hg.symm)) hb); have n1_ := Aside0.mk (below_step (by repeat (first | (with_reducible first | exact HB.out | apply below_alloc | apply pw_below_drewN | apply below_drew1) | exact HB.out)) hb); have n2_ := Aside0.mk (hbox); have n3_ := Aside0.mk ((by rw [hg]; exact (below_size (by repeat (first | (with_reducible first | exact HB.out | apply below_alloc | apply pw_below_drewN | apply below_drew1) | exact HB.out))) : w.heap.size ≤ gb281)); have n4_ := Aside0.mk ((by rw [hg]; exact (below_size (by repeat (first | (with_reducible first | exact HB.out | apply below_alloc | apply pw_below_drewN | apply below_drew1) | exact HB.out))) : w.heap.size ≤ gb281)); clear HO275; clear HB; have HO275 := n0_; have HB := n1_; have BK281 := n2_; have GW281 := n3_; have GE281 := n4_; clear n0_ n1_ n2_ n3_ n4_; clear hb hbox hg; have hcz15_0 : w14.cell? ⟨gb281, 0, none⟩ = some (.int .i64 0) := (blk_cell BK281.out 0).trans rfl; have hcz15_1 : w14.cell? ⟨gb281, 1, none⟩ = some (.int .i64 0) := (blk_cell BK281.out 1).trans rfl; have hcz15_2 : w14.cell? ⟨gb281, 2, none⟩ = some (.int .i64 0) := (blk_cell BK281.out 2).trans rfl; have hfz15_0 := blk_frozen BK281.out 0; have hfz15_1 := blk_frozen BK281.out 1; have hfz15_2 := blk_frozen BK281.out 2))
      go_ret
      exact ⟨by first | rfl | (simp [errW_none, errW_some] <;> rfl) | (simp [*, errW_none, errW_some] <;> rfl), by repeat (first | (with_reducible first | exact HB.out | apply below_alloc | apply pw_below_drewN | apply below_drew1 | refine below_set ?_ GE281.out) | exact HB.out)⟩
  · rw [if_neg c2] at H
    have c2b0 : (t280 == 0) = false := beq_eq_false_iff_ne.mpr c2
    have c2b1 : (t280 != 0) = true := bne_iff_ne.mpr c2
    obtain rfl := Option.some.inj H
    go_enter Try.func7, Try.ntmps7
    go_wp2_with (first | ((with_reducible refine gate_dst (N := 6) rfl ?_); refine Kd.V_conv 5 ?hg (N := 6) ?hd ([97, 98, 10, 10, 99, 100, 101] : List Int) (cs := #[.int .u8 97, .int .u8 98, .int .u8 10, .int .u8 10, .int .u8 99, .int .u8 100, .int .u8 101]) ?hc ?hr (by simp) ?_; (case hd => rfl); (case hg => rfl); (case hc => rfl); (case hr => have kc_ := fun (w_ : World) (C_ : Array Value) (n_ c_ : Nat) => Lib.run_convert_bytes_const (P := Try.prog) w_ 22 5 C_ n_ c_ Try.underlying22 Try.underlying5; first | (go_simp; done) | (go_simp; rfl)); intro v274 w16 ho17 hb; (first | rw [← Ny273.out] at ho17 | (simp only [Int.reduceToNat] at ho17; rw [← Ny273.out] at ho17)); have n0_ := Aside0.mk (Kd.V_lower (Kd.V_mono (ok' := fun k_ => True) ho17 (fun k_ hk_ => trivial)) (below_size (by repeat (first | (with_reducible first | exact HB.out | apply below_alloc | apply pw_below_drewN | apply below_drew1) | exact HB.out)))); have n1_ := Aside0.mk (below_step (by repeat (first | (with_reducible first | exact HB.out | apply below_alloc | apply pw_below_drewN | apply below_drew1) | exact HB.out)) hb); clear HB; have HO275 := n0_; have HB := n1_; clear n0_ n1_; clear hb ho17; obtain ⟨Ao18, co18, eo18⟩ := Kd.V_slice HO275.out; subst eo18) | ((with_reducible refine gate_callee (f := 10) rfl ?_); refine goesL_ (some 7) rfl rfl Try.func10 (by kernel_rfl) rfl #[.slice Ao18 y273.length co18, .int .i64 3, .int .i64 1, .int .i64 0, .string (⟨#[106]⟩ : ByteArray)] rfl (by (try simp only [List.map_toArray, List.map_cons, List.map_nil]); first | done | rfl | (simp only [List.length_drop, List.length_take]; rfl)) ?_; (with_reducible refine (step_Move.calls k _ _ y273 3 1 0 (⟨#[106]⟩ : ByteArray) t276 t277 t278 t279 t280 _ ?side1 ?side2 A1.out).mono ?_); (case side1 => repeat (first | exact (Kd.V_reads' HO275.out).2.2 | (with_reducible refine Kd.C_alloc ?_ _) | (with_reducible refine Kd.C_drewN ?_ _) | (with_reducible refine Kd.C_drew ?_))); (case side2 => exact (Kd.V_reads' HO275.out).2.1); rintro e w19 ⟨rfl, hb⟩; refine ⟨_, rfl, ?_⟩; have n0_ := Aside0.mk (Kd.V_below (by (with_reducible repeat (first | apply Kd.V_alloc | apply Kd.V_drewN | apply Kd.V_drew)); exact HO275.out) hb); have n1_ := Aside0.mk (below_step (by repeat (first | (with_reducible first | exact HB.out | apply below_alloc | apply pw_below_drewN | apply below_drew1) | exact HB.out)) hb); clear HO275; clear HB; have HO275 := n0_; have HB := n1_; clear n0_ n1_; (try clear hb); (try clear hb2); (try clear hk); (try clear hi)) | ((with_reducible refine gate_dst (N := 1) rfl ?_); refine box_event ?hg (N := 1) ?hd (cs := #[.int .i64 0, .int .i64 0, .int .i64 0]) (t := 29) ?hr ?_; (case hd => rfl); (case hg => rfl); (case hr => first | (go_simp; done) | (go_simp; rfl)); intro gb281 hg w20 hbox hb; have n0_ := Aside0.mk (Kd.V_below (Kd.V_elderB (by (with_reducible repeat (first | apply Kd.V_alloc | apply Kd.V_drewN | apply Kd.V_drew)); exact HO275.out) gb281 (Nat.le_of_eq hg.symm)) hb); have n1_ := Aside0.mk (below_step (by repeat (first | (with_reducible first | exact HB.out | apply below_alloc | apply pw_below_drewN | apply below_drew1) | exact HB.out)) hb); have n2_ := Aside0.mk (hbox); have n3_ := Aside0.mk ((by rw [hg]; exact (below_size (by repeat (first | (with_reducible first | exact HB.out | apply below_alloc | apply pw_below_drewN | apply below_drew1) | exact HB.out))) : w.heap.size ≤ gb281)); have n4_ := Aside0.mk ((by rw [hg]; exact (below_size (by repeat (first | (with_reducible first | exact HB.out | apply below_alloc | apply pw_below_drewN | apply below_drew1) | exact HB.out))) : w.heap.size ≤ gb281)); clear HO275; clear HB; have HO275 := n0_; have HB := n1_; have BK281 := n2_; have GW281 := n3_; have GE281 := n4_; clear n0_ n1_ n2_ n3_ n4_; clear hb hbox hg; have hcz21_0 : w20.cell? ⟨gb281, 0, none⟩ = some (.int .i64 0) := (blk_cell BK281.out 0).trans rfl; have hcz21_1 : w20.cell? ⟨gb281, 1, none⟩ = some (.int .i64 0) := (blk_cell BK281.out 1).trans rfl; have hcz21_2 : w20.cell? ⟨gb281, 2, none⟩ = some (.int .i64 0) := (blk_cell BK281.out 2).trans rfl; have hfz21_0 := blk_frozen BK281.out 0; have hfz21_1 := blk_frozen BK281.out 1; have hfz21_2 := blk_frozen BK281.out 2))
    go_ret
    exact ⟨by first | rfl | (simp [errW_none, errW_some] <;> rfl) | (simp [*, errW_none, errW_some] <;> rfl), by repeat (first | (with_reducible first | exact HB.out | apply below_alloc | apply pw_below_drewN | apply below_drew1 | refine below_set ?_ GE281.out) | exact HB.out)⟩

end Go.Proofs.Ytofkcdnkbjpmmaa.X
end
section
namespace Go.Proofs.Ytofkcdnkbjpmmaa.Pure
open Go.RowKit Go.Proofs.YtofkcdnkbjpmmaaW.PrintWords Go.Proofs.YtofkcdnkbjpmmaaW.PrintMore Go.Proofs.Ytofkcdnkbjpmmaa.X Go.Proofs.Ytofkcdnkbjpmmaa.XL Go.Proofs.Ytofkcdnkbjpmmaa.XO Go.Proofs.Ytofkcdnkbjpmmaa.LN Go.Proofs.Ytofkcdnkbjpmmaa.MV
theorem awake_ev : Ev (fun k => quoinlaw07_awake.f k) true := Ev.of quoinlaw07_awake.mono (k := 60) (by decide +kernel)
section
variable {t : List Int}
theorem sg_ex : ∀ (n p : Nat), p ≤ t.length → isSt t p → cnt 10 (t.take p) + n ≤ cnt 10 t → ∃ q, sg t p n = some q := by
  intro n
  induction n with
  | zero => intro p _ _ _; exact ⟨p, rfl⟩
  | succ n ih =>
    intro p hp hs hc
    have hf := fin_ge t p
    by_cases h : fin t p < t.length
    · obtain ⟨q, hq⟩ := ih (fin t p + 1) (by omega) (.inr (fin_at h)) (by rw [cnt_next h]; omega)
      exact ⟨q, by unfold sg; rw [if_pos h]; exact hq⟩
    · exfalso
      have hf2 := fin_le hp
      have h1 := cnt_same (t := t) (p := p) (q := t.length) hp (Nat.le_refl _) (fun j a b => fin_ne a (by omega))
      rw [List.take_length] at h1
      omega
theorem startR_ex {l : Int} (h0 : 0 ≤ l) (h1 : l ≤ cnt 10 t) : ∃ s : Nat, s ≤ t.length ∧ isSt t s ∧ startR t l = ((s : Int), 0) ∧ cnt 10 (t.take s) = l := by
  obtain ⟨q, hq⟩ := sg_ex (t := t) l.toNat 0 (Nat.zero_le _) (.inl rfl) (by rw [show cnt 10 (t.take 0) = 0 from rfl]; omega)
  rcases startR_cases t l with e | ⟨s, h2, h3, e, _, h4⟩
  · unfold startR at e
    rw [if_neg (by omega), hq] at e
    simp at e
  · exact ⟨s, h2, h3, e, h4⟩
theorem cnt_in {s q : Nat} (h1 : s ≤ q) (h2 : q ≤ fin t s) (hs : s ≤ t.length) : cnt 10 (t.take q) = cnt 10 (t.take s) := cnt_same h1 (Nat.le_trans h2 (fin_le hs)) (fun _ a b => fin_ne a (Nat.lt_of_lt_of_le b h2))
theorem fin_same {p q : Nat} (hp : p ≤ t.length) (h1 : p ≤ q) (h2 : q ≤ fin t p) : fin t q = fin t p := (fin_unique h2 (fin_le hp) (fun _ a b => fin_ne (by omega) b) (fun h => fin_at h)).symm
/-- In a line, up to its last column, a cursor rests. -/
theorem rest_in {s q : Nat} (hs : s ≤ t.length) (hst : isSt t s) (h1 : s ≤ q) (h2 : q ≤ last t s) : rest t q = q := by
  have hf := fin_ge t s
  have hl : last t s ≤ fin t s := by unfold last; omega
  have e1 : fin t q = fin t s := fin_same hs h1 (by omega)
  have e2 : s = beg t q := beg_unique h1 hst (fun j a b => fin_ne a (by omega))
  unfold rest
  rw [if_neg]
  rintro ⟨h3, h4⟩
  unfold last at h2
  omega
theorem atV_last {s : Nat} (c : Int) (hc : -1 ≤ c) : ∃ q : Nat, atV t s c = (q : Int) ∧ s ≤ q ∧ q ≤ last t s := by
  have hl : s ≤ last t s := by unfold last; omega
  unfold atV
  by_cases h1 : c = -1
  · rw [if_pos h1]; exact ⟨_, rfl, hl, Nat.le_refl _⟩
  · rw [if_neg h1]
    by_cases h2 : c > (last t s : Int) - s
    · rw [if_pos h2]; exact ⟨_, rfl, hl, Nat.le_refl _⟩
    · rw [if_neg h2]; exact ⟨s + c.toNat, by omega, by omega, by omega⟩
theorem firstV_last (s : Nat) : s ≤ firstV t s ∧ firstV t s ≤ last t s := by
  have hf := fin_ge t s
  have hl : s ≤ last t s := by unfold last; omega
  have hk := skip_ge t (fin t s - s) s
  unfold firstV
  by_cases h : skip t s (fin t s - s) < fin t s
  · rw [if_pos h]; unfold last at hl ⊢; omega
  · rw [if_neg h]; exact ⟨hl, Nat.le_refl _⟩
/-- A resting place in that line. -/
def There (t : List Int) (l g : Int) : Prop := ∃ q : Nat, g = (q : Int) ∧ q ≤ t.length ∧ cnt 10 (t.take q) = l ∧ rest t q = q
theorem there_of {s q : Nat} {l : Int} (hs : s ≤ t.length) (hst : isSt t s) (hl : cnt 10 (t.take s) = l) (h1 : s ≤ q) (h2 : q ≤ last t s) : There t l (q : Int) := by
  have hf := fin_ge t s
  have hla : last t s ≤ fin t s := by unfold last; omega
  exact ⟨q, rfl, Nat.le_trans (by omega) (fin_le hs), by rw [cnt_in h1 (by omega) hs, hl], rest_in hs hst h1 h2⟩
theorem at_there {l c : Int} (h0 : 0 ≤ l) (h1 : l ≤ cnt 10 t) (hc : -1 ≤ c) : There t l (atR t l c).1 := by
  obtain ⟨s, h2, h3, e, h4⟩ := startR_ex h0 h1
  obtain ⟨q, h5, h6, h7⟩ := atV_last (t := t) (s := s) c hc
  have e2 : (atR t l c).1 = (q : Int) := by
    unfold atR
    rw [e, if_pos rfl, if_neg (by omega)]
    exact h5
  rw [e2]
  exact there_of h2 h3 h4 h6 h7
theorem first_there {l : Int} (h0 : 0 ≤ l) (h1 : l ≤ cnt 10 t) : There t l (firstR t l).1 := by
  obtain ⟨s, h2, h3, e, h4⟩ := startR_ex h0 h1
  obtain ⟨h6, h7⟩ := firstV_last (t := t) s
  have e2 : (firstR t l).1 = (firstV t s : Int) := by
    unfold firstR
    rw [e, if_pos rfl]
    rfl
  rw [e2]
  exact there_of h2 h3 h4 h6 h7
/-- Every line's end is told, and lies in it. -/
theorem end_there {l : Int} (h0 : 0 ≤ l) (h1 : l ≤ cnt 10 t) : ∃ q : Nat, endR t l = ((q : Int), 0) ∧ q ≤ t.length ∧ cnt 10 (t.take q) = l := by
  obtain ⟨s, h2, h3, e, h4⟩ := startR_ex h0 h1
  have hf := fin_ge t s
  refine ⟨fin t s, ?_, fin_le h2, by rw [cnt_in hf (Nat.le_refl _) h2, h4]⟩
  unfold startR at e
  unfold endR
  rw [if_neg (by omega)] at e ⊢
  cases hs : sg t 0 l.toNat with
  | none => rw [hs] at e; simp at e
  | some q' =>
    rw [hs] at e
    have e4 : ((q' : Nat) : Int) = (s : Int) := congrArg Prod.fst e
    obtain rfl : q' = s := by omega
    rfl
theorem end_none {l : Int} (h : l < 0 ∨ l > cnt 10 t) : (endR t l).2 = 2 := by
  unfold endR
  by_cases h0 : l < 0
  · rw [if_pos h0]
  · rw [if_neg h0]
    cases hs : sg t 0 l.toNat with
    | none => rfl
    | some q =>
      exfalso
      obtain ⟨_, _, h3, h4⟩ := sg_some (Nat.zero_le _) (.inl rfl) hs
      rw [show cnt 10 (t.take 0) = 0 from rfl] at h4
      have h5 := cnt_mono (t := t) h3 (Nat.le_refl _)
      rw [List.take_length] at h5
      omega
end
end Go.Proofs.Ytofkcdnkbjpmmaa.Pure
end
section
-- Written by wip/xprint.py over the kit's print.py: the Lean function of each Go function, and the proof that the Go text comes to it.
namespace Go.Proofs.Ytofkcdnkbjpmmaa.X
open Go.RowKit Go.Proofs.YtofkcdnkbjpmmaaW.PrintWords Go.Proofs.YtofkcdnkbjpmmaaW.PrintLast Go.Proofs.YtofkcdnkbjpmmaaW.PrintMore
attribute [local go_sem] max2_int min2_int max_two min_two max_three min_three max_four min_four   -- for this text's walks alone
set_option linter.unusedVariables false
set_option linter.unusedSimpArgs false

/-! ### quoinlaw07_column: function 18 -/
def quoinlaw07_column.f (k : Nat) (l0 : List Int) (a1 : Int) : Option (Int) := (lines_Column.f k l0 a1).bind fun bt508 => (some bt508.1)
theorem quoinlaw07_column.mono : ∀ a0 a1 k, LeO (quoinlaw07_column.f k a0 a1) (quoinlaw07_column.f (k + 1) a0 a1) := by
  intro a0 a1 k
  unfold quoinlaw07_column.f
  repeat' first
      | (with_reducible exact lines_Column.mono _ _ _)
      | (with_reducible exact LeO.refl _)
      | (with_reducible exact LeO.none _)
      | (with_reducible refine LeO.ite ?_ ?_)
      | (with_reducible refine LeO.bind ?_ (fun _ => ?_))
      | exact lines_Column.mono _ _ _
      | exact LeO.none _
      | refine LeO.ite ?_ ?_
      | refine LeO.bind ?_ (fun _ => ?_)
set_option maxHeartbeats 8000000 in
set_option maxRecDepth 100000 in
theorem quoinlaw07_column.calls (k : Nat) (A0 : Option Addr) (c0 : Nat) (l0 : List Int) (a1 : Int) (r : Int) (w : World) (hr0 : Kd.C (Kd.int .u8) w A0 l0.length l0) (hc0 : l0.length ≤ c0) (h : quoinlaw07_column.f k l0 a1 = some r) :
    Calls Try.prog 18 #[.slice A0 l0.length c0, .int .i64 a1] w fun e w' => e = .returned (.int .i64 r) ∧ Drawn0 w w' := by
  have HR0 := Aside0.mk hr0
  have HC0 := Aside0.mk hc0
  clear hr0 hc0
  have H : ((lines_Column.f k l0 a1).bind fun bt508 => (some bt508.1)) = some r := h
  clear h
  replace H := Option.bind_eq_some_iff.mp H
  obtain ⟨⟨t508, t509⟩, A30, H⟩ := H
  replace H : (some t508) = some r := H
  have A3 := Aside0.mk A30
  clear A30
  obtain rfl := Option.some.inj H
  go_enter Try.func18, Try.ntmps18
  go_wp2_with (first | ((with_reducible refine gate_callee (f := 35) rfl ?_); refine goesL_ (some 10) rfl rfl Try.func35 (by kernel_rfl) rfl #[.slice A0 l0.length c0, .int .i64 a1] rfl (by (try simp only [List.map_toArray, List.map_cons, List.map_nil]); first | done | rfl | (simp only [List.length_drop, List.length_take]; rfl)) ?_; (with_reducible refine (lines_Column.calls k _ _ l0 a1 t508 t509 _ ?side1 ?side2 A3.out).mono ?_); (case side1 => repeat (first | exact HR0.out | (with_reducible refine Kd.C_alloc ?_ _) | (with_reducible refine Kd.C_drewN ?_ _) | (with_reducible refine Kd.C_drew ?_))); (case side2 => exact HC0.out); rintro e w' ⟨rfl, ⟨nd, rfl⟩⟩; refine ⟨_, rfl, ?_⟩))
  go_ret
  exact ⟨by first | rfl | (simp; done) | (simp [*]; done), by repeat (first | exact Drawn0.refl _ | apply Drawn0.step)⟩

end Go.Proofs.Ytofkcdnkbjpmmaa.X
end
section
-- Written by wip/xprint.py over the kit's print.py: the Lean function of each Go function, and the proof that the Go text comes to it.
namespace Go.Proofs.Ytofkcdnkbjpmmaa.X
open Go.RowKit Go.Proofs.YtofkcdnkbjpmmaaW.PrintWords Go.Proofs.YtofkcdnkbjpmmaaW.PrintLast Go.Proofs.YtofkcdnkbjpmmaaW.PrintMore
attribute [local go_sem] max2_int min2_int max_two min_two max_three min_three max_four min_four   -- for this text's walks alone
set_option linter.unusedVariables false
set_option linter.unusedSimpArgs false

attribute [local go_sem high] eqA29
/-! ### quoinlaw07_StepPlaces: function 6 -/
mutual
def quoinlaw07_StepPlaces.j0 : Nat → List Int → Int → Int → Bool → Int → Int → Int → ByteArray → Int → Int → Int → Option (Bool)
 | 0, _, _, _, _, _, _, _, _, _, _, _ => none
 | k + 1, x0, x6, x7, x57, x511000, x511001, x511002, x511003, x518000, x518001, x518002 => if x57 = true then (if x7 = 2 then (if (x518000 == 0 && (x518001 == 0 && (x518002 == 0))) = true then (some (x6 == 0)) else (some false)) else (some false)) else ((lines_Of.f x0 x511000).bind fun bt518 => ((lines_Count.f x0).bind fun t520 => (if x511003.toList = ([106] : List UInt8) then (quoinlaw07_StepPlaces.j1 k x0 x6 x7 bt518.1 bt518.2 (wrap64 (t520 - 1)) (mx x511002 1) x511003 (x511003.toList == ([106] : List UInt8)) x511000 x511001 x511002 x511003 x518000 x518001 x518002) else (if x511003.toList = ([43] : List UInt8) then (quoinlaw07_StepPlaces.j1 k x0 x6 x7 bt518.1 bt518.2 (wrap64 (t520 - 1)) (mx x511002 1) x511003 (x511003.toList == ([43] : List UInt8)) x511000 x511001 x511002 x511003 x518000 x518001 x518002) else (quoinlaw07_StepPlaces.j1 k x0 x6 x7 bt518.1 bt518.2 (wrap64 (t520 - 1)) (mx x511002 1) x511003 (x511003.toList == ([13] : List UInt8)) x511000 x511001 x511002 x511003 x518000 x518001 x518002)))))
def quoinlaw07_StepPlaces.j6 : Nat → List Int → Int → Int → Int → Int → Int → Int → Int → ByteArray → Int → Int → Int → Option (Bool)
 | 0, _, _, _, _, _, _, _, _, _, _, _, _ => none
 | k + 1, x0, x6, x7, x10, x12, x511000, x511001, x511002, x511003, x518000, x518001, x518002 => if x12 < 0 then (quoinlaw07_StepPlaces.j7 k x0 x6 x7 x12 true x511000 x511001 x511002 x511003 x518000 x518001 x518002) else (quoinlaw07_StepPlaces.j7 k x0 x6 x7 x12 (decide (x12 > x10)) x511000 x511001 x511002 x511003 x518000 x518001 x518002)
def quoinlaw07_StepPlaces.j7 : Nat → List Int → Int → Int → Int → Bool → Int → Int → Int → ByteArray → Int → Int → Int → Option (Bool)
 | 0, _, _, _, _, _, _, _, _, _, _, _, _ => none
 | k + 1, x0, x6, x7, x12, x221, x511000, x511001, x511002, x511003, x518000, x518001, x518002 => if x221 = true then (if x7 = 70 then (if (x518000 == 0 && (x518001 == 0 && (x518002 == 0))) = true then (some (x6 == 0)) else (some false)) else (some false)) else (if x7 = 0 then (if x518000 = x511000 then (if x518001 < 0 then (quoinlaw07_StepPlaces.j8 k x0 x6 x12 true x511000 x511001 x511002 x511003 x518000 x518001 x518002) else (quoinlaw07_StepPlaces.j8 k x0 x6 x12 (decide (x518001 > (x0.length : Int))) x511000 x511001 x511002 x511003 x518000 x518001 x518002)) else (quoinlaw07_StepPlaces.j8 k x0 x6 x12 true x511000 x511001 x511002 x511003 x518000 x518001 x518002)) else (quoinlaw07_StepPlaces.j8 k x0 x6 x12 true x511000 x511001 x511002 x511003 x518000 x518001 x518002))
def quoinlaw07_StepPlaces.j8 : Nat → List Int → Int → Int → Bool → Int → Int → Int → ByteArray → Int → Int → Int → Option (Bool)
 | 0, _, _, _, _, _, _, _, _, _, _, _ => none
 | k + 1, x0, x6, x12, x253, x511000, x511001, x511002, x511003, x518000, x518001, x518002 => if x253 = true then (some false) else ((lines_Of.f x0 x518001).bind fun bt522 => (if bt522.2 = 0 then (quoinlaw07_StepPlaces.j9 k x0 x6 x12 (bt522.1 != x12) x511000 x511001 x511002 x511003 x518000 x518001 x518002) else (quoinlaw07_StepPlaces.j9 k x0 x6 x12 true x511000 x511001 x511002 x511003 x518000 x518001 x518002)))
def quoinlaw07_StepPlaces.j9 : Nat → List Int → Int → Int → Bool → Int → Int → Int → ByteArray → Int → Int → Int → Option (Bool)
 | 0, _, _, _, _, _, _, _, _, _, _, _ => none
 | k + 1, x0, x6, x12, x267, x511000, x511001, x511002, x511003, x518000, x518001, x518002 => if x267 = true then (some false) else (if x511003.toList = ([36] : List UInt8) then ((lines_End.f k x0 x12).bind fun bt524 => (if bt524.2 = 0 then (if x518001 = bt524.1 then (if x518002 = 1 then (some (x6 == (-1))) else (some false)) else (some false)) else (some false))) else (if x518002 = 3 then ((lines_Rest.f k x0 x518001).bind fun t526 => (quoinlaw07_StepPlaces.j10 k x0 x6 (t526 != x518001) x511000 x511001 x511002 x511003 x518000 x518001 x518002)) else (quoinlaw07_StepPlaces.j10 k x0 x6 true x511000 x511001 x511002 x511003 x518000 x518001 x518002)))
def quoinlaw07_StepPlaces.j10 : Nat → List Int → Int → Bool → Int → Int → Int → ByteArray → Int → Int → Int → Option (Bool)
 | 0, _, _, _, _, _, _, _, _, _, _ => none
 | k + 1, x0, x6, x305, x511000, x511001, x511002, x511003, x518000, x518001, x518002 => if x305 = true then (some false) else (if x511003.toList = ([106] : List UInt8) then (some (x6 == x511001)) else (if x511003.toList = ([107] : List UInt8) then (some (x6 == x511001)) else ((quoinlaw07_column.f k x0 x518001).bind fun t527 => (some (x6 == t527)))))
def quoinlaw07_StepPlaces.j1 : Nat → List Int → Int → Int → Int → Int → Int → Int → ByteArray → Bool → Int → Int → Int → ByteArray → Int → Int → Int → Option (Bool)
 | 0, _, _, _, _, _, _, _, _, _, _, _, _, _, _, _, _ => none
 | k + 1, x0, x6, x7, x8, x9, x10, x11, x83, x95, x511000, x511001, x511002, x511003, x518000, x518001, x518002 => if x95 = true then (quoinlaw07_StepPlaces.j6 k x0 x6 x7 x10 (wrap64 (x8 + x11)) x511000 x511001 x511002 x511003 x518000 x518001 x518002) else (if x83.toList = ([107] : List UInt8) then (quoinlaw07_StepPlaces.j2 k x0 x6 x7 x8 x9 x10 x11 x83 (x83.toList == ([107] : List UInt8)) x511000 x511001 x511002 x511003 x518000 x518001 x518002) else (quoinlaw07_StepPlaces.j2 k x0 x6 x7 x8 x9 x10 x11 x83 (x83.toList == ([45] : List UInt8)) x511000 x511001 x511002 x511003 x518000 x518001 x518002))
def quoinlaw07_StepPlaces.j2 : Nat → List Int → Int → Int → Int → Int → Int → Int → ByteArray → Bool → Int → Int → Int → ByteArray → Int → Int → Int → Option (Bool)
 | 0, _, _, _, _, _, _, _, _, _, _, _, _, _, _, _, _ => none
 | k + 1, x0, x6, x7, x8, x9, x10, x11, x83, x102, x511000, x511001, x511002, x511003, x518000, x518001, x518002 => if x102 = true then (quoinlaw07_StepPlaces.j6 k x0 x6 x7 x10 (wrap64 (x8 - x11)) x511000 x511001 x511002 x511003 x518000 x518001 x518002) else (if x83.toList = ([95] : List UInt8) then (quoinlaw07_StepPlaces.j3 k x0 x6 x7 x8 x9 x10 x11 x83 (x83.toList == ([95] : List UInt8)) x511000 x511001 x511002 x511003 x518000 x518001 x518002) else (quoinlaw07_StepPlaces.j3 k x0 x6 x7 x8 x9 x10 x11 x83 (x83.toList == ([36] : List UInt8)) x511000 x511001 x511002 x511003 x518000 x518001 x518002))
def quoinlaw07_StepPlaces.j3 : Nat → List Int → Int → Int → Int → Int → Int → Int → ByteArray → Bool → Int → Int → Int → ByteArray → Int → Int → Int → Option (Bool)
 | 0, _, _, _, _, _, _, _, _, _, _, _, _, _, _, _, _ => none
 | k + 1, x0, x6, x7, x8, x9, x10, x11, x83, x108, x511000, x511001, x511002, x511003, x518000, x518001, x518002 => if x108 = true then (quoinlaw07_StepPlaces.j6 k x0 x6 x7 x10 (wrap64 ((wrap64 (x8 + x11)) - 1)) x511000 x511001 x511002 x511003 x518000 x518001 x518002) else (if x83.toList = ([71] : List UInt8) then (quoinlaw07_StepPlaces.j4 k x0 x6 x7 x9 x10 x11 x83 (x83.toList == ([71] : List UInt8)) x511000 x511001 x511002 x511003 x518000 x518001 x518002) else (quoinlaw07_StepPlaces.j4 k x0 x6 x7 x9 x10 x11 x83 (x83.toList == ([103, 103] : List UInt8)) x511000 x511001 x511002 x511003 x518000 x518001 x518002))
def quoinlaw07_StepPlaces.j4 : Nat → List Int → Int → Int → Int → Int → Int → ByteArray → Bool → Int → Int → Int → ByteArray → Int → Int → Int → Option (Bool)
 | 0, _, _, _, _, _, _, _, _, _, _, _, _, _, _, _ => none
 | k + 1, x0, x6, x7, x9, x10, x11, x83, x115, x511000, x511001, x511002, x511003, x518000, x518001, x518002 => if x115 = true then (if x511003.toList = ([71] : List UInt8) then (if x511002 = 0 then (quoinlaw07_StepPlaces.j6 k x0 x6 x7 x10 x10 x511000 x511001 x511002 x511003 x518000 x518001 x518002) else (quoinlaw07_StepPlaces.j6 k x0 x6 x7 x10 (wrap64 (x11 - 1)) x511000 x511001 x511002 x511003 x518000 x518001 x518002)) else (quoinlaw07_StepPlaces.j6 k x0 x6 x7 x10 (wrap64 (x11 - 1)) x511000 x511001 x511002 x511003 x518000 x518001 x518002)) else (if x83.toList = ([104] : List UInt8) then (quoinlaw07_StepPlaces.j5 k x0 x6 x7 x9 x11 (x83.toList == ([104] : List UInt8)) x511000 x511001 x511002 x511003 x518000 x518001 x518002) else (if x83.toList = ([108] : List UInt8) then (quoinlaw07_StepPlaces.j5 k x0 x6 x7 x9 x11 (x83.toList == ([108] : List UInt8)) x511000 x511001 x511002 x511003 x518000 x518001 x518002) else (if x83.toList = ([32] : List UInt8) then (quoinlaw07_StepPlaces.j5 k x0 x6 x7 x9 x11 (x83.toList == ([32] : List UInt8)) x511000 x511001 x511002 x511003 x518000 x518001 x518002) else (if x83.toList = ([8] : List UInt8) then (quoinlaw07_StepPlaces.j5 k x0 x6 x7 x9 x11 (x83.toList == ([8] : List UInt8)) x511000 x511001 x511002 x511003 x518000 x518001 x518002) else (if x83.toList = ([48] : List UInt8) then (quoinlaw07_StepPlaces.j5 k x0 x6 x7 x9 x11 (x83.toList == ([48] : List UInt8)) x511000 x511001 x511002 x511003 x518000 x518001 x518002) else (if x83.toList = ([94] : List UInt8) then (quoinlaw07_StepPlaces.j5 k x0 x6 x7 x9 x11 (x83.toList == ([94] : List UInt8)) x511000 x511001 x511002 x511003 x518000 x518001 x518002) else (quoinlaw07_StepPlaces.j5 k x0 x6 x7 x9 x11 (x83.toList == ([124] : List UInt8)) x511000 x511001 x511002 x511003 x518000 x518001 x518002)))))))
def quoinlaw07_StepPlaces.j5 : Nat → List Int → Int → Int → Int → Int → Bool → Int → Int → Int → ByteArray → Int → Int → Int → Option (Bool)
 | 0, _, _, _, _, _, _, _, _, _, _, _, _, _ => none
 | k + 1, x0, x6, x7, x9, x11, x129, x511000, x511001, x511002, x511003, x518000, x518001, x518002 => if x129 = true then (if x7 = 0 then (if x9 = 0 then (if x518000 = x511000 then (if x518001 ≥ 0 then (if x518001 ≤ (x0.length : Int) then (if x518002 = 1 then (if x511003.toList = ([124] : List UInt8) then (if x6 = (wrap64 (x11 - 1)) then (some true) else (some false)) else ((quoinlaw07_column.f k x0 x518001).bind fun t521 => (some (t521 == x6)))) else (some false)) else (some false)) else (some false)) else (some false)) else (some false)) else (if x7 = 70 then (if (x518000 == 0 && (x518001 == 0 && (x518002 == 0))) = true then (if x6 = 0 then (if x511003.toList = ([48] : List UInt8) then (some false) else (if x511003.toList = ([94] : List UInt8) then (some false) else (some (x511003.toList != ([124] : List UInt8))))) else (some false)) else (some false)) else (some false))) else (if x7 = 2 then (if (x518000 == 0 && (x518001 == 0 && (x518002 == 0))) = true then (some (x6 == 0)) else (some false)) else (some false))
end
def quoinlaw07_StepPlaces.f (k : Nat) (l0 : List Int) (a1_0 : Int) (a1_1 : Int) (a1_2 : Int) (a1_3 : ByteArray) : Option (Bool) := (quoinlaw07_awake.f k).bind fun t511 => (if t511 = true then ((step_Move.f k l0 a1_0 a1_1 a1_2 a1_3).bind fun bt512 => (if a1_0 < 0 then (quoinlaw07_StepPlaces.j0 k l0 bt512.2.2.2.1 bt512.2.2.2.2 true a1_0 a1_1 a1_2 a1_3 bt512.1 bt512.2.1 bt512.2.2.1) else (if a1_0 > (l0.length : Int) then (quoinlaw07_StepPlaces.j0 k l0 bt512.2.2.2.1 bt512.2.2.2.2 true a1_0 a1_1 a1_2 a1_3 bt512.1 bt512.2.1 bt512.2.2.1) else (if a1_1 < (-1) then (quoinlaw07_StepPlaces.j0 k l0 bt512.2.2.2.1 bt512.2.2.2.2 true a1_0 a1_1 a1_2 a1_3 bt512.1 bt512.2.1 bt512.2.2.1) else (if a1_2 < 0 then (quoinlaw07_StepPlaces.j0 k l0 bt512.2.2.2.1 bt512.2.2.2.2 true a1_0 a1_1 a1_2 a1_3 bt512.1 bt512.2.1 bt512.2.2.1) else (quoinlaw07_StepPlaces.j0 k l0 bt512.2.2.2.1 bt512.2.2.2.2 (decide (a1_2 > 9999)) a1_0 a1_1 a1_2 a1_3 bt512.1 bt512.2.1 bt512.2.2.1)))))) else (some false))
theorem quoinlaw07_StepPlaces.mono_l : ∀ k, (∀ y0 y1 y2 y3 y4 y5 y6 y7 y8 y9 y10, LeO (quoinlaw07_StepPlaces.j0 k y0 y1 y2 y3 y4 y5 y6 y7 y8 y9 y10) (quoinlaw07_StepPlaces.j0 (k + 1) y0 y1 y2 y3 y4 y5 y6 y7 y8 y9 y10)) ∧ (∀ y0 y1 y2 y3 y4 y5 y6 y7 y8 y9 y10 y11, LeO (quoinlaw07_StepPlaces.j6 k y0 y1 y2 y3 y4 y5 y6 y7 y8 y9 y10 y11) (quoinlaw07_StepPlaces.j6 (k + 1) y0 y1 y2 y3 y4 y5 y6 y7 y8 y9 y10 y11)) ∧ (∀ y0 y1 y2 y3 y4 y5 y6 y7 y8 y9 y10 y11, LeO (quoinlaw07_StepPlaces.j7 k y0 y1 y2 y3 y4 y5 y6 y7 y8 y9 y10 y11) (quoinlaw07_StepPlaces.j7 (k + 1) y0 y1 y2 y3 y4 y5 y6 y7 y8 y9 y10 y11)) ∧ (∀ y0 y1 y2 y3 y4 y5 y6 y7 y8 y9 y10, LeO (quoinlaw07_StepPlaces.j8 k y0 y1 y2 y3 y4 y5 y6 y7 y8 y9 y10) (quoinlaw07_StepPlaces.j8 (k + 1) y0 y1 y2 y3 y4 y5 y6 y7 y8 y9 y10)) ∧ (∀ y0 y1 y2 y3 y4 y5 y6 y7 y8 y9 y10, LeO (quoinlaw07_StepPlaces.j9 k y0 y1 y2 y3 y4 y5 y6 y7 y8 y9 y10) (quoinlaw07_StepPlaces.j9 (k + 1) y0 y1 y2 y3 y4 y5 y6 y7 y8 y9 y10)) ∧ (∀ y0 y1 y2 y3 y4 y5 y6 y7 y8 y9, LeO (quoinlaw07_StepPlaces.j10 k y0 y1 y2 y3 y4 y5 y6 y7 y8 y9) (quoinlaw07_StepPlaces.j10 (k + 1) y0 y1 y2 y3 y4 y5 y6 y7 y8 y9)) ∧ (∀ y0 y1 y2 y3 y4 y5 y6 y7 y8 y9 y10 y11 y12 y13 y14 y15, LeO (quoinlaw07_StepPlaces.j1 k y0 y1 y2 y3 y4 y5 y6 y7 y8 y9 y10 y11 y12 y13 y14 y15) (quoinlaw07_StepPlaces.j1 (k + 1) y0 y1 y2 y3 y4 y5 y6 y7 y8 y9 y10 y11 y12 y13 y14 y15)) ∧ (∀ y0 y1 y2 y3 y4 y5 y6 y7 y8 y9 y10 y11 y12 y13 y14 y15, LeO (quoinlaw07_StepPlaces.j2 k y0 y1 y2 y3 y4 y5 y6 y7 y8 y9 y10 y11 y12 y13 y14 y15) (quoinlaw07_StepPlaces.j2 (k + 1) y0 y1 y2 y3 y4 y5 y6 y7 y8 y9 y10 y11 y12 y13 y14 y15)) ∧ (∀ y0 y1 y2 y3 y4 y5 y6 y7 y8 y9 y10 y11 y12 y13 y14 y15, LeO (quoinlaw07_StepPlaces.j3 k y0 y1 y2 y3 y4 y5 y6 y7 y8 y9 y10 y11 y12 y13 y14 y15) (quoinlaw07_StepPlaces.j3 (k + 1) y0 y1 y2 y3 y4 y5 y6 y7 y8 y9 y10 y11 y12 y13 y14 y15)) ∧ (∀ y0 y1 y2 y3 y4 y5 y6 y7 y8 y9 y10 y11 y12 y13 y14, LeO (quoinlaw07_StepPlaces.j4 k y0 y1 y2 y3 y4 y5 y6 y7 y8 y9 y10 y11 y12 y13 y14) (quoinlaw07_StepPlaces.j4 (k + 1) y0 y1 y2 y3 y4 y5 y6 y7 y8 y9 y10 y11 y12 y13 y14)) ∧ (∀ y0 y1 y2 y3 y4 y5 y6 y7 y8 y9 y10 y11 y12, LeO (quoinlaw07_StepPlaces.j5 k y0 y1 y2 y3 y4 y5 y6 y7 y8 y9 y10 y11 y12) (quoinlaw07_StepPlaces.j5 (k + 1) y0 y1 y2 y3 y4 y5 y6 y7 y8 y9 y10 y11 y12))
 | 0 => ⟨fun _ _ _ _ _ _ _ _ _ _ _ r h => by simp [quoinlaw07_StepPlaces.j0] at h, fun _ _ _ _ _ _ _ _ _ _ _ _ r h => by simp [quoinlaw07_StepPlaces.j6] at h, fun _ _ _ _ _ _ _ _ _ _ _ _ r h => by simp [quoinlaw07_StepPlaces.j7] at h, fun _ _ _ _ _ _ _ _ _ _ _ r h => by simp [quoinlaw07_StepPlaces.j8] at h, fun _ _ _ _ _ _ _ _ _ _ _ r h => by simp [quoinlaw07_StepPlaces.j9] at h, fun _ _ _ _ _ _ _ _ _ _ r h => by simp [quoinlaw07_StepPlaces.j10] at h, fun _ _ _ _ _ _ _ _ _ _ _ _ _ _ _ _ r h => by simp [quoinlaw07_StepPlaces.j1] at h, fun _ _ _ _ _ _ _ _ _ _ _ _ _ _ _ _ r h => by simp [quoinlaw07_StepPlaces.j2] at h, fun _ _ _ _ _ _ _ _ _ _ _ _ _ _ _ _ r h => by simp [quoinlaw07_StepPlaces.j3] at h, fun _ _ _ _ _ _ _ _ _ _ _ _ _ _ _ r h => by simp [quoinlaw07_StepPlaces.j4] at h, fun _ _ _ _ _ _ _ _ _ _ _ _ _ r h => by simp [quoinlaw07_StepPlaces.j5] at h⟩
 | k + 1 => by
  obtain ⟨ih0, ih1, ih2, ih3, ih4, ih5, ih6, ih7, ih8, ih9, ih10⟩ := quoinlaw07_StepPlaces.mono_l k
  refine ⟨?_, ?_, ?_, ?_, ?_, ?_, ?_, ?_, ?_, ?_, ?_⟩
  ·intro y0 y1 y2 y3 y4 y5 y6 y7 y8 y9 y10
   unfold quoinlaw07_StepPlaces.j0
   repeat' first
   | (with_reducible exact ih0 _ _ _ _ _ _ _ _ _ _ _)
   | (with_reducible exact ih1 _ _ _ _ _ _ _ _ _ _ _ _)
   | (with_reducible exact ih2 _ _ _ _ _ _ _ _ _ _ _ _)
   | (with_reducible exact ih3 _ _ _ _ _ _ _ _ _ _ _)
   | (with_reducible exact ih4 _ _ _ _ _ _ _ _ _ _ _)
   | (with_reducible exact ih5 _ _ _ _ _ _ _ _ _ _)
   | (with_reducible exact ih6 _ _ _ _ _ _ _ _ _ _ _ _ _ _ _ _)
   | (with_reducible exact ih7 _ _ _ _ _ _ _ _ _ _ _ _ _ _ _ _)
   | (with_reducible exact ih8 _ _ _ _ _ _ _ _ _ _ _ _ _ _ _ _)
   | (with_reducible exact ih9 _ _ _ _ _ _ _ _ _ _ _ _ _ _ _)
   | (with_reducible exact ih10 _ _ _ _ _ _ _ _ _ _ _ _ _)
   | (with_reducible exact lines_End.mono _ _ _)
   | (with_reducible exact lines_Rest.mono _ _ _)
   | (with_reducible exact quoinlaw07_awake.mono _)
   | (with_reducible exact quoinlaw07_column.mono _ _ _)
   | (with_reducible exact step_Move.mono _ _ _ _ _ _)
   | (with_reducible exact LeO.refl _)
   | (with_reducible exact LeO.none _)
   | (with_reducible refine LeO.ite ?_ ?_)
   | (with_reducible refine LeO.bind ?_ (fun _ => ?_))
   | exact ih0 _ _ _ _ _ _ _ _ _ _ _
   | exact ih1 _ _ _ _ _ _ _ _ _ _ _ _
   | exact ih2 _ _ _ _ _ _ _ _ _ _ _ _
   | exact ih3 _ _ _ _ _ _ _ _ _ _ _
   | exact ih4 _ _ _ _ _ _ _ _ _ _ _
   | exact ih5 _ _ _ _ _ _ _ _ _ _
   | exact ih6 _ _ _ _ _ _ _ _ _ _ _ _ _ _ _ _
   | exact ih7 _ _ _ _ _ _ _ _ _ _ _ _ _ _ _ _
   | exact ih8 _ _ _ _ _ _ _ _ _ _ _ _ _ _ _ _
   | exact ih9 _ _ _ _ _ _ _ _ _ _ _ _ _ _ _
   | exact ih10 _ _ _ _ _ _ _ _ _ _ _ _ _
   | exact lines_End.mono _ _ _
   | exact lines_Rest.mono _ _ _
   | exact quoinlaw07_awake.mono _
   | exact quoinlaw07_column.mono _ _ _
   | exact step_Move.mono _ _ _ _ _ _
   | exact LeO.none _
   | refine LeO.ite ?_ ?_
   | refine LeO.bind ?_ (fun _ => ?_)
  ·intro y0 y1 y2 y3 y4 y5 y6 y7 y8 y9 y10 y11
   unfold quoinlaw07_StepPlaces.j6
   repeat' first
   | (with_reducible exact ih0 _ _ _ _ _ _ _ _ _ _ _)
   | (with_reducible exact ih1 _ _ _ _ _ _ _ _ _ _ _ _)
   | (with_reducible exact ih2 _ _ _ _ _ _ _ _ _ _ _ _)
   | (with_reducible exact ih3 _ _ _ _ _ _ _ _ _ _ _)
   | (with_reducible exact ih4 _ _ _ _ _ _ _ _ _ _ _)
   | (with_reducible exact ih5 _ _ _ _ _ _ _ _ _ _)
   | (with_reducible exact ih6 _ _ _ _ _ _ _ _ _ _ _ _ _ _ _ _)
   | (with_reducible exact ih7 _ _ _ _ _ _ _ _ _ _ _ _ _ _ _ _)
   | (with_reducible exact ih8 _ _ _ _ _ _ _ _ _ _ _ _ _ _ _ _)
   | (with_reducible exact ih9 _ _ _ _ _ _ _ _ _ _ _ _ _ _ _)
   | (with_reducible exact ih10 _ _ _ _ _ _ _ _ _ _ _ _ _)
   | (with_reducible exact lines_End.mono _ _ _)
   | (with_reducible exact lines_Rest.mono _ _ _)
   | (with_reducible exact quoinlaw07_awake.mono _)
   | (with_reducible exact quoinlaw07_column.mono _ _ _)
   | (with_reducible exact step_Move.mono _ _ _ _ _ _)
   | (with_reducible exact LeO.refl _)
   | (with_reducible exact LeO.none _)
   | (with_reducible refine LeO.ite ?_ ?_)
   | (with_reducible refine LeO.bind ?_ (fun _ => ?_))
   | exact ih0 _ _ _ _ _ _ _ _ _ _ _
   | exact ih1 _ _ _ _ _ _ _ _ _ _ _ _
   | exact ih2 _ _ _ _ _ _ _ _ _ _ _ _
   | exact ih3 _ _ _ _ _ _ _ _ _ _ _
   | exact ih4 _ _ _ _ _ _ _ _ _ _ _
   | exact ih5 _ _ _ _ _ _ _ _ _ _
   | exact ih6 _ _ _ _ _ _ _ _ _ _ _ _ _ _ _ _
   | exact ih7 _ _ _ _ _ _ _ _ _ _ _ _ _ _ _ _
   | exact ih8 _ _ _ _ _ _ _ _ _ _ _ _ _ _ _ _
   | exact ih9 _ _ _ _ _ _ _ _ _ _ _ _ _ _ _
   | exact ih10 _ _ _ _ _ _ _ _ _ _ _ _ _
   | exact lines_End.mono _ _ _
   | exact lines_Rest.mono _ _ _
   | exact quoinlaw07_awake.mono _
   | exact quoinlaw07_column.mono _ _ _
   | exact step_Move.mono _ _ _ _ _ _
   | exact LeO.none _
   | refine LeO.ite ?_ ?_
   | refine LeO.bind ?_ (fun _ => ?_)
  ·intro y0 y1 y2 y3 y4 y5 y6 y7 y8 y9 y10 y11
   unfold quoinlaw07_StepPlaces.j7
   repeat' first
   | (with_reducible exact ih0 _ _ _ _ _ _ _ _ _ _ _)
   | (with_reducible exact ih1 _ _ _ _ _ _ _ _ _ _ _ _)
   | (with_reducible exact ih2 _ _ _ _ _ _ _ _ _ _ _ _)
   | (with_reducible exact ih3 _ _ _ _ _ _ _ _ _ _ _)
   | (with_reducible exact ih4 _ _ _ _ _ _ _ _ _ _ _)
   | (with_reducible exact ih5 _ _ _ _ _ _ _ _ _ _)
   | (with_reducible exact ih6 _ _ _ _ _ _ _ _ _ _ _ _ _ _ _ _)
   | (with_reducible exact ih7 _ _ _ _ _ _ _ _ _ _ _ _ _ _ _ _)
   | (with_reducible exact ih8 _ _ _ _ _ _ _ _ _ _ _ _ _ _ _ _)
   | (with_reducible exact ih9 _ _ _ _ _ _ _ _ _ _ _ _ _ _ _)
   | (with_reducible exact ih10 _ _ _ _ _ _ _ _ _ _ _ _ _)
   | (with_reducible exact lines_End.mono _ _ _)
   | (with_reducible exact lines_Rest.mono _ _ _)
   | (with_reducible exact quoinlaw07_awake.mono _)
   | (with_reducible exact quoinlaw07_column.mono _ _ _)
   | (with_reducible exact step_Move.mono _ _ _ _ _ _)
   | (with_reducible exact LeO.refl _)
   | (with_reducible exact LeO.none _)
   | (with_reducible refine LeO.ite ?_ ?_)
   | (with_reducible refine LeO.bind ?_ (fun _ => ?_))
   | exact ih0 _ _ _ _ _ _ _ _ _ _ _
   | exact ih1 _ _ _ _ _ _ _ _ _ _ _ _
   | exact ih2 _ _ _ _ _ _ _ _ _ _ _ _
   | exact ih3 _ _ _ _ _ _ _ _ _ _ _
   | exact ih4 _ _ _ _ _ _ _ _ _ _ _
   | exact ih5 _ _ _ _ _ _ _ _ _ _
   | exact ih6 _ _ _ _ _ _ _ _ _ _ _ _ _ _ _ _
   | exact ih7 _ _ _ _ _ _ _ _ _ _ _ _ _ _ _ _
   | exact ih8 _ _ _ _ _ _ _ _ _ _ _ _ _ _ _ _
   | exact ih9 _ _ _ _ _ _ _ _ _ _ _ _ _ _ _
   | exact ih10 _ _ _ _ _ _ _ _ _ _ _ _ _
   | exact lines_End.mono _ _ _
   | exact lines_Rest.mono _ _ _
   | exact quoinlaw07_awake.mono _
   | exact quoinlaw07_column.mono _ _ _
   | exact step_Move.mono _ _ _ _ _ _
   | exact LeO.none _
   | refine LeO.ite ?_ ?_
   | refine LeO.bind ?_ (fun _ => ?_)
  ·intro y0 y1 y2 y3 y4 y5 y6 y7 y8 y9 y10
   unfold quoinlaw07_StepPlaces.j8
   repeat' first
   | (with_reducible exact ih0 _ _ _ _ _ _ _ _ _ _ _)
   | (with_reducible exact ih1 _ _ _ _ _ _ _ _ _ _ _ _)
   | (with_reducible exact ih2 _ _ _ _ _ _ _ _ _ _ _ _)
   | (with_reducible exact ih3 _ _ _ _ _ _ _ _ _ _ _)
   | (with_reducible exact ih4 _ _ _ _ _ _ _ _ _ _ _)
   | (with_reducible exact ih5 _ _ _ _ _ _ _ _ _ _)
   | (with_reducible exact ih6 _ _ _ _ _ _ _ _ _ _ _ _ _ _ _ _)
   | (with_reducible exact ih7 _ _ _ _ _ _ _ _ _ _ _ _ _ _ _ _)
   | (with_reducible exact ih8 _ _ _ _ _ _ _ _ _ _ _ _ _ _ _ _)
   | (with_reducible exact ih9 _ _ _ _ _ _ _ _ _ _ _ _ _ _ _)
   | (with_reducible exact ih10 _ _ _ _ _ _ _ _ _ _ _ _ _)
   | (with_reducible exact lines_End.mono _ _ _)
   | (with_reducible exact lines_Rest.mono _ _ _)
   | (with_reducible exact quoinlaw07_awake.mono _)
   | (with_reducible exact quoinlaw07_column.mono _ _ _)
   | (with_reducible exact step_Move.mono _ _ _ _ _ _)
   | (with_reducible exact LeO.refl _)
   | (with_reducible exact LeO.none _)
   | (with_reducible refine LeO.ite ?_ ?_)
   | (with_reducible refine LeO.bind ?_ (fun _ => ?_))
   | exact ih0 _ _ _ _ _ _ _ _ _ _ _
   | exact ih1 _ _ _ _ _ _ _ _ _ _ _ _
   | exact ih2 _ _ _ _ _ _ _ _ _ _ _ _
   | exact ih3 _ _ _ _ _ _ _ _ _ _ _
   | exact ih4 _ _ _ _ _ _ _ _ _ _ _
   | exact ih5 _ _ _ _ _ _ _ _ _ _
   | exact ih6 _ _ _ _ _ _ _ _ _ _ _ _ _ _ _ _
   | exact ih7 _ _ _ _ _ _ _ _ _ _ _ _ _ _ _ _
   | exact ih8 _ _ _ _ _ _ _ _ _ _ _ _ _ _ _ _
   | exact ih9 _ _ _ _ _ _ _ _ _ _ _ _ _ _ _
   | exact ih10 _ _ _ _ _ _ _ _ _ _ _ _ _
   | exact lines_End.mono _ _ _
   | exact lines_Rest.mono _ _ _
   | exact quoinlaw07_awake.mono _
   | exact quoinlaw07_column.mono _ _ _
   | exact step_Move.mono _ _ _ _ _ _
   | exact LeO.none _
   | refine LeO.ite ?_ ?_
   | refine LeO.bind ?_ (fun _ => ?_)
  ·intro y0 y1 y2 y3 y4 y5 y6 y7 y8 y9 y10
   unfold quoinlaw07_StepPlaces.j9
   repeat' first
   | (with_reducible exact ih0 _ _ _ _ _ _ _ _ _ _ _)
   | (with_reducible exact ih1 _ _ _ _ _ _ _ _ _ _ _ _)
   | (with_reducible exact ih2 _ _ _ _ _ _ _ _ _ _ _ _)
   | (with_reducible exact ih3 _ _ _ _ _ _ _ _ _ _ _)
   | (with_reducible exact ih4 _ _ _ _ _ _ _ _ _ _ _)
   | (with_reducible exact ih5 _ _ _ _ _ _ _ _ _ _)
   | (with_reducible exact ih6 _ _ _ _ _ _ _ _ _ _ _ _ _ _ _ _)
   | (with_reducible exact ih7 _ _ _ _ _ _ _ _ _ _ _ _ _ _ _ _)
   | (with_reducible exact ih8 _ _ _ _ _ _ _ _ _ _ _ _ _ _ _ _)
   | (with_reducible exact ih9 _ _ _ _ _ _ _ _ _ _ _ _ _ _ _)
   | (with_reducible exact ih10 _ _ _ _ _ _ _ _ _ _ _ _ _)
   | (with_reducible exact lines_End.mono _ _ _)
   | (with_reducible exact lines_Rest.mono _ _ _)
   | (with_reducible exact quoinlaw07_awake.mono _)
   | (with_reducible exact quoinlaw07_column.mono _ _ _)
   | (with_reducible exact step_Move.mono _ _ _ _ _ _)
   | (with_reducible exact LeO.refl _)
   | (with_reducible exact LeO.none _)
   | (with_reducible refine LeO.ite ?_ ?_)
   | (with_reducible refine LeO.bind ?_ (fun _ => ?_))
   | exact ih0 _ _ _ _ _ _ _ _ _ _ _
   | exact ih1 _ _ _ _ _ _ _ _ _ _ _ _
   | exact ih2 _ _ _ _ _ _ _ _ _ _ _ _
   | exact ih3 _ _ _ _ _ _ _ _ _ _ _
   | exact ih4 _ _ _ _ _ _ _ _ _ _ _
   | exact ih5 _ _ _ _ _ _ _ _ _ _
   | exact ih6 _ _ _ _ _ _ _ _ _ _ _ _ _ _ _ _
   | exact ih7 _ _ _ _ _ _ _ _ _ _ _ _ _ _ _ _
   | exact ih8 _ _ _ _ _ _ _ _ _ _ _ _ _ _ _ _
   | exact ih9 _ _ _ _ _ _ _ _ _ _ _ _ _ _ _
   | exact ih10 _ _ _ _ _ _ _ _ _ _ _ _ _
   | exact lines_End.mono _ _ _
   | exact lines_Rest.mono _ _ _
   | exact quoinlaw07_awake.mono _
   | exact quoinlaw07_column.mono _ _ _
   | exact step_Move.mono _ _ _ _ _ _
   | exact LeO.none _
   | refine LeO.ite ?_ ?_
   | refine LeO.bind ?_ (fun _ => ?_)
  ·intro y0 y1 y2 y3 y4 y5 y6 y7 y8 y9
   unfold quoinlaw07_StepPlaces.j10
   repeat' first
   | (with_reducible exact ih0 _ _ _ _ _ _ _ _ _ _ _)
   | (with_reducible exact ih1 _ _ _ _ _ _ _ _ _ _ _ _)
   | (with_reducible exact ih2 _ _ _ _ _ _ _ _ _ _ _ _)
   | (with_reducible exact ih3 _ _ _ _ _ _ _ _ _ _ _)
   | (with_reducible exact ih4 _ _ _ _ _ _ _ _ _ _ _)
   | (with_reducible exact ih5 _ _ _ _ _ _ _ _ _ _)
   | (with_reducible exact ih6 _ _ _ _ _ _ _ _ _ _ _ _ _ _ _ _)
   | (with_reducible exact ih7 _ _ _ _ _ _ _ _ _ _ _ _ _ _ _ _)
   | (with_reducible exact ih8 _ _ _ _ _ _ _ _ _ _ _ _ _ _ _ _)
   | (with_reducible exact ih9 _ _ _ _ _ _ _ _ _ _ _ _ _ _ _)
   | (with_reducible exact ih10 _ _ _ _ _ _ _ _ _ _ _ _ _)
   | (with_reducible exact lines_End.mono _ _ _)
   | (with_reducible exact lines_Rest.mono _ _ _)
   | (with_reducible exact quoinlaw07_awake.mono _)
   | (with_reducible exact quoinlaw07_column.mono _ _ _)
   | (with_reducible exact step_Move.mono _ _ _ _ _ _)
   | (with_reducible exact LeO.refl _)
   | (with_reducible exact LeO.none _)
   | (with_reducible refine LeO.ite ?_ ?_)
   | (with_reducible refine LeO.bind ?_ (fun _ => ?_))
   | exact ih0 _ _ _ _ _ _ _ _ _ _ _
   | exact ih1 _ _ _ _ _ _ _ _ _ _ _ _
   | exact ih2 _ _ _ _ _ _ _ _ _ _ _ _
   | exact ih3 _ _ _ _ _ _ _ _ _ _ _
   | exact ih4 _ _ _ _ _ _ _ _ _ _ _
   | exact ih5 _ _ _ _ _ _ _ _ _ _
   | exact ih6 _ _ _ _ _ _ _ _ _ _ _ _ _ _ _ _
   | exact ih7 _ _ _ _ _ _ _ _ _ _ _ _ _ _ _ _
   | exact ih8 _ _ _ _ _ _ _ _ _ _ _ _ _ _ _ _
   | exact ih9 _ _ _ _ _ _ _ _ _ _ _ _ _ _ _
   | exact ih10 _ _ _ _ _ _ _ _ _ _ _ _ _
   | exact lines_End.mono _ _ _
   | exact lines_Rest.mono _ _ _
   | exact quoinlaw07_awake.mono _
   | exact quoinlaw07_column.mono _ _ _
   | exact step_Move.mono _ _ _ _ _ _
   | exact LeO.none _
   | refine LeO.ite ?_ ?_
   | refine LeO.bind ?_ (fun _ => ?_)
  ·intro y0 y1 y2 y3 y4 y5 y6 y7 y8 y9 y10 y11 y12 y13 y14 y15
   unfold quoinlaw07_StepPlaces.j1
   repeat' first
   | (with_reducible exact ih0 _ _ _ _ _ _ _ _ _ _ _)
   | (with_reducible exact ih1 _ _ _ _ _ _ _ _ _ _ _ _)
   | (with_reducible exact ih2 _ _ _ _ _ _ _ _ _ _ _ _)
   | (with_reducible exact ih3 _ _ _ _ _ _ _ _ _ _ _)
   | (with_reducible exact ih4 _ _ _ _ _ _ _ _ _ _ _)
   | (with_reducible exact ih5 _ _ _ _ _ _ _ _ _ _)
   | (with_reducible exact ih6 _ _ _ _ _ _ _ _ _ _ _ _ _ _ _ _)
   | (with_reducible exact ih7 _ _ _ _ _ _ _ _ _ _ _ _ _ _ _ _)
   | (with_reducible exact ih8 _ _ _ _ _ _ _ _ _ _ _ _ _ _ _ _)
   | (with_reducible exact ih9 _ _ _ _ _ _ _ _ _ _ _ _ _ _ _)
   | (with_reducible exact ih10 _ _ _ _ _ _ _ _ _ _ _ _ _)
   | (with_reducible exact lines_End.mono _ _ _)
   | (with_reducible exact lines_Rest.mono _ _ _)
   | (with_reducible exact quoinlaw07_awake.mono _)
   | (with_reducible exact quoinlaw07_column.mono _ _ _)
   | (with_reducible exact step_Move.mono _ _ _ _ _ _)
   | (with_reducible exact LeO.refl _)
   | (with_reducible exact LeO.none _)
   | (with_reducible refine LeO.ite ?_ ?_)
   | (with_reducible refine LeO.bind ?_ (fun _ => ?_))
   | exact ih0 _ _ _ _ _ _ _ _ _ _ _
   | exact ih1 _ _ _ _ _ _ _ _ _ _ _ _
   | exact ih2 _ _ _ _ _ _ _ _ _ _ _ _
   | exact ih3 _ _ _ _ _ _ _ _ _ _ _
   | exact ih4 _ _ _ _ _ _ _ _ _ _ _
   | exact ih5 _ _ _ _ _ _ _ _ _ _
   | exact ih6 _ _ _ _ _ _ _ _ _ _ _ _ _ _ _ _
   | exact ih7 _ _ _ _ _ _ _ _ _ _ _ _ _ _ _ _
   | exact ih8 _ _ _ _ _ _ _ _ _ _ _ _ _ _ _ _
   | exact ih9 _ _ _ _ _ _ _ _ _ _ _ _ _ _ _
   | exact ih10 _ _ _ _ _ _ _ _ _ _ _ _ _
   | exact lines_End.mono _ _ _
   | exact lines_Rest.mono _ _ _
   | exact quoinlaw07_awake.mono _
   | exact quoinlaw07_column.mono _ _ _
   | exact step_Move.mono _ _ _ _ _ _
   | exact LeO.none _
   | refine LeO.ite ?_ ?_
   | refine LeO.bind ?_ (fun _ => ?_)
  ·intro y0 y1 y2 y3 y4 y5 y6 y7 y8 y9 y10 y11 y12 y13 y14 y15
   unfold quoinlaw07_StepPlaces.j2
   repeat' first
   | (with_reducible exact ih0 _ _ _ _ _ _ _ _ _ _ _)
   | (with_reducible exact ih1 _ _ _ _ _ _ _ _ _ _ _ _)
   | (with_reducible exact ih2 _ _ _ _ _ _ _ _ _ _ _ _)
   | (with_reducible exact ih3 _ _ _ _ _ _ _ _ _ _ _)
   | (with_reducible exact ih4 _ _ _ _ _ _ _ _ _ _ _)
   | (with_reducible exact ih5 _ _ _ _ _ _ _ _ _ _)
   | (with_reducible exact ih6 _ _ _ _ _ _ _ _ _ _ _ _ _ _ _ _)
   | (with_reducible exact ih7 _ _ _ _ _ _ _ _ _ _ _ _ _ _ _ _)
   | (with_reducible exact ih8 _ _ _ _ _ _ _ _ _ _ _ _ _ _ _ _)
   | (with_reducible exact ih9 _ _ _ _ _ _ _ _ _ _ _ _ _ _ _)
   | (with_reducible exact ih10 _ _ _ _ _ _ _ _ _ _ _ _ _)
   | (with_reducible exact lines_End.mono _ _ _)
   | (with_reducible exact lines_Rest.mono _ _ _)
   | (with_reducible exact quoinlaw07_awake.mono _)
   | (with_reducible exact quoinlaw07_column.mono _ _ _)
   | (with_reducible exact step_Move.mono _ _ _ _ _ _)
   | (with_reducible exact LeO.refl _)
   | (with_reducible exact LeO.none _)
   | (with_reducible refine LeO.ite ?_ ?_)
   | (with_reducible refine LeO.bind ?_ (fun _ => ?_))
   | exact ih0 _ _ _ _ _ _ _ _ _ _ _
   | exact ih1 _ _ _ _ _ _ _ _ _ _ _ _
   | exact ih2 _ _ _ _ _ _ _ _ _ _ _ _
   | exact ih3 _ _ _ _ _ _ _ _ _ _ _
   | exact ih4 _ _ _ _ _ _ _ _ _ _ _
   | exact ih5 _ _ _ _ _ _ _ _ _ _
   | exact ih6 _ _ _ _ _ _ _ _ _ _ _ _ _ _ _ _
   | exact ih7 _ _ _ _ _ _ _ _ _ _ _ _ _ _ _ _
   | exact ih8 _ _ _ _ _ _ _ _ _ _ _ _ _ _ _ _
   | exact ih9 _ _ _ _ _ _ _ _ _ _ _ _ _ _ _
   | exact ih10 _ _ _ _ _ _ _ _ _ _ _ _ _
   | exact lines_End.mono _ _ _
   | exact lines_Rest.mono _ _ _
   | exact quoinlaw07_awake.mono _
   | exact quoinlaw07_column.mono _ _ _
   | exact step_Move.mono _ _ _ _ _ _
   | exact LeO.none _
   | refine LeO.ite ?_ ?_
   | refine LeO.bind ?_ (fun _ => ?_)
  ·intro y0 y1 y2 y3 y4 y5 y6 y7 y8 y9 y10 y11 y12 y13 y14 y15
   unfold quoinlaw07_StepPlaces.j3
   repeat' first
   | (with_reducible exact ih0 _ _ _ _ _ _ _ _ _ _ _)
   | (with_reducible exact ih1 _ _ _ _ _ _ _ _ _ _ _ _)
   | (with_reducible exact ih2 _ _ _ _ _ _ _ _ _ _ _ _)
   | (with_reducible exact ih3 _ _ _ _ _ _ _ _ _ _ _)
   | (with_reducible exact ih4 _ _ _ _ _ _ _ _ _ _ _)
   | (with_reducible exact ih5 _ _ _ _ _ _ _ _ _ _)
   | (with_reducible exact ih6 _ _ _ _ _ _ _ _ _ _ _ _ _ _ _ _)
   | (with_reducible exact ih7 _ _ _ _ _ _ _ _ _ _ _ _ _ _ _ _)
   | (with_reducible exact ih8 _ _ _ _ _ _ _ _ _ _ _ _ _ _ _ _)
   | (with_reducible exact ih9 _ _ _ _ _ _ _ _ _ _ _ _ _ _ _)
   | (with_reducible exact ih10 _ _ _ _ _ _ _ _ _ _ _ _ _)
   | (with_reducible exact lines_End.mono _ _ _)
   | (with_reducible exact lines_Rest.mono _ _ _)
   | (with_reducible exact quoinlaw07_awake.mono _)
   | (with_reducible exact quoinlaw07_column.mono _ _ _)
   | (with_reducible exact step_Move.mono _ _ _ _ _ _)
   | (with_reducible exact LeO.refl _)
   | (with_reducible exact LeO.none _)
   | (with_reducible refine LeO.ite ?_ ?_)
   | (with_reducible refine LeO.bind ?_ (fun _ => ?_))
   | exact ih0 _ _ _ _ _ _ _ _ _ _ _
   | exact ih1 _ _ _ _ _ _ _ _ _ _ _ _
   | exact ih2 _ _ _ _ _ _ _ _ _ _ _ _
   | exact ih3 _ _ _ _ _ _ _ _ _ _ _
   | exact ih4 _ _ _ _ _ _ _ _ _ _ _
   | exact ih5 _ _ _ _ _ _ _ _ _ _
   | exact ih6 _ _ _ _ _ _ _ _ _ _ _ _ _ _ _ _
   | exact ih7 _ _ _ _ _ _ _ _ _ _ _ _ _ _ _ _
   | exact ih8 _ _ _ _ _ _ _ _ _ _ _ _ _ _ _ _
   | exact ih9 _ _ _ _ _ _ _ _ _ _ _ _ _ _ _
   | exact ih10 _ _ _ _ _ _ _ _ _ _ _ _ _
   | exact lines_End.mono _ _ _
   | exact lines_Rest.mono _ _ _
   | exact quoinlaw07_awake.mono _
   | exact quoinlaw07_column.mono _ _ _
   | exact step_Move.mono _ _ _ _ _ _
   | exact LeO.none _
   | refine LeO.ite ?_ ?_
   | refine LeO.bind ?_ (fun _ => ?_)
  ·intro y0 y1 y2 y3 y4 y5 y6 y7 y8 y9 y10 y11 y12 y13 y14
   unfold quoinlaw07_StepPlaces.j4
   repeat' first
   | (with_reducible exact ih0 _ _ _ _ _ _ _ _ _ _ _)
   | (with_reducible exact ih1 _ _ _ _ _ _ _ _ _ _ _ _)
   | (with_reducible exact ih2 _ _ _ _ _ _ _ _ _ _ _ _)
   | (with_reducible exact ih3 _ _ _ _ _ _ _ _ _ _ _)
   | (with_reducible exact ih4 _ _ _ _ _ _ _ _ _ _ _)
   | (with_reducible exact ih5 _ _ _ _ _ _ _ _ _ _)
   | (with_reducible exact ih6 _ _ _ _ _ _ _ _ _ _ _ _ _ _ _ _)
   | (with_reducible exact ih7 _ _ _ _ _ _ _ _ _ _ _ _ _ _ _ _)
   | (with_reducible exact ih8 _ _ _ _ _ _ _ _ _ _ _ _ _ _ _ _)
   | (with_reducible exact ih9 _ _ _ _ _ _ _ _ _ _ _ _ _ _ _)
   | (with_reducible exact ih10 _ _ _ _ _ _ _ _ _ _ _ _ _)
   | (with_reducible exact lines_End.mono _ _ _)
   | (with_reducible exact lines_Rest.mono _ _ _)
   | (with_reducible exact quoinlaw07_awake.mono _)
   | (with_reducible exact quoinlaw07_column.mono _ _ _)
   | (with_reducible exact step_Move.mono _ _ _ _ _ _)
   | (with_reducible exact LeO.refl _)
   | (with_reducible exact LeO.none _)
   | (with_reducible refine LeO.ite ?_ ?_)
   | (with_reducible refine LeO.bind ?_ (fun _ => ?_))
   | exact ih0 _ _ _ _ _ _ _ _ _ _ _
   | exact ih1 _ _ _ _ _ _ _ _ _ _ _ _
   | exact ih2 _ _ _ _ _ _ _ _ _ _ _ _
   | exact ih3 _ _ _ _ _ _ _ _ _ _ _
   | exact ih4 _ _ _ _ _ _ _ _ _ _ _
   | exact ih5 _ _ _ _ _ _ _ _ _ _
   | exact ih6 _ _ _ _ _ _ _ _ _ _ _ _ _ _ _ _
   | exact ih7 _ _ _ _ _ _ _ _ _ _ _ _ _ _ _ _
   | exact ih8 _ _ _ _ _ _ _ _ _ _ _ _ _ _ _ _
   | exact ih9 _ _ _ _ _ _ _ _ _ _ _ _ _ _ _
   | exact ih10 _ _ _ _ _ _ _ _ _ _ _ _ _
   | exact lines_End.mono _ _ _
   | exact lines_Rest.mono _ _ _
   | exact quoinlaw07_awake.mono _
   | exact quoinlaw07_column.mono _ _ _
   | exact step_Move.mono _ _ _ _ _ _
   | exact LeO.none _
   | refine LeO.ite ?_ ?_
   | refine LeO.bind ?_ (fun _ => ?_)
  ·intro y0 y1 y2 y3 y4 y5 y6 y7 y8 y9 y10 y11 y12
   unfold quoinlaw07_StepPlaces.j5
   repeat' first
   | (with_reducible exact ih0 _ _ _ _ _ _ _ _ _ _ _)
   | (with_reducible exact ih1 _ _ _ _ _ _ _ _ _ _ _ _)
   | (with_reducible exact ih2 _ _ _ _ _ _ _ _ _ _ _ _)
   | (with_reducible exact ih3 _ _ _ _ _ _ _ _ _ _ _)
   | (with_reducible exact ih4 _ _ _ _ _ _ _ _ _ _ _)
   | (with_reducible exact ih5 _ _ _ _ _ _ _ _ _ _)
   | (with_reducible exact ih6 _ _ _ _ _ _ _ _ _ _ _ _ _ _ _ _)
   | (with_reducible exact ih7 _ _ _ _ _ _ _ _ _ _ _ _ _ _ _ _)
   | (with_reducible exact ih8 _ _ _ _ _ _ _ _ _ _ _ _ _ _ _ _)
   | (with_reducible exact ih9 _ _ _ _ _ _ _ _ _ _ _ _ _ _ _)
   | (with_reducible exact ih10 _ _ _ _ _ _ _ _ _ _ _ _ _)
   | (with_reducible exact lines_End.mono _ _ _)
   | (with_reducible exact lines_Rest.mono _ _ _)
   | (with_reducible exact quoinlaw07_awake.mono _)
   | (with_reducible exact quoinlaw07_column.mono _ _ _)
   | (with_reducible exact step_Move.mono _ _ _ _ _ _)
   | (with_reducible exact LeO.refl _)
   | (with_reducible exact LeO.none _)
   | (with_reducible refine LeO.ite ?_ ?_)
   | (with_reducible refine LeO.bind ?_ (fun _ => ?_))
   | exact ih0 _ _ _ _ _ _ _ _ _ _ _
   | exact ih1 _ _ _ _ _ _ _ _ _ _ _ _
   | exact ih2 _ _ _ _ _ _ _ _ _ _ _ _
   | exact ih3 _ _ _ _ _ _ _ _ _ _ _
   | exact ih4 _ _ _ _ _ _ _ _ _ _ _
   | exact ih5 _ _ _ _ _ _ _ _ _ _
   | exact ih6 _ _ _ _ _ _ _ _ _ _ _ _ _ _ _ _
   | exact ih7 _ _ _ _ _ _ _ _ _ _ _ _ _ _ _ _
   | exact ih8 _ _ _ _ _ _ _ _ _ _ _ _ _ _ _ _
   | exact ih9 _ _ _ _ _ _ _ _ _ _ _ _ _ _ _
   | exact ih10 _ _ _ _ _ _ _ _ _ _ _ _ _
   | exact lines_End.mono _ _ _
   | exact lines_Rest.mono _ _ _
   | exact quoinlaw07_awake.mono _
   | exact quoinlaw07_column.mono _ _ _
   | exact step_Move.mono _ _ _ _ _ _
   | exact LeO.none _
   | refine LeO.ite ?_ ?_
   | refine LeO.bind ?_ (fun _ => ?_)
theorem quoinlaw07_StepPlaces.mono : ∀ a0 a1 a2 a3 a4 k, LeO (quoinlaw07_StepPlaces.f k a0 a1 a2 a3 a4) (quoinlaw07_StepPlaces.f (k + 1) a0 a1 a2 a3 a4) := by
 intro a0 a1 a2 a3 a4 k
 obtain ⟨ih0, ih1, ih2, ih3, ih4, ih5, ih6, ih7, ih8, ih9, ih10⟩ := quoinlaw07_StepPlaces.mono_l k
 unfold quoinlaw07_StepPlaces.f
 repeat' first
   | (with_reducible exact ih0 _ _ _ _ _ _ _ _ _ _ _)
   | (with_reducible exact ih1 _ _ _ _ _ _ _ _ _ _ _ _)
   | (with_reducible exact ih2 _ _ _ _ _ _ _ _ _ _ _ _)
   | (with_reducible exact ih3 _ _ _ _ _ _ _ _ _ _ _)
   | (with_reducible exact ih4 _ _ _ _ _ _ _ _ _ _ _)
   | (with_reducible exact ih5 _ _ _ _ _ _ _ _ _ _)
   | (with_reducible exact ih6 _ _ _ _ _ _ _ _ _ _ _ _ _ _ _ _)
   | (with_reducible exact ih7 _ _ _ _ _ _ _ _ _ _ _ _ _ _ _ _)
   | (with_reducible exact ih8 _ _ _ _ _ _ _ _ _ _ _ _ _ _ _ _)
   | (with_reducible exact ih9 _ _ _ _ _ _ _ _ _ _ _ _ _ _ _)
   | (with_reducible exact ih10 _ _ _ _ _ _ _ _ _ _ _ _ _)
   | (with_reducible exact lines_End.mono _ _ _)
   | (with_reducible exact lines_Rest.mono _ _ _)
   | (with_reducible exact quoinlaw07_awake.mono _)
   | (with_reducible exact quoinlaw07_column.mono _ _ _)
   | (with_reducible exact step_Move.mono _ _ _ _ _ _)
   | (with_reducible exact LeO.refl _)
   | (with_reducible exact LeO.none _)
   | (with_reducible refine LeO.ite ?_ ?_)
   | (with_reducible refine LeO.bind ?_ (fun _ => ?_))
   | exact ih0 _ _ _ _ _ _ _ _ _ _ _
   | exact ih1 _ _ _ _ _ _ _ _ _ _ _ _
   | exact ih2 _ _ _ _ _ _ _ _ _ _ _ _
   | exact ih3 _ _ _ _ _ _ _ _ _ _ _
   | exact ih4 _ _ _ _ _ _ _ _ _ _ _
   | exact ih5 _ _ _ _ _ _ _ _ _ _
   | exact ih6 _ _ _ _ _ _ _ _ _ _ _ _ _ _ _ _
   | exact ih7 _ _ _ _ _ _ _ _ _ _ _ _ _ _ _ _
   | exact ih8 _ _ _ _ _ _ _ _ _ _ _ _ _ _ _ _
   | exact ih9 _ _ _ _ _ _ _ _ _ _ _ _ _ _ _
   | exact ih10 _ _ _ _ _ _ _ _ _ _ _ _ _
   | exact lines_End.mono _ _ _
   | exact lines_Rest.mono _ _ _
   | exact quoinlaw07_awake.mono _
   | exact quoinlaw07_column.mono _ _ _
   | exact step_Move.mono _ _ _ _ _ _
   | exact LeO.none _
   | refine LeO.ite ?_ ?_
   | refine LeO.bind ?_ (fun _ => ?_)

end Go.Proofs.Ytofkcdnkbjpmmaa.X
end
