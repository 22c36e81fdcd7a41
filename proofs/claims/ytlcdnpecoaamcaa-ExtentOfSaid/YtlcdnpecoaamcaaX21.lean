-- Written by wip/xprint.py over the kit's print.py: the Lean function of each Go function, and the proof that the Go text comes to it.
import Derived.Test.YtlcdnpecoaamcaaX0
import Derived.Test.YtlcdnpecoaamcaaX16
import Derived.Test.YtlcdnpecoaamcaaX17
import Derived.Test.YtlcdnpecoaamcaaX19
import Derived.Test.YtlcdnpecoaamcaaX20
namespace Go.Proofs.Ytlcdnpecoaamcaa.X
open Go.RowKit Go.Proofs.YtlcdnpecoaamcaaW.PrintWords Go.Proofs.YtlcdnpecoaamcaaW.PrintLast Go.Proofs.YtlcdnpecoaamcaaW.PrintMore
attribute [local go_sem] max2_int min2_int max_two min_two max_three min_three max_four min_four   -- for this text's walks alone
set_option linter.unusedVariables false
set_option linter.unusedSimpArgs false

/-! ### quoinref14_Of: function 8 -/
mutual
def quoinref14_Of.j0 : Nat → List Int → ByteArray → Int → Int → Bool → Int → Int → Int → Option (Int × Int × Bool × Bool × Int)
  | 0, _, _, _, _, _, _, _, _ => none
  | k + 1, x0, x2, x8, x9, x46, x219000, x219001, x219002 => if x46 = true then (some (0, 0, false, false, 2)) else ((quoinref05_Of.f k x0 x8).bind fun bt221 => ((quoinref05_Of.f k x0 x9).bind fun bt223 => (if x219002 = 3 then (quoinref14_Of.j1 k x0 x8 x9 bt221.1 bt223.1 true x219000 x219001 x219002) else (if x2.toList = ([62] : List UInt8) then (quoinref14_Of.j1 k x0 x8 x9 bt221.1 bt223.1 true x219000 x219001 x219002) else (quoinref14_Of.j1 k x0 x8 x9 bt221.1 bt223.1 (x2.toList == ([60] : List UInt8)) x219000 x219001 x219002)))))
def quoinref14_Of.j1 : Nat → List Int → Int → Int → Int → Int → Bool → Int → Int → Int → Option (Int × Int × Bool × Bool × Int)
  | 0, _, _, _, _, _, _, _, _, _ => none
  | k + 1, x0, x8, x9, x10, x12, x70, x219000, x219001, x219002 => if x70 = true then ((quoinref14_Whole.f k x0 x10 x12).bind fun bt225 => (some (bt225.1, bt225.2.1, bt225.2.2.1, bt225.2.2.2.1, bt225.2.2.2.2))) else (if x219002 = 2 then (if x9 < (x0.length : Int) then (if 0 ≤ x9 then (if (rd x0 x9) = 10 then (some (x8, x9, false, false, 0)) else (some (x8, wrap64 (x9 + 1), false, false, 0))) else (none)) else (some (x8, x9, false, false, 0))) else (if x10 < x12 then (if 0 ≤ (wrap64 (x9 - 1)) then (if (wrap64 (x9 - 1)) < (x0.length : Int) then (quoinref14_Of.j2 k x0 x8 x9 x10 x12 ((rd x0 (wrap64 (x9 - 1))) == 10)) else (none)) else (none)) else (quoinref14_Of.j2 k x0 x8 x9 x10 x12 false)))
def quoinref14_Of.j2 : Nat → List Int → Int → Int → Int → Int → Bool → Option (Int × Int × Bool × Bool × Int)
  | 0, _, _, _, _, _, _ => none
  | k + 1, x0, x8, x9, x10, x12, x106 => if x106 = true then ((quoinref14_indented.f k x0 x8).bind fun t232 => (if t232 = true then ((quoinref14_Whole.f k x0 x10 (wrap64 (x12 - 1))).bind fun bt233 => (some (bt233.1, bt233.2.1, bt233.2.2.1, bt233.2.2.2.1, bt233.2.2.2.2))) else (some (x8, wrap64 (x9 - 1), false, false, 0)))) else (some (x8, x9, false, false, 0))
end
def quoinref14_Of.f (k : Nat) (l0 : List Int) (a1_0 : Int) (a1_1 : Int) (a1_2 : Int) (a2 : ByteArray) : Option (Int × Int × Bool × Bool × Int) := if (mn a1_0 a1_1) < 0 then (quoinref14_Of.j0 k l0 a2 (mn a1_0 a1_1) (mx a1_0 a1_1) true a1_0 a1_1 a1_2) else (if (mx a1_0 a1_1) > (l0.length : Int) then (quoinref14_Of.j0 k l0 a2 (mn a1_0 a1_1) (mx a1_0 a1_1) true a1_0 a1_1 a1_2) else (if a1_2 < 1 then (quoinref14_Of.j0 k l0 a2 (mn a1_0 a1_1) (mx a1_0 a1_1) true a1_0 a1_1 a1_2) else (if a1_2 > 3 then (quoinref14_Of.j0 k l0 a2 (mn a1_0 a1_1) (mx a1_0 a1_1) true a1_0 a1_1 a1_2) else ((quoinref14_known.f a2).bind fun t220 => (quoinref14_Of.j0 k l0 a2 (mn a1_0 a1_1) (mx a1_0 a1_1) (!t220) a1_0 a1_1 a1_2)))))
theorem quoinref14_Of.mono_l : ∀ k, (∀ y0 y1 y2 y3 y4 y5 y6 y7, LeO (quoinref14_Of.j0 k y0 y1 y2 y3 y4 y5 y6 y7) (quoinref14_Of.j0 (k + 1) y0 y1 y2 y3 y4 y5 y6 y7)) ∧ (∀ y0 y1 y2 y3 y4 y5 y6 y7 y8, LeO (quoinref14_Of.j1 k y0 y1 y2 y3 y4 y5 y6 y7 y8) (quoinref14_Of.j1 (k + 1) y0 y1 y2 y3 y4 y5 y6 y7 y8)) ∧ (∀ y0 y1 y2 y3 y4 y5, LeO (quoinref14_Of.j2 k y0 y1 y2 y3 y4 y5) (quoinref14_Of.j2 (k + 1) y0 y1 y2 y3 y4 y5))
  | 0 => ⟨fun _ _ _ _ _ _ _ _ r h => by simp [quoinref14_Of.j0] at h, fun _ _ _ _ _ _ _ _ _ r h => by simp [quoinref14_Of.j1] at h, fun _ _ _ _ _ _ r h => by simp [quoinref14_Of.j2] at h⟩
  | k + 1 => by
    obtain ⟨ih0, ih1, ih2⟩ := quoinref14_Of.mono_l k
    refine ⟨?_, ?_, ?_⟩
    · intro y0 y1 y2 y3 y4 y5 y6 y7
      unfold quoinref14_Of.j0
      repeat' first
      | (with_reducible exact ih0 _ _ _ _ _ _ _ _)
      | (with_reducible exact ih1 _ _ _ _ _ _ _ _ _)
      | (with_reducible exact ih2 _ _ _ _ _ _)
      | (with_reducible exact quoinref05_Of.mono _ _ _)
      | (with_reducible exact quoinref14_Whole.mono _ _ _ _)
      | (with_reducible exact quoinref14_indented.mono _ _ _)
      | (with_reducible exact LeO.refl _)
      | (with_reducible exact LeO.none _)
      | (with_reducible refine LeO.ite ?_ ?_)
      | (with_reducible refine LeO.bind ?_ (fun _ => ?_))
      | exact ih0 _ _ _ _ _ _ _ _
      | exact ih1 _ _ _ _ _ _ _ _ _
      | exact ih2 _ _ _ _ _ _
      | exact quoinref05_Of.mono _ _ _
      | exact quoinref14_Whole.mono _ _ _ _
      | exact quoinref14_indented.mono _ _ _
      | exact LeO.none _
      | refine LeO.ite ?_ ?_
      | refine LeO.bind ?_ (fun _ => ?_)
    · intro y0 y1 y2 y3 y4 y5 y6 y7 y8
      unfold quoinref14_Of.j1
      repeat' first
      | (with_reducible exact ih0 _ _ _ _ _ _ _ _)
      | (with_reducible exact ih1 _ _ _ _ _ _ _ _ _)
      | (with_reducible exact ih2 _ _ _ _ _ _)
      | (with_reducible exact quoinref05_Of.mono _ _ _)
      | (with_reducible exact quoinref14_Whole.mono _ _ _ _)
      | (with_reducible exact quoinref14_indented.mono _ _ _)
      | (with_reducible exact LeO.refl _)
      | (with_reducible exact LeO.none _)
      | (with_reducible refine LeO.ite ?_ ?_)
      | (with_reducible refine LeO.bind ?_ (fun _ => ?_))
      | exact ih0 _ _ _ _ _ _ _ _
      | exact ih1 _ _ _ _ _ _ _ _ _
      | exact ih2 _ _ _ _ _ _
      | exact quoinref05_Of.mono _ _ _
      | exact quoinref14_Whole.mono _ _ _ _
      | exact quoinref14_indented.mono _ _ _
      | exact LeO.none _
      | refine LeO.ite ?_ ?_
      | refine LeO.bind ?_ (fun _ => ?_)
    · intro y0 y1 y2 y3 y4 y5
      unfold quoinref14_Of.j2
      repeat' first
      | (with_reducible exact ih0 _ _ _ _ _ _ _ _)
      | (with_reducible exact ih1 _ _ _ _ _ _ _ _ _)
      | (with_reducible exact ih2 _ _ _ _ _ _)
      | (with_reducible exact quoinref05_Of.mono _ _ _)
      | (with_reducible exact quoinref14_Whole.mono _ _ _ _)
      | (with_reducible exact quoinref14_indented.mono _ _ _)
      | (with_reducible exact LeO.refl _)
      | (with_reducible exact LeO.none _)
      | (with_reducible refine LeO.ite ?_ ?_)
      | (with_reducible refine LeO.bind ?_ (fun _ => ?_))
      | exact ih0 _ _ _ _ _ _ _ _
      | exact ih1 _ _ _ _ _ _ _ _ _
      | exact ih2 _ _ _ _ _ _
      | exact quoinref05_Of.mono _ _ _
      | exact quoinref14_Whole.mono _ _ _ _
      | exact quoinref14_indented.mono _ _ _
      | exact LeO.none _
      | refine LeO.ite ?_ ?_
      | refine LeO.bind ?_ (fun _ => ?_)
theorem quoinref14_Of.mono : ∀ a0 a1 a2 a3 a4 k, LeO (quoinref14_Of.f k a0 a1 a2 a3 a4) (quoinref14_Of.f (k + 1) a0 a1 a2 a3 a4) := by
  intro a0 a1 a2 a3 a4 k
  obtain ⟨ih0, ih1, ih2⟩ := quoinref14_Of.mono_l k
  unfold quoinref14_Of.f
  repeat' first
      | (with_reducible exact ih0 _ _ _ _ _ _ _ _)
      | (with_reducible exact ih1 _ _ _ _ _ _ _ _ _)
      | (with_reducible exact ih2 _ _ _ _ _ _)
      | (with_reducible exact quoinref05_Of.mono _ _ _)
      | (with_reducible exact quoinref14_Whole.mono _ _ _ _)
      | (with_reducible exact quoinref14_indented.mono _ _ _)
      | (with_reducible exact LeO.refl _)
      | (with_reducible exact LeO.none _)
      | (with_reducible refine LeO.ite ?_ ?_)
      | (with_reducible refine LeO.bind ?_ (fun _ => ?_))
      | exact ih0 _ _ _ _ _ _ _ _
      | exact ih1 _ _ _ _ _ _ _ _ _
      | exact ih2 _ _ _ _ _ _
      | exact quoinref05_Of.mono _ _ _
      | exact quoinref14_Whole.mono _ _ _ _
      | exact quoinref14_indented.mono _ _ _
      | exact LeO.none _
      | refine LeO.ite ?_ ?_
      | refine LeO.bind ?_ (fun _ => ?_)
set_option maxHeartbeats 8000000 in
set_option maxRecDepth 100000 in
theorem quoinref14_Of.calls (k : Nat) (A0 : Option Addr) (c0 : Nat) (l0 : List Int) (a1_0 : Int) (a1_1 : Int) (a1_2 : Int) (a2 : ByteArray) (r1 : Int) (r2 : Int) (r3 : Bool) (r4 : Bool) (r5 : Int) (w : World) (hr0 : Kd.C (Kd.int .u8) w A0 l0.length l0) (hc0 : l0.length ≤ c0) (h : quoinref14_Of.f k l0 a1_0 a1_1 a1_2 a2 = some (r1, r2, r3, r4, r5)) :
    Calls Try.prog 8 #[.slice A0 l0.length c0, .agg #[.int .i64 a1_0, .int .i64 a1_1, .int .i64 a1_2], .string a2] w fun e w' => e = .returned (.tuple #[.agg #[.int .i64 r1, .int .i64 r2, .bool r3, .bool r4], .int .i64 r5]) ∧ Below w.heap.size w w' := by
  have hu24 := Try.underlying24
  have hu27 := Try.underlying27
  have HR0 := Aside0.mk hr0
  have HC0 := Aside0.mk hc0
  clear hr0 hc0
  have HB := Aside0.mk (Below.refl w.heap.size w)
  have H : (if (mn a1_0 a1_1) < 0 then (quoinref14_Of.j0 k l0 a2 (mn a1_0 a1_1) (mx a1_0 a1_1) true a1_0 a1_1 a1_2) else (if (mx a1_0 a1_1) > (l0.length : Int) then (quoinref14_Of.j0 k l0 a2 (mn a1_0 a1_1) (mx a1_0 a1_1) true a1_0 a1_1 a1_2) else (if a1_2 < 1 then (quoinref14_Of.j0 k l0 a2 (mn a1_0 a1_1) (mx a1_0 a1_1) true a1_0 a1_1 a1_2) else (if a1_2 > 3 then (quoinref14_Of.j0 k l0 a2 (mn a1_0 a1_1) (mx a1_0 a1_1) true a1_0 a1_1 a1_2) else ((quoinref14_known.f a2).bind fun t220 => (quoinref14_Of.j0 k l0 a2 (mn a1_0 a1_1) (mx a1_0 a1_1) (!t220) a1_0 a1_1 a1_2)))))) = some (r1, r2, r3, r4, r5) := h
  clear h
  obtain ⟨ji4, hji4⟩ : ∃ j_ : Int, (mn a1_0 a1_1) = j_ := ⟨_, rfl⟩
  replace H : (if (ji4) < 0 then (quoinref14_Of.j0 k l0 a2 ji4 (mx a1_0 a1_1) true a1_0 a1_1 a1_2) else (if (mx a1_0 a1_1) > (l0.length : Int) then (quoinref14_Of.j0 k l0 a2 ji4 (mx a1_0 a1_1) true a1_0 a1_1 a1_2) else (if a1_2 < 1 then (quoinref14_Of.j0 k l0 a2 ji4 (mx a1_0 a1_1) true a1_0 a1_1 a1_2) else (if a1_2 > 3 then (quoinref14_Of.j0 k l0 a2 ji4 (mx a1_0 a1_1) true a1_0 a1_1 a1_2) else ((quoinref14_known.f a2).bind fun t220 => (quoinref14_Of.j0 k l0 a2 ji4 (mx a1_0 a1_1) (!t220) a1_0 a1_1 a1_2)))))) = some (r1, r2, r3, r4, r5) := by first | (rw [hji4] at H; exact H) | (simp only [hji4] at H ⊢; exact H)
  have hji4_ : (if a1_1 < a1_0 then a1_1 else a1_0) = ji4 := hji4
  obtain ⟨ji5, hji5⟩ : ∃ j_ : Int, (mx a1_0 a1_1) = j_ := ⟨_, rfl⟩
  replace H : (if (ji4) < 0 then (quoinref14_Of.j0 k l0 a2 ji4 ji5 true a1_0 a1_1 a1_2) else (if (ji5) > (l0.length : Int) then (quoinref14_Of.j0 k l0 a2 ji4 ji5 true a1_0 a1_1 a1_2) else (if a1_2 < 1 then (quoinref14_Of.j0 k l0 a2 ji4 ji5 true a1_0 a1_1 a1_2) else (if a1_2 > 3 then (quoinref14_Of.j0 k l0 a2 ji4 ji5 true a1_0 a1_1 a1_2) else ((quoinref14_known.f a2).bind fun t220 => (quoinref14_Of.j0 k l0 a2 ji4 ji5 (!t220) a1_0 a1_1 a1_2)))))) = some (r1, r2, r3, r4, r5) := by first | (rw [hji5] at H; exact H) | (simp only [hji5] at H ⊢; exact H)
  have hji5_ : (if a1_0 < a1_1 then a1_1 else a1_0) = ji5 := hji5
  have HC6 := Aside0.mk H
  clear H
  go_enter Try.func8, Try.ntmps8
  go_upto_region 2 with (first | ((with_reducible refine gate_dst (N := 4) rfl ?_); (try (refine gate_guard (by rfl) ?_; dsimp only)); refine box_event ?hg (N := 4) ?hd (cs := #[.int .i64 a1_0, .int .i64 a1_1, .int .i64 a1_2]) (t := 24) ?hr ?_; (case hd => rfl); (case hg => rfl); (case hr => first | (go_simp; done) | (go_simp; rfl)); intro gb218 hg w7 hbox hb; have n0_ := Aside0.mk (below_step (by repeat (first | (with_reducible first | exact HB.out | apply below_alloc | apply pw_below_drewN | apply below_drew1) | exact HB.out)) hb); have n1_ := Aside0.mk (hbox); have n2_ := Aside0.mk ((by rw [hg]; exact (below_size (by repeat (first | (with_reducible first | exact HB.out | apply below_alloc | apply pw_below_drewN | apply below_drew1) | exact HB.out))) : w.heap.size ≤ gb218)); have n3_ := Aside0.mk ((by rw [hg]; exact (below_size (by repeat (first | (with_reducible first | exact HB.out | apply below_alloc | apply pw_below_drewN | apply below_drew1) | exact HB.out))) : w.heap.size ≤ gb218)); clear HB; have HB := n0_; have BK218 := n1_; have GW218 := n2_; have GE218 := n3_; clear n0_ n1_ n2_ n3_; clear hb hbox hg) | ((with_reducible refine gate_dst (N := 6) rfl ?_); (try (refine gate_guard (by rfl) ?_; dsimp only)); refine box_event ?hg (N := 6) ?hd (cs := #[.int .i64 0, .int .i64 0, .bool false, .bool false]) (t := 27) ?hr ?_; (case hd => rfl); (case hg => rfl); (case hr => first | (go_simp; done) | (go_simp; rfl)); intro gb219 hg w8 hbox hb; have n0_ := Aside0.mk (blk_below (g := gb218) (o := .cells #[.int .i64 a1_0, .int .i64 a1_1, .int .i64 a1_2] 24 (0, 0)) (by (with_reducible repeat (first | refine blk_drewN ?_ _ | refine blk_drew ?_ | refine blk_alloc ?_ _)); exact BK218.out) hb); have n1_ := Aside0.mk (below_step (by repeat (first | (with_reducible first | exact HB.out | apply below_alloc | apply pw_below_drewN | apply below_drew1 | refine below_set ?_ GE218.out) | exact HB.out)) hb); have n2_ := Aside0.mk (hbox); have n3_ := Aside0.mk ((by rw [hg]; exact (below_size (by repeat (first | (with_reducible first | exact HB.out | apply below_alloc | apply pw_below_drewN | apply below_drew1 | refine below_set ?_ GE218.out) | exact HB.out))) : w.heap.size ≤ gb219)); have n4_ := Aside0.mk ((by rw [hg]; exact (below_size (by repeat (first | (with_reducible first | exact HB.out | apply below_alloc | apply pw_below_drewN | apply below_drew1 | refine below_set ?_ GE218.out) | exact HB.out))) : w.heap.size ≤ gb219)); have n5_ := Aside0.mk ((by rw [hg]; exact Nat.ne_of_lt (blk_lt (g := gb218) (o := .cells #[.int .i64 a1_0, .int .i64 a1_1, .int .i64 a1_2] 24 (0, 0)) (by (with_reducible repeat (first | refine blk_drewN ?_ _ | refine blk_drew ?_ | refine blk_alloc ?_ _)); exact BK218.out)) : gb218 ≠ gb219)); have n6_ := Aside0.mk ((by rw [hg]; exact Nat.ne_of_gt (blk_lt (g := gb218) (o := .cells #[.int .i64 a1_0, .int .i64 a1_1, .int .i64 a1_2] 24 (0, 0)) (by (with_reducible repeat (first | refine blk_drewN ?_ _ | refine blk_drew ?_ | refine blk_alloc ?_ _)); exact BK218.out)) : gb219 ≠ gb218)); clear BK218; clear HB; have BK218 := n0_; have HB := n1_; have BK219 := n2_; have GW219 := n3_; have GE219 := n4_; have NB218_219 := n5_; have NB219_218 := n6_; clear n0_ n1_ n2_ n3_ n4_ n5_ n6_; clear hb hbox hg; have hnb9 := NB218_219.out; have hnc9 := NB219_218.out; have hcz10_0 : w8.cell? ⟨gb218, 0, none⟩ = some (.int .i64 a1_0) := (blk_cell BK218.out 0).trans rfl; have hcz10_1 : w8.cell? ⟨gb218, 1, none⟩ = some (.int .i64 a1_1) := (blk_cell BK218.out 1).trans rfl; have hcz10_2 : w8.cell? ⟨gb218, 2, none⟩ = some (.int .i64 a1_2) := (blk_cell BK218.out 2).trans rfl; have hfz10_0 := blk_frozen BK218.out 0; have hfz10_1 := blk_frozen BK218.out 1; have hfz10_2 := blk_frozen BK218.out 2))
  repeat (go_quiet (first | ((with_reducible refine gate_dst (N := 4) rfl ?_); (try (refine gate_guard (by rfl) ?_; dsimp only)); refine box_event ?hg (N := 4) ?hd (cs := #[.int .i64 a1_0, .int .i64 a1_1, .int .i64 a1_2]) (t := 24) ?hr ?_; (case hd => rfl); (case hg => rfl); (case hr => first | (go_simp; done) | (go_simp; rfl)); intro gb218 hg w7 hbox hb; have n0_ := Aside0.mk (below_step (by repeat (first | (with_reducible first | exact HB.out | apply below_alloc | apply pw_below_drewN | apply below_drew1) | exact HB.out)) hb); have n1_ := Aside0.mk (hbox); have n2_ := Aside0.mk ((by rw [hg]; exact (below_size (by repeat (first | (with_reducible first | exact HB.out | apply below_alloc | apply pw_below_drewN | apply below_drew1) | exact HB.out))) : w.heap.size ≤ gb218)); have n3_ := Aside0.mk ((by rw [hg]; exact (below_size (by repeat (first | (with_reducible first | exact HB.out | apply below_alloc | apply pw_below_drewN | apply below_drew1) | exact HB.out))) : w.heap.size ≤ gb218)); clear HB; have HB := n0_; have BK218 := n1_; have GW218 := n2_; have GE218 := n3_; clear n0_ n1_ n2_ n3_; clear hb hbox hg) | ((with_reducible refine gate_dst (N := 6) rfl ?_); (try (refine gate_guard (by rfl) ?_; dsimp only)); refine box_event ?hg (N := 6) ?hd (cs := #[.int .i64 0, .int .i64 0, .bool false, .bool false]) (t := 27) ?hr ?_; (case hd => rfl); (case hg => rfl); (case hr => first | (go_simp; done) | (go_simp; rfl)); intro gb219 hg w8 hbox hb; have n0_ := Aside0.mk (blk_below (g := gb218) (o := .cells #[.int .i64 a1_0, .int .i64 a1_1, .int .i64 a1_2] 24 (0, 0)) (by (with_reducible repeat (first | refine blk_drewN ?_ _ | refine blk_drew ?_ | refine blk_alloc ?_ _)); exact BK218.out) hb); have n1_ := Aside0.mk (below_step (by repeat (first | (with_reducible first | exact HB.out | apply below_alloc | apply pw_below_drewN | apply below_drew1 | refine below_set ?_ GE218.out) | exact HB.out)) hb); have n2_ := Aside0.mk (hbox); have n3_ := Aside0.mk ((by rw [hg]; exact (below_size (by repeat (first | (with_reducible first | exact HB.out | apply below_alloc | apply pw_below_drewN | apply below_drew1 | refine below_set ?_ GE218.out) | exact HB.out))) : w.heap.size ≤ gb219)); have n4_ := Aside0.mk ((by rw [hg]; exact (below_size (by repeat (first | (with_reducible first | exact HB.out | apply below_alloc | apply pw_below_drewN | apply below_drew1 | refine below_set ?_ GE218.out) | exact HB.out))) : w.heap.size ≤ gb219)); have n5_ := Aside0.mk ((by rw [hg]; exact Nat.ne_of_lt (blk_lt (g := gb218) (o := .cells #[.int .i64 a1_0, .int .i64 a1_1, .int .i64 a1_2] 24 (0, 0)) (by (with_reducible repeat (first | refine blk_drewN ?_ _ | refine blk_drew ?_ | refine blk_alloc ?_ _)); exact BK218.out)) : gb218 ≠ gb219)); have n6_ := Aside0.mk ((by rw [hg]; exact Nat.ne_of_gt (blk_lt (g := gb218) (o := .cells #[.int .i64 a1_0, .int .i64 a1_1, .int .i64 a1_2] 24 (0, 0)) (by (with_reducible repeat (first | refine blk_drewN ?_ _ | refine blk_drew ?_ | refine blk_alloc ?_ _)); exact BK218.out)) : gb219 ≠ gb218)); clear BK218; clear HB; have BK218 := n0_; have HB := n1_; have BK219 := n2_; have GW219 := n3_; have GE219 := n4_; have NB218_219 := n5_; have NB219_218 := n6_; clear n0_ n1_ n2_ n3_ n4_ n5_ n6_; clear hb hbox hg; have hnb9 := NB218_219.out; have hnc9 := NB219_218.out; have hcz10_0 : w8.cell? ⟨gb218, 0, none⟩ = some (.int .i64 a1_0) := (blk_cell BK218.out 0).trans rfl; have hcz10_1 : w8.cell? ⟨gb218, 1, none⟩ = some (.int .i64 a1_1) := (blk_cell BK218.out 1).trans rfl; have hcz10_2 : w8.cell? ⟨gb218, 2, none⟩ = some (.int .i64 a1_2) := (blk_cell BK218.out 2).trans rfl; have hfz10_0 := blk_frozen BK218.out 0; have hfz10_1 := blk_frozen BK218.out 1; have hfz10_2 := blk_frozen BK218.out 2)); go_upto_region 2 with (first | ((with_reducible refine gate_dst (N := 4) rfl ?_); (try (refine gate_guard (by rfl) ?_; dsimp only)); refine box_event ?hg (N := 4) ?hd (cs := #[.int .i64 a1_0, .int .i64 a1_1, .int .i64 a1_2]) (t := 24) ?hr ?_; (case hd => rfl); (case hg => rfl); (case hr => first | (go_simp; done) | (go_simp; rfl)); intro gb218 hg w7 hbox hb; have n0_ := Aside0.mk (below_step (by repeat (first | (with_reducible first | exact HB.out | apply below_alloc | apply pw_below_drewN | apply below_drew1) | exact HB.out)) hb); have n1_ := Aside0.mk (hbox); have n2_ := Aside0.mk ((by rw [hg]; exact (below_size (by repeat (first | (with_reducible first | exact HB.out | apply below_alloc | apply pw_below_drewN | apply below_drew1) | exact HB.out))) : w.heap.size ≤ gb218)); have n3_ := Aside0.mk ((by rw [hg]; exact (below_size (by repeat (first | (with_reducible first | exact HB.out | apply below_alloc | apply pw_below_drewN | apply below_drew1) | exact HB.out))) : w.heap.size ≤ gb218)); clear HB; have HB := n0_; have BK218 := n1_; have GW218 := n2_; have GE218 := n3_; clear n0_ n1_ n2_ n3_; clear hb hbox hg) | ((with_reducible refine gate_dst (N := 6) rfl ?_); (try (refine gate_guard (by rfl) ?_; dsimp only)); refine box_event ?hg (N := 6) ?hd (cs := #[.int .i64 0, .int .i64 0, .bool false, .bool false]) (t := 27) ?hr ?_; (case hd => rfl); (case hg => rfl); (case hr => first | (go_simp; done) | (go_simp; rfl)); intro gb219 hg w8 hbox hb; have n0_ := Aside0.mk (blk_below (g := gb218) (o := .cells #[.int .i64 a1_0, .int .i64 a1_1, .int .i64 a1_2] 24 (0, 0)) (by (with_reducible repeat (first | refine blk_drewN ?_ _ | refine blk_drew ?_ | refine blk_alloc ?_ _)); exact BK218.out) hb); have n1_ := Aside0.mk (below_step (by repeat (first | (with_reducible first | exact HB.out | apply below_alloc | apply pw_below_drewN | apply below_drew1 | refine below_set ?_ GE218.out) | exact HB.out)) hb); have n2_ := Aside0.mk (hbox); have n3_ := Aside0.mk ((by rw [hg]; exact (below_size (by repeat (first | (with_reducible first | exact HB.out | apply below_alloc | apply pw_below_drewN | apply below_drew1 | refine below_set ?_ GE218.out) | exact HB.out))) : w.heap.size ≤ gb219)); have n4_ := Aside0.mk ((by rw [hg]; exact (below_size (by repeat (first | (with_reducible first | exact HB.out | apply below_alloc | apply pw_below_drewN | apply below_drew1 | refine below_set ?_ GE218.out) | exact HB.out))) : w.heap.size ≤ gb219)); have n5_ := Aside0.mk ((by rw [hg]; exact Nat.ne_of_lt (blk_lt (g := gb218) (o := .cells #[.int .i64 a1_0, .int .i64 a1_1, .int .i64 a1_2] 24 (0, 0)) (by (with_reducible repeat (first | refine blk_drewN ?_ _ | refine blk_drew ?_ | refine blk_alloc ?_ _)); exact BK218.out)) : gb218 ≠ gb219)); have n6_ := Aside0.mk ((by rw [hg]; exact Nat.ne_of_gt (blk_lt (g := gb218) (o := .cells #[.int .i64 a1_0, .int .i64 a1_1, .int .i64 a1_2] 24 (0, 0)) (by (with_reducible repeat (first | refine blk_drewN ?_ _ | refine blk_drew ?_ | refine blk_alloc ?_ _)); exact BK218.out)) : gb219 ≠ gb218)); clear BK218; clear HB; have BK218 := n0_; have HB := n1_; have BK219 := n2_; have GW219 := n3_; have GE219 := n4_; have NB218_219 := n5_; have NB219_218 := n6_; clear n0_ n1_ n2_ n3_ n4_ n5_ n6_; clear hb hbox hg; have hnb9 := NB218_219.out; have hnc9 := NB219_218.out; have hcz10_0 : w8.cell? ⟨gb218, 0, none⟩ = some (.int .i64 a1_0) := (blk_cell BK218.out 0).trans rfl; have hcz10_1 : w8.cell? ⟨gb218, 1, none⟩ = some (.int .i64 a1_1) := (blk_cell BK218.out 1).trans rfl; have hcz10_2 : w8.cell? ⟨gb218, 2, none⟩ = some (.int .i64 a1_2) := (blk_cell BK218.out 2).trans rfl; have hfz10_0 := blk_frozen BK218.out 0; have hfz10_1 := blk_frozen BK218.out 1; have hfz10_2 := blk_frozen BK218.out 2)))
  (try simp only [Act.put, List.setIfInBounds_toArray, List.set_cons_zero, List.set_cons_succ])
  go_cut [46] (fun v46 wc => ∃ (kq : Nat) (x46_5 : Bool), v46 = .bool x46_5 ∧ Aside0 (quoinref14_Of.j0 kq l0 a2 ji4 ji5 x46_5 a1_0 a1_1 a1_2 = some (r1, r2, r3, r4, r5)) ∧ Aside0 (kq ≤ k) ∧ Aside0 (wc.heap[gb218]? = some (.cells #[.int .i64 a1_0, .int .i64 a1_1, .int .i64 a1_2] 24 (0, 0))) ∧ Aside0 (wc.heap[gb219]? = some (.cells #[.int .i64 0, .int .i64 0, .bool false, .bool false] 27 (0, 0))) ∧ Aside0 (Below w.heap.size w wc))
  case first =>
    have H := HC6.out
    clear HC6
    by_cases c11 : (ji4) < 0
    · rw [if_pos c11] at H
      have c11b0 : decide ((ji4) < 0) = true := decide_eq_true c11
      clear c11
      (first | rw [c11b0] | (simp only [i64_w, i32_w]; rw [c11b0]) | skip)
      have H' := Aside0.mk H
      clear H
      go_wp2
      repeat (go_quiet (fail); try go_wp2)
      go_meet
      case rel => exact ⟨_, (true), (by first | rfl | (simp; done) | (simp [*]; done)), H', ⟨by first | omega | exact Nat.le_refl _⟩, ⟨by (with_reducible repeat (first | refine blk_drewN ?_ _ | refine blk_drew ?_ | refine blk_alloc ?_ _)); exact BK218.out⟩, ⟨by (with_reducible repeat (first | refine blk_drewN ?_ _ | refine blk_drew ?_ | refine blk_alloc ?_ _)); exact BK219.out⟩, ⟨by repeat (first | (with_reducible first | exact HB.out | apply below_alloc | apply pw_below_drewN | apply below_drew1 | refine below_set ?_ GE218.out | refine below_set ?_ GE219.out) | exact HB.out)⟩⟩
    · rw [if_neg c11] at H
      have c11b0 : decide ((ji4) < 0) = false := decide_eq_false c11
      clear c11
      (first | rw [c11b0] | (simp only [i64_w, i32_w]; rw [c11b0]) | skip)
      by_cases c12 : (ji5) > (l0.length : Int)
      · rw [if_pos c12] at H
        have c12b0 : decide ((l0.length : Int) < (ji5)) = true := decide_eq_true c12
        clear c12
        have H' := Aside0.mk H
        clear H
        go_wp2
        repeat (go_quiet (fail); try go_wp2)
        go_meet
        case rel => exact ⟨_, (true), (by first | rfl | (simp; done) | (simp [*]; done)), H', ⟨by first | omega | exact Nat.le_refl _⟩, ⟨by (with_reducible repeat (first | refine blk_drewN ?_ _ | refine blk_drew ?_ | refine blk_alloc ?_ _)); exact BK218.out⟩, ⟨by (with_reducible repeat (first | refine blk_drewN ?_ _ | refine blk_drew ?_ | refine blk_alloc ?_ _)); exact BK219.out⟩, ⟨by repeat (first | (with_reducible first | exact HB.out | apply below_alloc | apply pw_below_drewN | apply below_drew1 | refine below_set ?_ GE218.out | refine below_set ?_ GE219.out) | exact HB.out)⟩⟩
      · rw [if_neg c12] at H
        have c12b0 : decide ((l0.length : Int) < (ji5)) = false := decide_eq_false c12
        clear c12
        by_cases c13 : a1_2 < 1
        · rw [if_pos c13] at H
          have c13b0 : decide (a1_2 < 1) = true := decide_eq_true c13
          clear c13
          have H' := Aside0.mk H
          clear H
          have hnb14 := NB218_219.out
          have hnc14 := NB219_218.out
          have hcz15_0 : w8.cell? ⟨gb218, 0, none⟩ = some (.int .i64 a1_0) := (blk_cell BK218.out 0).trans rfl
          have hcz15_1 : w8.cell? ⟨gb218, 1, none⟩ = some (.int .i64 a1_1) := (blk_cell BK218.out 1).trans rfl
          have hcz15_2 : w8.cell? ⟨gb218, 2, none⟩ = some (.int .i64 a1_2) := (blk_cell BK218.out 2).trans rfl
          have hfz15_0 := blk_frozen BK218.out 0
          have hfz15_1 := blk_frozen BK218.out 1
          have hfz15_2 := blk_frozen BK218.out 2
          go_wp2
          repeat (go_quiet (fail); try go_wp2)
          go_meet
          case rel => exact ⟨_, (true), (by first | rfl | (simp; done) | (simp [*]; done)), H', ⟨by first | omega | exact Nat.le_refl _⟩, ⟨by (with_reducible repeat (first | refine blk_drewN ?_ _ | refine blk_drew ?_ | refine blk_alloc ?_ _)); exact BK218.out⟩, ⟨by (with_reducible repeat (first | refine blk_drewN ?_ _ | refine blk_drew ?_ | refine blk_alloc ?_ _)); exact BK219.out⟩, ⟨by repeat (first | (with_reducible first | exact HB.out | apply below_alloc | apply pw_below_drewN | apply below_drew1 | refine below_set ?_ GE218.out | refine below_set ?_ GE219.out) | exact HB.out)⟩⟩
        · rw [if_neg c13] at H
          have c13b0 : decide (a1_2 < 1) = false := decide_eq_false c13
          clear c13
          by_cases c16 : a1_2 > 3
          · rw [if_pos c16] at H
            have c16b0 : decide (3 < a1_2) = true := decide_eq_true c16
            clear c16
            have H' := Aside0.mk H
            clear H
            have hnb17 := NB218_219.out
            have hnc17 := NB219_218.out
            have hcz18_0 : w8.cell? ⟨gb218, 0, none⟩ = some (.int .i64 a1_0) := (blk_cell BK218.out 0).trans rfl
            have hcz18_1 : w8.cell? ⟨gb218, 1, none⟩ = some (.int .i64 a1_1) := (blk_cell BK218.out 1).trans rfl
            have hcz18_2 : w8.cell? ⟨gb218, 2, none⟩ = some (.int .i64 a1_2) := (blk_cell BK218.out 2).trans rfl
            have hfz18_0 := blk_frozen BK218.out 0
            have hfz18_1 := blk_frozen BK218.out 1
            have hfz18_2 := blk_frozen BK218.out 2
            go_wp2
            repeat (go_quiet (fail); try go_wp2)
            go_meet
            case rel => exact ⟨_, (true), (by first | rfl | (simp; done) | (simp [*]; done)), H', ⟨by first | omega | exact Nat.le_refl _⟩, ⟨by (with_reducible repeat (first | refine blk_drewN ?_ _ | refine blk_drew ?_ | refine blk_alloc ?_ _)); exact BK218.out⟩, ⟨by (with_reducible repeat (first | refine blk_drewN ?_ _ | refine blk_drew ?_ | refine blk_alloc ?_ _)); exact BK219.out⟩, ⟨by repeat (first | (with_reducible first | exact HB.out | apply below_alloc | apply pw_below_drewN | apply below_drew1 | refine below_set ?_ GE218.out | refine below_set ?_ GE219.out) | exact HB.out)⟩⟩
          · rw [if_neg c16] at H
            have c16b0 : decide (3 < a1_2) = false := decide_eq_false c16
            clear c16
            replace H := Option.bind_eq_some_iff.mp H
            obtain ⟨t220, A190, H⟩ := H
            replace H : (quoinref14_Of.j0 k l0 a2 ji4 ji5 (!t220) a1_0 a1_1 a1_2) = some (r1, r2, r3, r4, r5) := H
            have A19 := Aside0.mk A190
            clear A190
            have H' := Aside0.mk H
            clear H
            have hnb20 := NB218_219.out
            have hnc20 := NB219_218.out
            have hcz21_0 : w8.cell? ⟨gb218, 0, none⟩ = some (.int .i64 a1_0) := (blk_cell BK218.out 0).trans rfl
            have hcz21_1 : w8.cell? ⟨gb218, 1, none⟩ = some (.int .i64 a1_1) := (blk_cell BK218.out 1).trans rfl
            have hcz21_2 : w8.cell? ⟨gb218, 2, none⟩ = some (.int .i64 a1_2) := (blk_cell BK218.out 2).trans rfl
            have hfz21_0 := blk_frozen BK218.out 0
            have hfz21_1 := blk_frozen BK218.out 1
            have hfz21_2 := blk_frozen BK218.out 2
            go_wp2_with (first | (go_at_call 15; (with_reducible refine (quoinref14_known.calls a2 t220 _ A19.out).mono ?_); rintro e w' ⟨rfl, ⟨nd, rfl⟩⟩; (try first | exact ⟨rfl, _, World.drewN_drewN _ _ _⟩ | exact ⟨rfl, _, Eq.trans (World.drewN_drewN _ _ _) (congrArg (World.drewN _) (Nat.add_assoc _ _ _))⟩)))
            repeat (go_quiet (first | (go_at_call 15; (with_reducible refine (quoinref14_known.calls a2 t220 _ A19.out).mono ?_); rintro e w' ⟨rfl, ⟨nd, rfl⟩⟩; (try first | exact ⟨rfl, _, World.drewN_drewN _ _ _⟩ | exact ⟨rfl, _, Eq.trans (World.drewN_drewN _ _ _) (congrArg (World.drewN _) (Nat.add_assoc _ _ _))⟩))); try go_wp2_with (first | (go_at_call 15; (with_reducible refine (quoinref14_known.calls a2 t220 _ A19.out).mono ?_); rintro e w' ⟨rfl, ⟨nd, rfl⟩⟩; (try first | exact ⟨rfl, _, World.drewN_drewN _ _ _⟩ | exact ⟨rfl, _, Eq.trans (World.drewN_drewN _ _ _) (congrArg (World.drewN _) (Nat.add_assoc _ _ _))⟩))))
            go_meet
            case rel => exact ⟨_, (!t220), (by first | rfl | (simp; done) | (simp [*]; done)), H', ⟨by first | omega | exact Nat.le_refl _⟩, ⟨by (with_reducible repeat (first | refine blk_drewN ?_ _ | refine blk_drew ?_ | refine blk_alloc ?_ _)); exact BK218.out⟩, ⟨by (with_reducible repeat (first | refine blk_drewN ?_ _ | refine blk_drew ?_ | refine blk_alloc ?_ _)); exact BK219.out⟩, ⟨by repeat (first | (with_reducible first | exact HB.out | apply below_alloc | apply pw_below_drewN | apply below_drew1 | refine below_set ?_ GE218.out | refine below_set ?_ GE219.out) | exact HB.out)⟩⟩
  case rest =>
    clear HC6
    try clear c1
    try clear c2
    try clear p2
    try clear c8
    try clear c9
    try clear c11
    try clear c11b0
    try clear c12
    try clear c12b0
    try clear c13
    try clear c13b0
    try clear c14
    try clear c16
    try clear c16b0
    try clear c17
    try clear c20
    try clear hcz10_0
    try clear hcz10_1
    try clear hcz10_2
    try clear hcz15_0
    try clear hcz15_1
    try clear hcz15_2
    try clear hcz18_0
    try clear hcz18_1
    try clear hcz18_2
    try clear hcz21_0
    try clear hcz21_1
    try clear hcz21_2
    try clear hfz10_0
    try clear hfz10_1
    try clear hfz10_2
    try clear hfz15_0
    try clear hfz15_1
    try clear hfz15_2
    try clear hfz18_0
    try clear hfz18_1
    try clear hfz18_2
    try clear hfz21_0
    try clear hfz21_1
    try clear hfz21_2
    obtain ⟨kq, x46_5, rfl, HA, HJ5, BK218, BK219, HB⟩ := hcut
    cases kq with
    | zero => exact absurd HA.out (by simp [quoinref14_Of.j0])
    | succ kj5 =>
      have H := HA.out
      clear HA
      simp only [quoinref14_Of.j0] at H
      by_cases c22 : x46_5 = true
      · subst c22
        have H1 : (some (0, 0, false, false, 2)) = some (r1, r2, r3, r4, r5) := by rw [if_pos rfl] at H; exact H
        clear H
        have H := H1
        clear H1
        simp only [Option.some.injEq, Prod.mk.injEq] at H
        obtain ⟨rfl, rfl, rfl, rfl, rfl⟩ := H
        have hnb23 := NB219_218.out
        have hnc23 := NB218_219.out
        have hcz24_0 : wc.cell? ⟨gb219, 0, none⟩ = some (.int .i64 0) := (blk_cell BK219.out 0).trans rfl
        have hcz24_1 : wc.cell? ⟨gb219, 1, none⟩ = some (.int .i64 0) := (blk_cell BK219.out 1).trans rfl
        have hcz24_2 : wc.cell? ⟨gb219, 2, none⟩ = some (.bool false) := (blk_cell BK219.out 2).trans rfl
        have hcz24_3 : wc.cell? ⟨gb219, 3, none⟩ = some (.bool false) := (blk_cell BK219.out 3).trans rfl
        have hfz24_0 := blk_frozen BK219.out 0
        have hfz24_1 := blk_frozen BK219.out 1
        have hfz24_2 := blk_frozen BK219.out 2
        have hfz24_3 := blk_frozen BK219.out 3
        go_wp2
        repeat (go_quiet (fail); try go_wp2)
        refine bodyPost_ret (results_ct rfl _ _ gb219 27 #[.int .i64 0, .int .i64 0, .bool false, .bool false] (0, 0) _ rfl (by (with_reducible repeat (first | refine blk_drewN ?_ _ | refine blk_drew ?_ | refine blk_alloc ?_ _)); refine blk_put (cs := #[.int .i64 0, .int .i64 0, .bool false, .bool false]) ?_ 3 _ rfl; (with_reducible repeat (first | refine blk_drewN ?_ _ | refine blk_drew ?_ | refine blk_alloc ?_ _)); refine blk_put (cs := #[.int .i64 0, .int .i64 0, .bool false, .bool false]) ?_ 2 _ rfl; (with_reducible repeat (first | refine blk_drewN ?_ _ | refine blk_drew ?_ | refine blk_alloc ?_ _)); refine blk_put (cs := #[.int .i64 0, .int .i64 0, .bool false, .bool false]) ?_ 1 _ rfl; (with_reducible repeat (first | refine blk_drewN ?_ _ | refine blk_drew ?_ | refine blk_alloc ?_ _)); refine blk_put (cs := #[.int .i64 0, .int .i64 0, .bool false, .bool false]) ?_ 0 _ rfl; (with_reducible repeat (first | refine blk_drewN ?_ _ | refine blk_drew ?_ | refine blk_alloc ?_ _)); exact BK219.out) Try.underlying27 rfl (by kernel_rfl)) rfl ?_
        exact ⟨by first | rfl | (simp [errW_none, errW_some] <;> rfl) | (simp only [← hji4, ← hji5]; first | rfl | (simp [errW_none, errW_some] <;> rfl)) | (simp [*, errW_none, errW_some] <;> rfl), by repeat (first | (with_reducible first | exact HB.out | apply below_alloc | apply pw_below_drewN | apply below_drew1 | refine below_set ?_ GE218.out | refine below_set ?_ GE219.out) | exact HB.out)⟩
      · replace c22 := Bool.eq_false_iff.mpr c22
        subst c22
        have H1 : ((quoinref05_Of.f kj5 l0 ji4).bind fun bt221 => ((quoinref05_Of.f kj5 l0 ji5).bind fun bt223 => (if a1_2 = 3 then (quoinref14_Of.j1 kj5 l0 ji4 ji5 bt221.1 bt223.1 true a1_0 a1_1 a1_2) else (if a2.toList = ([62] : List UInt8) then (quoinref14_Of.j1 kj5 l0 ji4 ji5 bt221.1 bt223.1 true a1_0 a1_1 a1_2) else (quoinref14_Of.j1 kj5 l0 ji4 ji5 bt221.1 bt223.1 (a2.toList == ([60] : List UInt8)) a1_0 a1_1 a1_2))))) = some (r1, r2, r3, r4, r5) := by rw [if_neg (show ¬ (false = true) by decide)] at H; exact H
        clear H
        have H := H1
        clear H1
        replace H := Option.bind_eq_some_iff.mp H
        obtain ⟨⟨t221, t222⟩, A250, H⟩ := H
        replace H : ((quoinref05_Of.f kj5 l0 ji5).bind fun bt223 => (if a1_2 = 3 then (quoinref14_Of.j1 kj5 l0 ji4 ji5 t221 bt223.1 true a1_0 a1_1 a1_2) else (if a2.toList = ([62] : List UInt8) then (quoinref14_Of.j1 kj5 l0 ji4 ji5 t221 bt223.1 true a1_0 a1_1 a1_2) else (quoinref14_Of.j1 kj5 l0 ji4 ji5 t221 bt223.1 (a2.toList == ([60] : List UInt8)) a1_0 a1_1 a1_2)))) = some (r1, r2, r3, r4, r5) := H
        have A25 := Aside0.mk A250
        clear A250
        replace H := Option.bind_eq_some_iff.mp H
        obtain ⟨⟨t223, t224⟩, A260, H⟩ := H
        replace H : (if a1_2 = 3 then (quoinref14_Of.j1 kj5 l0 ji4 ji5 t221 t223 true a1_0 a1_1 a1_2) else (if a2.toList = ([62] : List UInt8) then (quoinref14_Of.j1 kj5 l0 ji4 ji5 t221 t223 true a1_0 a1_1 a1_2) else (quoinref14_Of.j1 kj5 l0 ji4 ji5 t221 t223 (a2.toList == ([60] : List UInt8)) a1_0 a1_1 a1_2))) = some (r1, r2, r3, r4, r5) := H
        have A26 := Aside0.mk A260
        clear A260
        have HC27 := Aside0.mk H
        clear H
        go_upto_region 6 with (first | (go_at_call 16; (with_reducible refine (quoinref05_Of.calls kj5 _ _ l0 ji4 t221 t222 _ ?side1 ?side2 A25.out).mono ?_); (case side1 => repeat (first | exact (Kd.C_below HR0.out HB.out) | (with_reducible refine Kd.C_alloc ?_ _) | (with_reducible refine Kd.C_drewN ?_ _) | (with_reducible refine Kd.C_drew ?_))); (case side2 => exact HC0.out); rintro e w' ⟨rfl, ⟨nd, rfl⟩⟩; (try first | exact ⟨rfl, _, World.drewN_drewN _ _ _⟩ | exact ⟨rfl, _, Eq.trans (World.drewN_drewN _ _ _) (congrArg (World.drewN _) (Nat.add_assoc _ _ _))⟩)) | (go_at_call 16; (with_reducible refine (quoinref05_Of.calls kj5 _ _ l0 ji5 t223 t224 _ ?side1 ?side2 A26.out).mono ?_); (case side1 => repeat (first | exact (Kd.C_below HR0.out (by repeat (first | (with_reducible first | exact HB.out | apply below_alloc | apply pw_below_drewN | apply below_drew1 | refine below_set ?_ GE218.out | refine below_set ?_ GE219.out) | exact HB.out))) | (with_reducible refine Kd.C_alloc ?_ _) | (with_reducible refine Kd.C_drewN ?_ _) | (with_reducible refine Kd.C_drew ?_))); (case side2 => exact HC0.out); rintro e w' ⟨rfl, ⟨nd, rfl⟩⟩; (try first | exact ⟨rfl, _, World.drewN_drewN _ _ _⟩ | exact ⟨rfl, _, Eq.trans (World.drewN_drewN _ _ _) (congrArg (World.drewN _) (Nat.add_assoc _ _ _))⟩)))
        repeat (go_quiet (first | (go_at_call 16; (with_reducible refine (quoinref05_Of.calls kj5 _ _ l0 ji4 t221 t222 _ ?side1 ?side2 A25.out).mono ?_); (case side1 => repeat (first | exact (Kd.C_below HR0.out HB.out) | (with_reducible refine Kd.C_alloc ?_ _) | (with_reducible refine Kd.C_drewN ?_ _) | (with_reducible refine Kd.C_drew ?_))); (case side2 => exact HC0.out); rintro e w' ⟨rfl, ⟨nd, rfl⟩⟩; (try first | exact ⟨rfl, _, World.drewN_drewN _ _ _⟩ | exact ⟨rfl, _, Eq.trans (World.drewN_drewN _ _ _) (congrArg (World.drewN _) (Nat.add_assoc _ _ _))⟩)) | (go_at_call 16; (with_reducible refine (quoinref05_Of.calls kj5 _ _ l0 ji5 t223 t224 _ ?side1 ?side2 A26.out).mono ?_); (case side1 => repeat (first | exact (Kd.C_below HR0.out (by repeat (first | (with_reducible first | exact HB.out | apply below_alloc | apply pw_below_drewN | apply below_drew1 | refine below_set ?_ GE218.out | refine below_set ?_ GE219.out) | exact HB.out))) | (with_reducible refine Kd.C_alloc ?_ _) | (with_reducible refine Kd.C_drewN ?_ _) | (with_reducible refine Kd.C_drew ?_))); (case side2 => exact HC0.out); rintro e w' ⟨rfl, ⟨nd, rfl⟩⟩; (try first | exact ⟨rfl, _, World.drewN_drewN _ _ _⟩ | exact ⟨rfl, _, Eq.trans (World.drewN_drewN _ _ _) (congrArg (World.drewN _) (Nat.add_assoc _ _ _))⟩))); go_upto_region 6 with (first | (go_at_call 16; (with_reducible refine (quoinref05_Of.calls kj5 _ _ l0 ji4 t221 t222 _ ?side1 ?side2 A25.out).mono ?_); (case side1 => repeat (first | exact (Kd.C_below HR0.out HB.out) | (with_reducible refine Kd.C_alloc ?_ _) | (with_reducible refine Kd.C_drewN ?_ _) | (with_reducible refine Kd.C_drew ?_))); (case side2 => exact HC0.out); rintro e w' ⟨rfl, ⟨nd, rfl⟩⟩; (try first | exact ⟨rfl, _, World.drewN_drewN _ _ _⟩ | exact ⟨rfl, _, Eq.trans (World.drewN_drewN _ _ _) (congrArg (World.drewN _) (Nat.add_assoc _ _ _))⟩)) | (go_at_call 16; (with_reducible refine (quoinref05_Of.calls kj5 _ _ l0 ji5 t223 t224 _ ?side1 ?side2 A26.out).mono ?_); (case side1 => repeat (first | exact (Kd.C_below HR0.out (by repeat (first | (with_reducible first | exact HB.out | apply below_alloc | apply pw_below_drewN | apply below_drew1 | refine below_set ?_ GE218.out | refine below_set ?_ GE219.out) | exact HB.out))) | (with_reducible refine Kd.C_alloc ?_ _) | (with_reducible refine Kd.C_drewN ?_ _) | (with_reducible refine Kd.C_drew ?_))); (case side2 => exact HC0.out); rintro e w' ⟨rfl, ⟨nd, rfl⟩⟩; (try first | exact ⟨rfl, _, World.drewN_drewN _ _ _⟩ | exact ⟨rfl, _, Eq.trans (World.drewN_drewN _ _ _) (congrArg (World.drewN _) (Nat.add_assoc _ _ _))⟩))))
        (try simp only [Act.put, List.setIfInBounds_toArray, List.set_cons_zero, List.set_cons_succ])
        go_cut [70] (fun v70 wc => ∃ (kq : Nat) (x70_26 : Bool), v70 = .bool x70_26 ∧ Aside0 (quoinref14_Of.j1 kq l0 ji4 ji5 t221 t223 x70_26 a1_0 a1_1 a1_2 = some (r1, r2, r3, r4, r5)) ∧ Aside0 (kq ≤ kj5) ∧ Aside0 (wc.heap[gb218]? = some (.cells #[.int .i64 a1_0, .int .i64 a1_1, .int .i64 a1_2] 24 (0, 0))) ∧ Aside0 (wc.heap[gb219]? = some (.cells #[.int .i64 0, .int .i64 0, .bool false, .bool false] 27 (0, 0))) ∧ Aside0 (Below w.heap.size w wc))
        case first =>
          have H := HC27.out
          clear HC27
          by_cases c28 : a1_2 = 3
          · rw [if_pos c28] at H
            have c28b0 : (a1_2 == 3) = true := beq_iff_eq.mpr c28
            have c28b1 : (a1_2 != 3) = false := bne_eq_false_iff_eq.mpr c28
            clear c28
            (first | rw [c28b0] | (simp only [i64_w, i32_w]; rw [c28b0]) | skip)
            have H' := Aside0.mk H
            clear H
            have hnb29 := NB218_219.out
            have hnc29 := NB219_218.out
            have hcz30_0 : wc.cell? ⟨gb218, 0, none⟩ = some (.int .i64 a1_0) := (blk_cell BK218.out 0).trans rfl
            have hcz30_1 : wc.cell? ⟨gb218, 1, none⟩ = some (.int .i64 a1_1) := (blk_cell BK218.out 1).trans rfl
            have hcz30_2 : wc.cell? ⟨gb218, 2, none⟩ = some (.int .i64 a1_2) := (blk_cell BK218.out 2).trans rfl
            have hfz30_0 := blk_frozen BK218.out 0
            have hfz30_1 := blk_frozen BK218.out 1
            have hfz30_2 := blk_frozen BK218.out 2
            go_wp2
            repeat (go_quiet (fail); try go_wp2)
            go_meet
            case rel => exact ⟨_, (true), (by first | rfl | (simp; done) | (simp [*]; done)), H', ⟨by have := HJ5.out; first | omega | exact Nat.le_refl _⟩, ⟨by (with_reducible repeat (first | refine blk_drewN ?_ _ | refine blk_drew ?_ | refine blk_alloc ?_ _)); exact BK218.out⟩, ⟨by (with_reducible repeat (first | refine blk_drewN ?_ _ | refine blk_drew ?_ | refine blk_alloc ?_ _)); exact BK219.out⟩, ⟨by repeat (first | (with_reducible first | exact HB.out | apply below_alloc | apply pw_below_drewN | apply below_drew1 | refine below_set ?_ GE218.out | refine below_set ?_ GE219.out) | exact HB.out)⟩⟩
          · rw [if_neg c28] at H
            have c28b0 : (a1_2 == 3) = false := beq_eq_false_iff_ne.mpr c28
            have c28b1 : (a1_2 != 3) = true := bne_iff_ne.mpr c28
            (first | rw [c28b0] | (simp only [i64_w, i32_w]; rw [c28b0]) | skip)
            by_cases c31 : a2.toList = ([62] : List UInt8)
            · rw [if_pos c31] at H
              have c31b0 : (a2.toList == ([62] : List UInt8)) = true := beq_iff_eq.mpr c31
              have c31b1 : (a2.toList != ([62] : List UInt8)) = false := bne_eq_false_iff_eq.mpr c31
              clear c31
              have H' := Aside0.mk H
              clear H
              have hnb32 := NB218_219.out
              have hnc32 := NB219_218.out
              have hcz33_0 : wc.cell? ⟨gb218, 0, none⟩ = some (.int .i64 a1_0) := (blk_cell BK218.out 0).trans rfl
              have hcz33_1 : wc.cell? ⟨gb218, 1, none⟩ = some (.int .i64 a1_1) := (blk_cell BK218.out 1).trans rfl
              have hcz33_2 : wc.cell? ⟨gb218, 2, none⟩ = some (.int .i64 a1_2) := (blk_cell BK218.out 2).trans rfl
              have hfz33_0 := blk_frozen BK218.out 0
              have hfz33_1 := blk_frozen BK218.out 1
              have hfz33_2 := blk_frozen BK218.out 2
              go_wp2
              repeat (go_quiet (fail); try go_wp2)
              go_meet
              case rel => exact ⟨_, (true), (by first | rfl | (simp; done) | (simp [*]; done)), H', ⟨by have := HJ5.out; first | omega | exact Nat.le_refl _⟩, ⟨by (with_reducible repeat (first | refine blk_drewN ?_ _ | refine blk_drew ?_ | refine blk_alloc ?_ _)); exact BK218.out⟩, ⟨by (with_reducible repeat (first | refine blk_drewN ?_ _ | refine blk_drew ?_ | refine blk_alloc ?_ _)); exact BK219.out⟩, ⟨by repeat (first | (with_reducible first | exact HB.out | apply below_alloc | apply pw_below_drewN | apply below_drew1 | refine below_set ?_ GE218.out | refine below_set ?_ GE219.out) | exact HB.out)⟩⟩
            · rw [if_neg c31] at H
              have c31b0 : (a2.toList == ([62] : List UInt8)) = false := beq_eq_false_iff_ne.mpr c31
              have c31b1 : (a2.toList != ([62] : List UInt8)) = true := bne_iff_ne.mpr c31
              have H' := Aside0.mk H
              clear H
              have hnb34 := NB218_219.out
              have hnc34 := NB219_218.out
              have hcz35_0 : wc.cell? ⟨gb218, 0, none⟩ = some (.int .i64 a1_0) := (blk_cell BK218.out 0).trans rfl
              have hcz35_1 : wc.cell? ⟨gb218, 1, none⟩ = some (.int .i64 a1_1) := (blk_cell BK218.out 1).trans rfl
              have hcz35_2 : wc.cell? ⟨gb218, 2, none⟩ = some (.int .i64 a1_2) := (blk_cell BK218.out 2).trans rfl
              have hfz35_0 := blk_frozen BK218.out 0
              have hfz35_1 := blk_frozen BK218.out 1
              have hfz35_2 := blk_frozen BK218.out 2
              go_wp2
              repeat (go_quiet (fail); try go_wp2)
              go_meet
              case rel => exact ⟨_, ((a2.toList == ([60] : List UInt8))), (by first | rfl | (simp; done) | (simp [*]; done)), H', ⟨by have := HJ5.out; first | omega | exact Nat.le_refl _⟩, ⟨by (with_reducible repeat (first | refine blk_drewN ?_ _ | refine blk_drew ?_ | refine blk_alloc ?_ _)); exact BK218.out⟩, ⟨by (with_reducible repeat (first | refine blk_drewN ?_ _ | refine blk_drew ?_ | refine blk_alloc ?_ _)); exact BK219.out⟩, ⟨by repeat (first | (with_reducible first | exact HB.out | apply below_alloc | apply pw_below_drewN | apply below_drew1 | refine below_set ?_ GE218.out | refine below_set ?_ GE219.out) | exact HB.out)⟩⟩
        case rest =>
          clear HC27
          try clear c1
          try clear c2
          try clear p2
          try clear c3
          try clear c8
          try clear c9
          try clear c11
          try clear c11b0
          try clear c12
          try clear c12b0
          try clear c13
          try clear c13b0
          try clear c14
          try clear c16
          try clear c16b0
          try clear c17
          try clear c20
          try clear c22
          try clear c23
          try clear c28
          try clear c28b0
          try clear c28b1
          try clear c29
          try clear c31
          try clear c31b0
          try clear c31b1
          try clear c32
          try clear c34
          try clear hcz10_0
          try clear hcz10_1
          try clear hcz10_2
          try clear hcz15_0
          try clear hcz15_1
          try clear hcz15_2
          try clear hcz18_0
          try clear hcz18_1
          try clear hcz18_2
          try clear hcz21_0
          try clear hcz21_1
          try clear hcz21_2
          try clear hcz24_0
          try clear hcz24_1
          try clear hcz24_2
          try clear hcz24_3
          try clear hcz30_0
          try clear hcz30_1
          try clear hcz30_2
          try clear hcz33_0
          try clear hcz33_1
          try clear hcz33_2
          try clear hcz35_0
          try clear hcz35_1
          try clear hcz35_2
          try clear hfz10_0
          try clear hfz10_1
          try clear hfz10_2
          try clear hfz15_0
          try clear hfz15_1
          try clear hfz15_2
          try clear hfz18_0
          try clear hfz18_1
          try clear hfz18_2
          try clear hfz21_0
          try clear hfz21_1
          try clear hfz21_2
          try clear hfz24_0
          try clear hfz24_1
          try clear hfz24_2
          try clear hfz24_3
          try clear hfz30_0
          try clear hfz30_1
          try clear hfz30_2
          try clear hfz33_0
          try clear hfz33_1
          try clear hfz33_2
          try clear hfz35_0
          try clear hfz35_1
          try clear hfz35_2
          try clear p2
          obtain ⟨kq, x70_26, rfl, HA, HJ26, BK218, BK219, HB⟩ := hcut
          cases kq with
          | zero => exact absurd HA.out (by simp [quoinref14_Of.j1])
          | succ kj26 =>
            have H := HA.out
            clear HA
            simp only [quoinref14_Of.j1] at H
            by_cases c36 : x70_26 = true
            · subst c36
              have H1 : ((quoinref14_Whole.f kj26 l0 t221 t223).bind fun bt225 => (some (bt225.1, bt225.2.1, bt225.2.2.1, bt225.2.2.2.1, bt225.2.2.2.2))) = some (r1, r2, r3, r4, r5) := by rw [if_pos rfl] at H; exact H
              clear H
              have H := H1
              clear H1
              replace H := Option.bind_eq_some_iff.mp H
              obtain ⟨⟨t225, t226, t227, t228, t229⟩, A370, H⟩ := H
              replace H : (some (t225, t226, t227, t228, t229)) = some (r1, r2, r3, r4, r5) := H
              have A37 := Aside0.mk A370
              clear A370
              simp only [Option.some.injEq, Prod.mk.injEq] at H
              obtain ⟨rfl, rfl, rfl, rfl, rfl⟩ := H
              go_wp2_with (first | (go_at_call 10; (with_reducible refine (quoinref14_Whole.calls kj26 _ _ l0 t221 t223 t225 t226 t227 t228 t229 _ ?side1 ?side2 A37.out).mono ?_); (case side1 => repeat (first | exact (Kd.C_below HR0.out HB.out) | (with_reducible refine Kd.C_alloc ?_ _) | (with_reducible refine Kd.C_drewN ?_ _) | (with_reducible refine Kd.C_drew ?_))); (case side2 => exact HC0.out); rintro e w38 ⟨rfl, hb⟩; have n0_ := Aside0.mk (blk_below (g := gb218) (o := .cells #[.int .i64 a1_0, .int .i64 a1_1, .int .i64 a1_2] 24 (0, 0)) (by (with_reducible repeat (first | refine blk_drewN ?_ _ | refine blk_drew ?_ | refine blk_alloc ?_ _)); exact BK218.out) hb); have n1_ := Aside0.mk (blk_below (g := gb219) (o := .cells #[.int .i64 0, .int .i64 0, .bool false, .bool false] 27 (0, 0)) (by (with_reducible repeat (first | refine blk_drewN ?_ _ | refine blk_drew ?_ | refine blk_alloc ?_ _)); exact BK219.out) hb); have n2_ := Aside0.mk (below_step (by repeat (first | (with_reducible first | exact HB.out | apply below_alloc | apply pw_below_drewN | apply below_drew1 | refine below_set ?_ GE218.out | refine below_set ?_ GE219.out) | exact HB.out)) hb); clear BK218; clear BK219; clear HB; have BK218 := n0_; have BK219 := n1_; have HB := n2_; clear n0_ n1_ n2_; (try clear hb); (try clear hb2); (try clear hk); (try clear hi); have hnb39 := NB219_218.out; have hnc39 := NB218_219.out; have hcz40_0 : w38.cell? ⟨gb219, 0, none⟩ = some (.int .i64 0) := (blk_cell BK219.out 0).trans rfl; have hcz40_1 : w38.cell? ⟨gb219, 1, none⟩ = some (.int .i64 0) := (blk_cell BK219.out 1).trans rfl; have hcz40_2 : w38.cell? ⟨gb219, 2, none⟩ = some (.bool false) := (blk_cell BK219.out 2).trans rfl; have hcz40_3 : w38.cell? ⟨gb219, 3, none⟩ = some (.bool false) := (blk_cell BK219.out 3).trans rfl; have hfz40_0 := blk_frozen BK219.out 0; have hfz40_1 := blk_frozen BK219.out 1; have hfz40_2 := blk_frozen BK219.out 2; have hfz40_3 := blk_frozen BK219.out 3))
              repeat (go_quiet (first | (go_at_call 10; (with_reducible refine (quoinref14_Whole.calls kj26 _ _ l0 t221 t223 t225 t226 t227 t228 t229 _ ?side1 ?side2 A37.out).mono ?_); (case side1 => repeat (first | exact (Kd.C_below HR0.out HB.out) | (with_reducible refine Kd.C_alloc ?_ _) | (with_reducible refine Kd.C_drewN ?_ _) | (with_reducible refine Kd.C_drew ?_))); (case side2 => exact HC0.out); rintro e w38 ⟨rfl, hb⟩; have n0_ := Aside0.mk (blk_below (g := gb218) (o := .cells #[.int .i64 a1_0, .int .i64 a1_1, .int .i64 a1_2] 24 (0, 0)) (by (with_reducible repeat (first | refine blk_drewN ?_ _ | refine blk_drew ?_ | refine blk_alloc ?_ _)); exact BK218.out) hb); have n1_ := Aside0.mk (blk_below (g := gb219) (o := .cells #[.int .i64 0, .int .i64 0, .bool false, .bool false] 27 (0, 0)) (by (with_reducible repeat (first | refine blk_drewN ?_ _ | refine blk_drew ?_ | refine blk_alloc ?_ _)); exact BK219.out) hb); have n2_ := Aside0.mk (below_step (by repeat (first | (with_reducible first | exact HB.out | apply below_alloc | apply pw_below_drewN | apply below_drew1 | refine below_set ?_ GE218.out | refine below_set ?_ GE219.out) | exact HB.out)) hb); clear BK218; clear BK219; clear HB; have BK218 := n0_; have BK219 := n1_; have HB := n2_; clear n0_ n1_ n2_; (try clear hb); (try clear hb2); (try clear hk); (try clear hi); have hnb39 := NB219_218.out; have hnc39 := NB218_219.out; have hcz40_0 : w38.cell? ⟨gb219, 0, none⟩ = some (.int .i64 0) := (blk_cell BK219.out 0).trans rfl; have hcz40_1 : w38.cell? ⟨gb219, 1, none⟩ = some (.int .i64 0) := (blk_cell BK219.out 1).trans rfl; have hcz40_2 : w38.cell? ⟨gb219, 2, none⟩ = some (.bool false) := (blk_cell BK219.out 2).trans rfl; have hcz40_3 : w38.cell? ⟨gb219, 3, none⟩ = some (.bool false) := (blk_cell BK219.out 3).trans rfl; have hfz40_0 := blk_frozen BK219.out 0; have hfz40_1 := blk_frozen BK219.out 1; have hfz40_2 := blk_frozen BK219.out 2; have hfz40_3 := blk_frozen BK219.out 3)); try go_wp2_with (first | (go_at_call 10; (with_reducible refine (quoinref14_Whole.calls kj26 _ _ l0 t221 t223 t225 t226 t227 t228 t229 _ ?side1 ?side2 A37.out).mono ?_); (case side1 => repeat (first | exact (Kd.C_below HR0.out HB.out) | (with_reducible refine Kd.C_alloc ?_ _) | (with_reducible refine Kd.C_drewN ?_ _) | (with_reducible refine Kd.C_drew ?_))); (case side2 => exact HC0.out); rintro e w38 ⟨rfl, hb⟩; have n0_ := Aside0.mk (blk_below (g := gb218) (o := .cells #[.int .i64 a1_0, .int .i64 a1_1, .int .i64 a1_2] 24 (0, 0)) (by (with_reducible repeat (first | refine blk_drewN ?_ _ | refine blk_drew ?_ | refine blk_alloc ?_ _)); exact BK218.out) hb); have n1_ := Aside0.mk (blk_below (g := gb219) (o := .cells #[.int .i64 0, .int .i64 0, .bool false, .bool false] 27 (0, 0)) (by (with_reducible repeat (first | refine blk_drewN ?_ _ | refine blk_drew ?_ | refine blk_alloc ?_ _)); exact BK219.out) hb); have n2_ := Aside0.mk (below_step (by repeat (first | (with_reducible first | exact HB.out | apply below_alloc | apply pw_below_drewN | apply below_drew1 | refine below_set ?_ GE218.out | refine below_set ?_ GE219.out) | exact HB.out)) hb); clear BK218; clear BK219; clear HB; have BK218 := n0_; have BK219 := n1_; have HB := n2_; clear n0_ n1_ n2_; (try clear hb); (try clear hb2); (try clear hk); (try clear hi); have hnb39 := NB219_218.out; have hnc39 := NB218_219.out; have hcz40_0 : w38.cell? ⟨gb219, 0, none⟩ = some (.int .i64 0) := (blk_cell BK219.out 0).trans rfl; have hcz40_1 : w38.cell? ⟨gb219, 1, none⟩ = some (.int .i64 0) := (blk_cell BK219.out 1).trans rfl; have hcz40_2 : w38.cell? ⟨gb219, 2, none⟩ = some (.bool false) := (blk_cell BK219.out 2).trans rfl; have hcz40_3 : w38.cell? ⟨gb219, 3, none⟩ = some (.bool false) := (blk_cell BK219.out 3).trans rfl; have hfz40_0 := blk_frozen BK219.out 0; have hfz40_1 := blk_frozen BK219.out 1; have hfz40_2 := blk_frozen BK219.out 2; have hfz40_3 := blk_frozen BK219.out 3)))
              refine bodyPost_ret (results_ct rfl _ _ gb219 27 #[.int .i64 t225, .int .i64 t226, .bool t227, .bool t228] (0, 0) _ rfl (by (with_reducible repeat (first | refine blk_drewN ?_ _ | refine blk_drew ?_ | refine blk_alloc ?_ _)); refine blk_put (cs := #[.int .i64 t225, .int .i64 t226, .bool t227, .bool false]) ?_ 3 _ rfl; (with_reducible repeat (first | refine blk_drewN ?_ _ | refine blk_drew ?_ | refine blk_alloc ?_ _)); refine blk_put (cs := #[.int .i64 t225, .int .i64 t226, .bool false, .bool false]) ?_ 2 _ rfl; (with_reducible repeat (first | refine blk_drewN ?_ _ | refine blk_drew ?_ | refine blk_alloc ?_ _)); refine blk_put (cs := #[.int .i64 t225, .int .i64 0, .bool false, .bool false]) ?_ 1 _ rfl; (with_reducible repeat (first | refine blk_drewN ?_ _ | refine blk_drew ?_ | refine blk_alloc ?_ _)); refine blk_put (cs := #[.int .i64 0, .int .i64 0, .bool false, .bool false]) ?_ 0 _ rfl; (with_reducible repeat (first | refine blk_drewN ?_ _ | refine blk_drew ?_ | refine blk_alloc ?_ _)); exact BK219.out) Try.underlying27 rfl (by kernel_rfl)) rfl ?_
              exact ⟨by first | rfl | (simp [errW_none, errW_some] <;> rfl) | (simp only [← hji4, ← hji5]; first | rfl | (simp [errW_none, errW_some] <;> rfl)) | (simp [*, errW_none, errW_some] <;> rfl), by repeat (first | (with_reducible first | exact HB.out | apply below_alloc | apply pw_below_drewN | apply below_drew1 | refine below_set ?_ GE218.out | refine below_set ?_ GE219.out) | exact HB.out)⟩
            · replace c36 := Bool.eq_false_iff.mpr c36
              subst c36
              have H1 : (if a1_2 = 2 then (if ji5 < (l0.length : Int) then (if 0 ≤ ji5 then (if (rd l0 ji5) = 10 then (some (ji4, ji5, false, false, 0)) else (some (ji4, wrap64 (ji5 + 1), false, false, 0))) else (none)) else (some (ji4, ji5, false, false, 0))) else (if t221 < t223 then (if 0 ≤ (wrap64 (ji5 - 1)) then (if (wrap64 (ji5 - 1)) < (l0.length : Int) then (quoinref14_Of.j2 kj26 l0 ji4 ji5 t221 t223 ((rd l0 (wrap64 (ji5 - 1))) == 10)) else (none)) else (none)) else (quoinref14_Of.j2 kj26 l0 ji4 ji5 t221 t223 false))) = some (r1, r2, r3, r4, r5) := by rw [if_neg (show ¬ (false = true) by decide)] at H; exact H
              clear H
              have H := H1
              clear H1
              by_cases c41 : a1_2 = 2
              · rw [if_pos c41] at H
                have c41b0 : (a1_2 == 2) = true := beq_iff_eq.mpr c41
                have c41b1 : (a1_2 != 2) = false := bne_eq_false_iff_eq.mpr c41
                clear c41
                by_cases c42 : ji5 < (l0.length : Int)
                · rw [if_pos c42] at H
                  have c42b0 : decide (ji5 < (l0.length : Int)) = true := decide_eq_true c42
                  clear c42
                  by_cases c43 : 0 ≤ ji5
                  · rw [if_pos c43] at H
                    have c43b0 : decide (0 ≤ ji5) = true := decide_eq_true c43
                    clear c43
                    by_cases c44 : (rd l0 ji5) = 10
                    · rw [if_pos c44] at H
                      have c44b0 : ((rd l0 ji5) == 10) = true := beq_iff_eq.mpr c44
                      have c44b1 : ((rd l0 ji5) != 10) = false := bne_eq_false_iff_eq.mpr c44
                      clear c44
                      simp only [Option.some.injEq, Prod.mk.injEq] at H
                      obtain ⟨rfl, rfl, rfl, rfl, rfl⟩ := H
                      have hnb45 := NB218_219.out
                      have hnc45 := NB219_218.out
                      have hcz46_0 : wc.cell? ⟨gb218, 0, none⟩ = some (.int .i64 a1_0) := (blk_cell BK218.out 0).trans rfl
                      have hcz46_1 : wc.cell? ⟨gb218, 1, none⟩ = some (.int .i64 a1_1) := (blk_cell BK218.out 1).trans rfl
                      have hcz46_2 : wc.cell? ⟨gb218, 2, none⟩ = some (.int .i64 a1_2) := (blk_cell BK218.out 2).trans rfl
                      have hfz46_0 := blk_frozen BK218.out 0
                      have hfz46_1 := blk_frozen BK218.out 1
                      have hfz46_2 := blk_frozen BK218.out 2
                      have p230 : 0 ≤ (ji5 : Int) := of_decide_eq_true (by first | (with_reducible assumption) | assumption)
                      have q230 : ji5 < (l0.length : Int) := of_decide_eq_true (by first | (with_reducible assumption) | assumption)
                      obtain ⟨ad230, e230, hx230_0⟩ := Kd.at_int HR0.out ji5 p230 q230
                      cases e230
                      replace hx230_0 := (HB.out.cell (World.block_lt_of_cell? w _ hx230_0)).trans hx230_0
                      replace p230 := eq_true p230
                      replace q230 := eq_true q230
                      have hcz47_0 : wc.cell? ⟨gb219, 0, none⟩ = some (.int .i64 0) := (blk_cell BK219.out 0).trans rfl
                      have hcz47_1 : wc.cell? ⟨gb219, 1, none⟩ = some (.int .i64 0) := (blk_cell BK219.out 1).trans rfl
                      have hcz47_2 : wc.cell? ⟨gb219, 2, none⟩ = some (.bool false) := (blk_cell BK219.out 2).trans rfl
                      have hcz47_3 : wc.cell? ⟨gb219, 3, none⟩ = some (.bool false) := (blk_cell BK219.out 3).trans rfl
                      have hfz47_0 := blk_frozen BK219.out 0
                      have hfz47_1 := blk_frozen BK219.out 1
                      have hfz47_2 := blk_frozen BK219.out 2
                      have hfz47_3 := blk_frozen BK219.out 3
                      go_wp2
                      repeat (go_quiet (fail); try go_wp2)
                      refine bodyPost_ret (results_ct rfl _ _ gb219 27 #[.int .i64 ji4, .int .i64 ji5, .bool false, .bool false] (0, 0) _ rfl (by (with_reducible repeat (first | refine blk_drewN ?_ _ | refine blk_drew ?_ | refine blk_alloc ?_ _)); refine blk_put (cs := #[.int .i64 ji4, .int .i64 ji5, .bool false, .bool false]) ?_ 3 _ rfl; (with_reducible repeat (first | refine blk_drewN ?_ _ | refine blk_drew ?_ | refine blk_alloc ?_ _)); refine blk_put (cs := #[.int .i64 ji4, .int .i64 ji5, .bool false, .bool false]) ?_ 2 _ rfl; (with_reducible repeat (first | refine blk_drewN ?_ _ | refine blk_drew ?_ | refine blk_alloc ?_ _)); refine blk_put (cs := #[.int .i64 ji4, .int .i64 0, .bool false, .bool false]) ?_ 1 _ rfl; (with_reducible repeat (first | refine blk_drewN ?_ _ | refine blk_drew ?_ | refine blk_alloc ?_ _)); refine blk_put (cs := #[.int .i64 0, .int .i64 0, .bool false, .bool false]) ?_ 0 _ rfl; (with_reducible repeat (first | refine blk_drewN ?_ _ | refine blk_drew ?_ | refine blk_alloc ?_ _)); exact BK219.out) Try.underlying27 rfl (by kernel_rfl)) rfl ?_
                      exact ⟨by first | rfl | (simp [errW_none, errW_some] <;> rfl) | (simp only [← hji4, ← hji5]; first | rfl | (simp [errW_none, errW_some] <;> rfl)) | (simp [*, errW_none, errW_some] <;> rfl), by repeat (first | (with_reducible first | exact HB.out | apply below_alloc | apply pw_below_drewN | apply below_drew1 | refine below_set ?_ GE218.out | refine below_set ?_ GE219.out) | exact HB.out)⟩
                    · rw [if_neg c44] at H
                      have c44b0 : ((rd l0 ji5) == 10) = false := beq_eq_false_iff_ne.mpr c44
                      have c44b1 : ((rd l0 ji5) != 10) = true := bne_iff_ne.mpr c44
                      simp only [Option.some.injEq, Prod.mk.injEq] at H
                      obtain ⟨rfl, rfl, rfl, rfl, rfl⟩ := H
                      have hnb48 := NB218_219.out
                      have hnc48 := NB219_218.out
                      have hcz49_0 : wc.cell? ⟨gb218, 0, none⟩ = some (.int .i64 a1_0) := (blk_cell BK218.out 0).trans rfl
                      have hcz49_1 : wc.cell? ⟨gb218, 1, none⟩ = some (.int .i64 a1_1) := (blk_cell BK218.out 1).trans rfl
                      have hcz49_2 : wc.cell? ⟨gb218, 2, none⟩ = some (.int .i64 a1_2) := (blk_cell BK218.out 2).trans rfl
                      have hfz49_0 := blk_frozen BK218.out 0
                      have hfz49_1 := blk_frozen BK218.out 1
                      have hfz49_2 := blk_frozen BK218.out 2
                      have p230 : 0 ≤ (ji5 : Int) := of_decide_eq_true (by first | (with_reducible assumption) | assumption)
                      have q230 : ji5 < (l0.length : Int) := of_decide_eq_true (by first | (with_reducible assumption) | assumption)
                      obtain ⟨ad230, e230, hx230_0⟩ := Kd.at_int HR0.out ji5 p230 q230
                      cases e230
                      replace hx230_0 := (HB.out.cell (World.block_lt_of_cell? w _ hx230_0)).trans hx230_0
                      replace p230 := eq_true p230
                      replace q230 := eq_true q230
                      have hcz50_0 : wc.cell? ⟨gb219, 0, none⟩ = some (.int .i64 0) := (blk_cell BK219.out 0).trans rfl
                      have hcz50_1 : wc.cell? ⟨gb219, 1, none⟩ = some (.int .i64 0) := (blk_cell BK219.out 1).trans rfl
                      have hcz50_2 : wc.cell? ⟨gb219, 2, none⟩ = some (.bool false) := (blk_cell BK219.out 2).trans rfl
                      have hcz50_3 : wc.cell? ⟨gb219, 3, none⟩ = some (.bool false) := (blk_cell BK219.out 3).trans rfl
                      have hfz50_0 := blk_frozen BK219.out 0
                      have hfz50_1 := blk_frozen BK219.out 1
                      have hfz50_2 := blk_frozen BK219.out 2
                      have hfz50_3 := blk_frozen BK219.out 3
                      go_wp2
                      repeat (go_quiet (fail); try go_wp2)
                      refine bodyPost_ret (results_ct rfl _ _ gb219 27 #[.int .i64 ji4, .int .i64 (wrap64 (ji5 + 1)), .bool false, .bool false] (0, 0) _ rfl (by (with_reducible repeat (first | refine blk_drewN ?_ _ | refine blk_drew ?_ | refine blk_alloc ?_ _)); refine blk_put (cs := #[.int .i64 ji4, .int .i64 (wrap64 (ji5 + 1)), .bool false, .bool false]) ?_ 3 _ rfl; (with_reducible repeat (first | refine blk_drewN ?_ _ | refine blk_drew ?_ | refine blk_alloc ?_ _)); refine blk_put (cs := #[.int .i64 ji4, .int .i64 (wrap64 (ji5 + 1)), .bool false, .bool false]) ?_ 2 _ rfl; (with_reducible repeat (first | refine blk_drewN ?_ _ | refine blk_drew ?_ | refine blk_alloc ?_ _)); refine blk_put (cs := #[.int .i64 ji4, .int .i64 0, .bool false, .bool false]) ?_ 1 _ rfl; (with_reducible repeat (first | refine blk_drewN ?_ _ | refine blk_drew ?_ | refine blk_alloc ?_ _)); refine blk_put (cs := #[.int .i64 0, .int .i64 0, .bool false, .bool false]) ?_ 0 _ rfl; (with_reducible repeat (first | refine blk_drewN ?_ _ | refine blk_drew ?_ | refine blk_alloc ?_ _)); exact BK219.out) Try.underlying27 rfl (by kernel_rfl)) rfl ?_
                      exact ⟨by first | rfl | (simp [errW_none, errW_some] <;> rfl) | (simp only [← hji4, ← hji5]; first | rfl | (simp [errW_none, errW_some] <;> rfl)) | (simp [*, errW_none, errW_some] <;> rfl), by repeat (first | (with_reducible first | exact HB.out | apply below_alloc | apply pw_below_drewN | apply below_drew1 | refine below_set ?_ GE218.out | refine below_set ?_ GE219.out) | exact HB.out)⟩
                  · rw [if_neg c43] at H
                    exact absurd H (by simp)
                · rw [if_neg c42] at H
                  have c42b0 : decide (ji5 < (l0.length : Int)) = false := decide_eq_false c42
                  clear c42
                  simp only [Option.some.injEq, Prod.mk.injEq] at H
                  obtain ⟨rfl, rfl, rfl, rfl, rfl⟩ := H
                  have hnb51 := NB218_219.out
                  have hnc51 := NB219_218.out
                  have hcz52_0 : wc.cell? ⟨gb218, 0, none⟩ = some (.int .i64 a1_0) := (blk_cell BK218.out 0).trans rfl
                  have hcz52_1 : wc.cell? ⟨gb218, 1, none⟩ = some (.int .i64 a1_1) := (blk_cell BK218.out 1).trans rfl
                  have hcz52_2 : wc.cell? ⟨gb218, 2, none⟩ = some (.int .i64 a1_2) := (blk_cell BK218.out 2).trans rfl
                  have hfz52_0 := blk_frozen BK218.out 0
                  have hfz52_1 := blk_frozen BK218.out 1
                  have hfz52_2 := blk_frozen BK218.out 2
                  have hcz53_0 : wc.cell? ⟨gb219, 0, none⟩ = some (.int .i64 0) := (blk_cell BK219.out 0).trans rfl
                  have hcz53_1 : wc.cell? ⟨gb219, 1, none⟩ = some (.int .i64 0) := (blk_cell BK219.out 1).trans rfl
                  have hcz53_2 : wc.cell? ⟨gb219, 2, none⟩ = some (.bool false) := (blk_cell BK219.out 2).trans rfl
                  have hcz53_3 : wc.cell? ⟨gb219, 3, none⟩ = some (.bool false) := (blk_cell BK219.out 3).trans rfl
                  have hfz53_0 := blk_frozen BK219.out 0
                  have hfz53_1 := blk_frozen BK219.out 1
                  have hfz53_2 := blk_frozen BK219.out 2
                  have hfz53_3 := blk_frozen BK219.out 3
                  go_wp2
                  repeat (go_quiet (fail); try go_wp2)
                  refine bodyPost_ret (results_ct rfl _ _ gb219 27 #[.int .i64 ji4, .int .i64 ji5, .bool false, .bool false] (0, 0) _ rfl (by (with_reducible repeat (first | refine blk_drewN ?_ _ | refine blk_drew ?_ | refine blk_alloc ?_ _)); refine blk_put (cs := #[.int .i64 ji4, .int .i64 ji5, .bool false, .bool false]) ?_ 3 _ rfl; (with_reducible repeat (first | refine blk_drewN ?_ _ | refine blk_drew ?_ | refine blk_alloc ?_ _)); refine blk_put (cs := #[.int .i64 ji4, .int .i64 ji5, .bool false, .bool false]) ?_ 2 _ rfl; (with_reducible repeat (first | refine blk_drewN ?_ _ | refine blk_drew ?_ | refine blk_alloc ?_ _)); refine blk_put (cs := #[.int .i64 ji4, .int .i64 0, .bool false, .bool false]) ?_ 1 _ rfl; (with_reducible repeat (first | refine blk_drewN ?_ _ | refine blk_drew ?_ | refine blk_alloc ?_ _)); refine blk_put (cs := #[.int .i64 0, .int .i64 0, .bool false, .bool false]) ?_ 0 _ rfl; (with_reducible repeat (first | refine blk_drewN ?_ _ | refine blk_drew ?_ | refine blk_alloc ?_ _)); exact BK219.out) Try.underlying27 rfl (by kernel_rfl)) rfl ?_
                  exact ⟨by first | rfl | (simp [errW_none, errW_some] <;> rfl) | (simp only [← hji4, ← hji5]; first | rfl | (simp [errW_none, errW_some] <;> rfl)) | (simp [*, errW_none, errW_some] <;> rfl), by repeat (first | (with_reducible first | exact HB.out | apply below_alloc | apply pw_below_drewN | apply below_drew1 | refine below_set ?_ GE218.out | refine below_set ?_ GE219.out) | exact HB.out)⟩
              · rw [if_neg c41] at H
                have c41b0 : (a1_2 == 2) = false := beq_eq_false_iff_ne.mpr c41
                have c41b1 : (a1_2 != 2) = true := bne_iff_ne.mpr c41
                have HC54 := Aside0.mk H
                clear H
                have hnb55 := NB218_219.out
                have hnc55 := NB219_218.out
                have hcz56_0 : wc.cell? ⟨gb218, 0, none⟩ = some (.int .i64 a1_0) := (blk_cell BK218.out 0).trans rfl
                have hcz56_1 : wc.cell? ⟨gb218, 1, none⟩ = some (.int .i64 a1_1) := (blk_cell BK218.out 1).trans rfl
                have hcz56_2 : wc.cell? ⟨gb218, 2, none⟩ = some (.int .i64 a1_2) := (blk_cell BK218.out 2).trans rfl
                have hfz56_0 := blk_frozen BK218.out 0
                have hfz56_1 := blk_frozen BK218.out 1
                have hfz56_2 := blk_frozen BK218.out 2
                go_upto_region 12 with (fail)
                repeat (go_quiet (fail); go_upto_region 12 with (fail))
                go_cut [106] (fun v106 wc => ∃ (kq : Nat) (x106_53 : Bool), v106 = .bool x106_53 ∧ Aside0 (quoinref14_Of.j2 kq l0 ji4 ji5 t221 t223 x106_53 = some (r1, r2, r3, r4, r5)) ∧ Aside0 (kq ≤ kj26) ∧ Aside0 (wc.heap[gb218]? = some (.cells #[.int .i64 a1_0, .int .i64 a1_1, .int .i64 a1_2] 24 (0, 0))) ∧ Aside0 (wc.heap[gb219]? = some (.cells #[.int .i64 0, .int .i64 0, .bool false, .bool false] 27 (0, 0))) ∧ Aside0 (Below w.heap.size w wc))
                case first =>
                  have H := HC54.out
                  clear HC54
                  by_cases c57 : t221 < t223
                  · rw [if_pos c57] at H
                    have c57b0 : decide (t221 < t223) = true := decide_eq_true c57
                    clear c57
                    (first | rw [c57b0] | (simp only [i64_w, i32_w]; rw [c57b0]) | skip)
                    obtain ⟨ji58, hji58⟩ : ∃ j_ : Int, (wrap64 (ji5 - 1)) = j_ := ⟨_, rfl⟩
                    replace H : (if 0 ≤ (ji58) then (if (ji58) < (l0.length : Int) then (quoinref14_Of.j2 kj26 l0 ji4 ji5 t221 t223 ((rd l0 (ji58)) == 10)) else (none)) else (none)) = some (r1, r2, r3, r4, r5) := by first | (rw [hji58] at H; exact H) | (simp only [hji58] at H ⊢; exact H)
                    have hji58w : (IntKind.i64.wrap (ji5 - 1)) = ji58 := (i64_w _).trans hji58
                    by_cases c59 : 0 ≤ (ji58)
                    · rw [if_pos c59] at H
                      have c59b0 : decide (0 ≤ (ji58)) = true := decide_eq_true c59
                      clear c59
                      by_cases c60 : (ji58) < (l0.length : Int)
                      · rw [if_pos c60] at H
                        have c60b0 : decide ((ji58) < (l0.length : Int)) = true := decide_eq_true c60
                        clear c60
                        have H' := Aside0.mk H
                        clear H
                        have p231 : 0 ≤ ((ji58) : Int) := of_decide_eq_true (by first | (with_reducible assumption) | assumption)
                        have q231 : (ji58) < (l0.length : Int) := of_decide_eq_true (by first | (with_reducible assumption) | assumption)
                        obtain ⟨ad231, e231, hx231_0⟩ := Kd.at_int HR0.out (ji58) p231 q231
                        cases e231
                        replace hx231_0 := (HB.out.cell (World.block_lt_of_cell? w _ hx231_0)).trans hx231_0
                        replace p231 := eq_true p231
                        replace q231 := eq_true q231
                        go_wp2
                        repeat (go_quiet (fail); try go_wp2)
                        go_meet
                        case rel => exact ⟨_, (((rd l0 (ji58)) == 10)), (by first | rfl | (simp; done) | (simp only [← hji58] <;> (first | rfl | simp)) | (simp [*]; done)), H', ⟨by have := HJ5.out; have := HJ26.out; first | omega | exact Nat.le_refl _⟩, ⟨by (with_reducible repeat (first | refine blk_drewN ?_ _ | refine blk_drew ?_ | refine blk_alloc ?_ _)); exact BK218.out⟩, ⟨by (with_reducible repeat (first | refine blk_drewN ?_ _ | refine blk_drew ?_ | refine blk_alloc ?_ _)); exact BK219.out⟩, ⟨by repeat (first | (with_reducible first | exact HB.out | apply below_alloc | apply pw_below_drewN | apply below_drew1 | refine below_set ?_ GE218.out | refine below_set ?_ GE219.out) | exact HB.out)⟩⟩
                      · rw [if_neg c60] at H
                        exact absurd H (by simp)
                    · rw [if_neg c59] at H
                      exact absurd H (by simp)
                  · rw [if_neg c57] at H
                    have c57b0 : decide (t221 < t223) = false := decide_eq_false c57
                    clear c57
                    (first | rw [c57b0] | (simp only [i64_w, i32_w]; rw [c57b0]) | skip)
                    have H' := Aside0.mk H
                    clear H
                    go_wp2
                    repeat (go_quiet (fail); try go_wp2)
                    go_meet
                    case rel => exact ⟨_, (false), (by first | rfl | (simp; done) | (simp [*]; done)), H', ⟨by have := HJ5.out; have := HJ26.out; first | omega | exact Nat.le_refl _⟩, ⟨by (with_reducible repeat (first | refine blk_drewN ?_ _ | refine blk_drew ?_ | refine blk_alloc ?_ _)); exact BK218.out⟩, ⟨by (with_reducible repeat (first | refine blk_drewN ?_ _ | refine blk_drew ?_ | refine blk_alloc ?_ _)); exact BK219.out⟩, ⟨by repeat (first | (with_reducible first | exact HB.out | apply below_alloc | apply pw_below_drewN | apply below_drew1 | refine below_set ?_ GE218.out | refine below_set ?_ GE219.out) | exact HB.out)⟩⟩
                case rest =>
                  clear HC54
                  try clear c1
                  try clear c2
                  try clear p2
                  try clear q2
                  try clear hx2
                  try clear c3
                  try clear c4
                  try clear c5
                  try clear c6
                  try clear p6
                  try clear c8
                  try clear c9
                  try clear c11
                  try clear c11b0
                  try clear c12
                  try clear c12b0
                  try clear c13
                  try clear c13b0
                  try clear c14
                  try clear c16
                  try clear c16b0
                  try clear c17
                  try clear c20
                  try clear c22
                  try clear c23
                  try clear p23
                  try clear q23
                  try clear hx23
                  try clear c28
                  try clear c28b0
                  try clear c28b1
                  try clear c29
                  try clear c31
                  try clear c31b0
                  try clear c31b1
                  try clear c32
                  try clear c34
                  try clear c36
                  try clear c39
                  try clear c41
                  try clear c41b0
                  try clear c41b1
                  try clear c42
                  try clear c42b0
                  try clear c43
                  try clear c43b0
                  try clear c44
                  try clear c44b0
                  try clear c44b1
                  try clear c45
                  try clear c48
                  try clear c51
                  try clear c55
                  try clear c57
                  try clear c57b0
                  try clear c59
                  try clear c59b0
                  try clear c60
                  try clear c60b0
                  try clear hcz10_0
                  try clear hcz10_1
                  try clear hcz10_2
                  try clear hcz15_0
                  try clear hcz15_1
                  try clear hcz15_2
                  try clear hcz18_0
                  try clear hcz18_1
                  try clear hcz18_2
                  try clear hcz21_0
                  try clear hcz21_1
                  try clear hcz21_2
                  try clear hcz24_0
                  try clear hcz24_1
                  try clear hcz24_2
                  try clear hcz24_3
                  try clear hcz30_0
                  try clear hcz30_1
                  try clear hcz30_2
                  try clear hcz33_0
                  try clear hcz33_1
                  try clear hcz33_2
                  try clear hcz35_0
                  try clear hcz35_1
                  try clear hcz35_2
                  try clear hcz40_0
                  try clear hcz40_1
                  try clear hcz40_2
                  try clear hcz40_3
                  try clear hcz46_0
                  try clear hcz46_1
                  try clear hcz46_2
                  try clear hcz47_0
                  try clear hcz47_1
                  try clear hcz47_2
                  try clear hcz47_3
                  try clear hcz49_0
                  try clear hcz49_1
                  try clear hcz49_2
                  try clear hcz50_0
                  try clear hcz50_1
                  try clear hcz50_2
                  try clear hcz50_3
                  try clear hcz52_0
                  try clear hcz52_1
                  try clear hcz52_2
                  try clear hcz53_0
                  try clear hcz53_1
                  try clear hcz53_2
                  try clear hcz53_3
                  try clear hcz56_0
                  try clear hcz56_1
                  try clear hcz56_2
                  try clear hfz10_0
                  try clear hfz10_1
                  try clear hfz10_2
                  try clear hfz15_0
                  try clear hfz15_1
                  try clear hfz15_2
                  try clear hfz18_0
                  try clear hfz18_1
                  try clear hfz18_2
                  try clear hfz21_0
                  try clear hfz21_1
                  try clear hfz21_2
                  try clear hfz24_0
                  try clear hfz24_1
                  try clear hfz24_2
                  try clear hfz24_3
                  try clear hfz30_0
                  try clear hfz30_1
                  try clear hfz30_2
                  try clear hfz33_0
                  try clear hfz33_1
                  try clear hfz33_2
                  try clear hfz35_0
                  try clear hfz35_1
                  try clear hfz35_2
                  try clear hfz40_0
                  try clear hfz40_1
                  try clear hfz40_2
                  try clear hfz40_3
                  try clear hfz46_0
                  try clear hfz46_1
                  try clear hfz46_2
                  try clear hfz47_0
                  try clear hfz47_1
                  try clear hfz47_2
                  try clear hfz47_3
                  try clear hfz49_0
                  try clear hfz49_1
                  try clear hfz49_2
                  try clear hfz50_0
                  try clear hfz50_1
                  try clear hfz50_2
                  try clear hfz50_3
                  try clear hfz52_0
                  try clear hfz52_1
                  try clear hfz52_2
                  try clear hfz53_0
                  try clear hfz53_1
                  try clear hfz53_2
                  try clear hfz53_3
                  try clear hfz56_0
                  try clear hfz56_1
                  try clear hfz56_2
                  try clear hx230_0
                  try clear hx231_0
                  try clear p2
                  try clear p230
                  try clear p231
                  try clear q230
                  try clear q231
                  obtain ⟨kq, x106_53, rfl, HA, HJ53, BK218, BK219, HB⟩ := hcut
                  cases kq with
                  | zero => exact absurd HA.out (by simp [quoinref14_Of.j2])
                  | succ kj53 =>
                    have H := HA.out
                    clear HA
                    simp only [quoinref14_Of.j2] at H
                    by_cases c61 : x106_53 = true
                    · subst c61
                      have H1 : ((quoinref14_indented.f kj53 l0 ji4).bind fun t232 => (if t232 = true then ((quoinref14_Whole.f kj53 l0 t221 (wrap64 (t223 - 1))).bind fun bt233 => (some (bt233.1, bt233.2.1, bt233.2.2.1, bt233.2.2.2.1, bt233.2.2.2.2))) else (some (ji4, wrap64 (ji5 - 1), false, false, 0)))) = some (r1, r2, r3, r4, r5) := by rw [if_pos rfl] at H; exact H
                      clear H
                      have H := H1
                      clear H1
                      replace H := Option.bind_eq_some_iff.mp H
                      obtain ⟨t232, A620, H⟩ := H
                      replace H : (if t232 = true then ((quoinref14_Whole.f kj53 l0 t221 (wrap64 (t223 - 1))).bind fun bt233 => (some (bt233.1, bt233.2.1, bt233.2.2.1, bt233.2.2.2.1, bt233.2.2.2.2))) else (some (ji4, wrap64 (ji5 - 1), false, false, 0))) = some (r1, r2, r3, r4, r5) := H
                      have A62 := Aside0.mk A620
                      clear A620
                      by_cases c63 : t232 = true
                      · subst c63
                        have H1 : ((quoinref14_Whole.f kj53 l0 t221 (wrap64 (t223 - 1))).bind fun bt233 => (some (bt233.1, bt233.2.1, bt233.2.2.1, bt233.2.2.2.1, bt233.2.2.2.2))) = some (r1, r2, r3, r4, r5) := by rw [if_pos rfl] at H; exact H
                        clear H
                        have H := H1
                        clear H1
                        replace H := Option.bind_eq_some_iff.mp H
                        obtain ⟨⟨t233, t234, t235, t236, t237⟩, A640, H⟩ := H
                        replace H : (some (t233, t234, t235, t236, t237)) = some (r1, r2, r3, r4, r5) := H
                        have A64 := Aside0.mk A640
                        clear A640
                        simp only [Option.some.injEq, Prod.mk.injEq] at H
                        obtain ⟨rfl, rfl, rfl, rfl, rfl⟩ := H
                        go_wp2_with (first | (go_at_call 17; (with_reducible refine (quoinref14_indented.calls kj53 _ _ l0 ji4 true _ ?side1 ?side2 A62.out).mono ?_); (case side1 => repeat (first | exact (Kd.C_below HR0.out HB.out) | (with_reducible refine Kd.C_alloc ?_ _) | (with_reducible refine Kd.C_drewN ?_ _) | (with_reducible refine Kd.C_drew ?_))); (case side2 => exact HC0.out); rintro e w' ⟨rfl, ⟨nd, rfl⟩⟩; (try first | exact ⟨rfl, _, World.drewN_drewN _ _ _⟩ | exact ⟨rfl, _, Eq.trans (World.drewN_drewN _ _ _) (congrArg (World.drewN _) (Nat.add_assoc _ _ _))⟩)) | (go_at_call 10; (with_reducible refine (quoinref14_Whole.calls kj53 _ _ l0 t221 (wrap64 (t223 - 1)) t233 t234 t235 t236 t237 _ ?side1 ?side2 A64.out).mono ?_); (case side1 => repeat (first | exact (Kd.C_below HR0.out (by repeat (first | (with_reducible first | exact HB.out | apply below_alloc | apply pw_below_drewN | apply below_drew1 | refine below_set ?_ GE218.out | refine below_set ?_ GE219.out) | exact HB.out))) | (with_reducible refine Kd.C_alloc ?_ _) | (with_reducible refine Kd.C_drewN ?_ _) | (with_reducible refine Kd.C_drew ?_))); (case side2 => exact HC0.out); rintro e w65 ⟨rfl, hb⟩; have n0_ := Aside0.mk (blk_below (g := gb218) (o := .cells #[.int .i64 a1_0, .int .i64 a1_1, .int .i64 a1_2] 24 (0, 0)) (by (with_reducible repeat (first | refine blk_drewN ?_ _ | refine blk_drew ?_ | refine blk_alloc ?_ _)); exact BK218.out) hb); have n1_ := Aside0.mk (blk_below (g := gb219) (o := .cells #[.int .i64 0, .int .i64 0, .bool false, .bool false] 27 (0, 0)) (by (with_reducible repeat (first | refine blk_drewN ?_ _ | refine blk_drew ?_ | refine blk_alloc ?_ _)); exact BK219.out) hb); have n2_ := Aside0.mk (below_step (by repeat (first | (with_reducible first | exact HB.out | apply below_alloc | apply pw_below_drewN | apply below_drew1 | refine below_set ?_ GE218.out | refine below_set ?_ GE219.out) | exact HB.out)) hb); clear BK218; clear BK219; clear HB; have BK218 := n0_; have BK219 := n1_; have HB := n2_; clear n0_ n1_ n2_; (try clear hb); (try clear hb2); (try clear hk); (try clear hi); have hnb66 := NB219_218.out; have hnc66 := NB218_219.out; have hcz67_0 : w65.cell? ⟨gb219, 0, none⟩ = some (.int .i64 0) := (blk_cell BK219.out 0).trans rfl; have hcz67_1 : w65.cell? ⟨gb219, 1, none⟩ = some (.int .i64 0) := (blk_cell BK219.out 1).trans rfl; have hcz67_2 : w65.cell? ⟨gb219, 2, none⟩ = some (.bool false) := (blk_cell BK219.out 2).trans rfl; have hcz67_3 : w65.cell? ⟨gb219, 3, none⟩ = some (.bool false) := (blk_cell BK219.out 3).trans rfl; have hfz67_0 := blk_frozen BK219.out 0; have hfz67_1 := blk_frozen BK219.out 1; have hfz67_2 := blk_frozen BK219.out 2; have hfz67_3 := blk_frozen BK219.out 3))
                        repeat (go_quiet (first | (go_at_call 17; (with_reducible refine (quoinref14_indented.calls kj53 _ _ l0 ji4 true _ ?side1 ?side2 A62.out).mono ?_); (case side1 => repeat (first | exact (Kd.C_below HR0.out HB.out) | (with_reducible refine Kd.C_alloc ?_ _) | (with_reducible refine Kd.C_drewN ?_ _) | (with_reducible refine Kd.C_drew ?_))); (case side2 => exact HC0.out); rintro e w' ⟨rfl, ⟨nd, rfl⟩⟩; (try first | exact ⟨rfl, _, World.drewN_drewN _ _ _⟩ | exact ⟨rfl, _, Eq.trans (World.drewN_drewN _ _ _) (congrArg (World.drewN _) (Nat.add_assoc _ _ _))⟩)) | (go_at_call 10; (with_reducible refine (quoinref14_Whole.calls kj53 _ _ l0 t221 (wrap64 (t223 - 1)) t233 t234 t235 t236 t237 _ ?side1 ?side2 A64.out).mono ?_); (case side1 => repeat (first | exact (Kd.C_below HR0.out (by repeat (first | (with_reducible first | exact HB.out | apply below_alloc | apply pw_below_drewN | apply below_drew1 | refine below_set ?_ GE218.out | refine below_set ?_ GE219.out) | exact HB.out))) | (with_reducible refine Kd.C_alloc ?_ _) | (with_reducible refine Kd.C_drewN ?_ _) | (with_reducible refine Kd.C_drew ?_))); (case side2 => exact HC0.out); rintro e w65 ⟨rfl, hb⟩; have n0_ := Aside0.mk (blk_below (g := gb218) (o := .cells #[.int .i64 a1_0, .int .i64 a1_1, .int .i64 a1_2] 24 (0, 0)) (by (with_reducible repeat (first | refine blk_drewN ?_ _ | refine blk_drew ?_ | refine blk_alloc ?_ _)); exact BK218.out) hb); have n1_ := Aside0.mk (blk_below (g := gb219) (o := .cells #[.int .i64 0, .int .i64 0, .bool false, .bool false] 27 (0, 0)) (by (with_reducible repeat (first | refine blk_drewN ?_ _ | refine blk_drew ?_ | refine blk_alloc ?_ _)); exact BK219.out) hb); have n2_ := Aside0.mk (below_step (by repeat (first | (with_reducible first | exact HB.out | apply below_alloc | apply pw_below_drewN | apply below_drew1 | refine below_set ?_ GE218.out | refine below_set ?_ GE219.out) | exact HB.out)) hb); clear BK218; clear BK219; clear HB; have BK218 := n0_; have BK219 := n1_; have HB := n2_; clear n0_ n1_ n2_; (try clear hb); (try clear hb2); (try clear hk); (try clear hi); have hnb66 := NB219_218.out; have hnc66 := NB218_219.out; have hcz67_0 : w65.cell? ⟨gb219, 0, none⟩ = some (.int .i64 0) := (blk_cell BK219.out 0).trans rfl; have hcz67_1 : w65.cell? ⟨gb219, 1, none⟩ = some (.int .i64 0) := (blk_cell BK219.out 1).trans rfl; have hcz67_2 : w65.cell? ⟨gb219, 2, none⟩ = some (.bool false) := (blk_cell BK219.out 2).trans rfl; have hcz67_3 : w65.cell? ⟨gb219, 3, none⟩ = some (.bool false) := (blk_cell BK219.out 3).trans rfl; have hfz67_0 := blk_frozen BK219.out 0; have hfz67_1 := blk_frozen BK219.out 1; have hfz67_2 := blk_frozen BK219.out 2; have hfz67_3 := blk_frozen BK219.out 3)); try go_wp2_with (first | (go_at_call 17; (with_reducible refine (quoinref14_indented.calls kj53 _ _ l0 ji4 true _ ?side1 ?side2 A62.out).mono ?_); (case side1 => repeat (first | exact (Kd.C_below HR0.out HB.out) | (with_reducible refine Kd.C_alloc ?_ _) | (with_reducible refine Kd.C_drewN ?_ _) | (with_reducible refine Kd.C_drew ?_))); (case side2 => exact HC0.out); rintro e w' ⟨rfl, ⟨nd, rfl⟩⟩; (try first | exact ⟨rfl, _, World.drewN_drewN _ _ _⟩ | exact ⟨rfl, _, Eq.trans (World.drewN_drewN _ _ _) (congrArg (World.drewN _) (Nat.add_assoc _ _ _))⟩)) | (go_at_call 10; (with_reducible refine (quoinref14_Whole.calls kj53 _ _ l0 t221 (wrap64 (t223 - 1)) t233 t234 t235 t236 t237 _ ?side1 ?side2 A64.out).mono ?_); (case side1 => repeat (first | exact (Kd.C_below HR0.out (by repeat (first | (with_reducible first | exact HB.out | apply below_alloc | apply pw_below_drewN | apply below_drew1 | refine below_set ?_ GE218.out | refine below_set ?_ GE219.out) | exact HB.out))) | (with_reducible refine Kd.C_alloc ?_ _) | (with_reducible refine Kd.C_drewN ?_ _) | (with_reducible refine Kd.C_drew ?_))); (case side2 => exact HC0.out); rintro e w65 ⟨rfl, hb⟩; have n0_ := Aside0.mk (blk_below (g := gb218) (o := .cells #[.int .i64 a1_0, .int .i64 a1_1, .int .i64 a1_2] 24 (0, 0)) (by (with_reducible repeat (first | refine blk_drewN ?_ _ | refine blk_drew ?_ | refine blk_alloc ?_ _)); exact BK218.out) hb); have n1_ := Aside0.mk (blk_below (g := gb219) (o := .cells #[.int .i64 0, .int .i64 0, .bool false, .bool false] 27 (0, 0)) (by (with_reducible repeat (first | refine blk_drewN ?_ _ | refine blk_drew ?_ | refine blk_alloc ?_ _)); exact BK219.out) hb); have n2_ := Aside0.mk (below_step (by repeat (first | (with_reducible first | exact HB.out | apply below_alloc | apply pw_below_drewN | apply below_drew1 | refine below_set ?_ GE218.out | refine below_set ?_ GE219.out) | exact HB.out)) hb); clear BK218; clear BK219; clear HB; have BK218 := n0_; have BK219 := n1_; have HB := n2_; clear n0_ n1_ n2_; (try clear hb); (try clear hb2); (try clear hk); (try clear hi); have hnb66 := NB219_218.out; have hnc66 := NB218_219.out; have hcz67_0 : w65.cell? ⟨gb219, 0, none⟩ = some (.int .i64 0) := (blk_cell BK219.out 0).trans rfl; have hcz67_1 : w65.cell? ⟨gb219, 1, none⟩ = some (.int .i64 0) := (blk_cell BK219.out 1).trans rfl; have hcz67_2 : w65.cell? ⟨gb219, 2, none⟩ = some (.bool false) := (blk_cell BK219.out 2).trans rfl; have hcz67_3 : w65.cell? ⟨gb219, 3, none⟩ = some (.bool false) := (blk_cell BK219.out 3).trans rfl; have hfz67_0 := blk_frozen BK219.out 0; have hfz67_1 := blk_frozen BK219.out 1; have hfz67_2 := blk_frozen BK219.out 2; have hfz67_3 := blk_frozen BK219.out 3)))
                        refine bodyPost_ret (results_ct rfl _ _ gb219 27 #[.int .i64 t233, .int .i64 t234, .bool t235, .bool t236] (0, 0) _ rfl (by (with_reducible repeat (first | refine blk_drewN ?_ _ | refine blk_drew ?_ | refine blk_alloc ?_ _)); refine blk_put (cs := #[.int .i64 t233, .int .i64 t234, .bool t235, .bool false]) ?_ 3 _ rfl; (with_reducible repeat (first | refine blk_drewN ?_ _ | refine blk_drew ?_ | refine blk_alloc ?_ _)); refine blk_put (cs := #[.int .i64 t233, .int .i64 t234, .bool false, .bool false]) ?_ 2 _ rfl; (with_reducible repeat (first | refine blk_drewN ?_ _ | refine blk_drew ?_ | refine blk_alloc ?_ _)); refine blk_put (cs := #[.int .i64 t233, .int .i64 0, .bool false, .bool false]) ?_ 1 _ rfl; (with_reducible repeat (first | refine blk_drewN ?_ _ | refine blk_drew ?_ | refine blk_alloc ?_ _)); refine blk_put (cs := #[.int .i64 0, .int .i64 0, .bool false, .bool false]) ?_ 0 _ rfl; (with_reducible repeat (first | refine blk_drewN ?_ _ | refine blk_drew ?_ | refine blk_alloc ?_ _)); exact BK219.out) Try.underlying27 rfl (by kernel_rfl)) rfl ?_
                        exact ⟨by first | rfl | (simp [errW_none, errW_some] <;> rfl) | (simp only [← hji4, ← hji5]; first | rfl | (simp [errW_none, errW_some] <;> rfl)) | (simp [*, errW_none, errW_some] <;> rfl), by repeat (first | (with_reducible first | exact HB.out | apply below_alloc | apply pw_below_drewN | apply below_drew1 | refine below_set ?_ GE218.out | refine below_set ?_ GE219.out) | exact HB.out)⟩
                      · replace c63 := Bool.eq_false_iff.mpr c63
                        subst c63
                        have H1 : (some (ji4, wrap64 (ji5 - 1), false, false, 0)) = some (r1, r2, r3, r4, r5) := by rw [if_neg (show ¬ (false = true) by decide)] at H; exact H
                        clear H
                        have H := H1
                        clear H1
                        simp only [Option.some.injEq, Prod.mk.injEq] at H
                        obtain ⟨rfl, rfl, rfl, rfl, rfl⟩ := H
                        go_wp2_with (first | (go_at_call 17; (with_reducible refine (quoinref14_indented.calls kj53 _ _ l0 ji4 false _ ?side1 ?side2 A62.out).mono ?_); (case side1 => repeat (first | exact (Kd.C_below HR0.out HB.out) | (with_reducible refine Kd.C_alloc ?_ _) | (with_reducible refine Kd.C_drewN ?_ _) | (with_reducible refine Kd.C_drew ?_))); (case side2 => exact HC0.out); rintro e w' ⟨rfl, ⟨nd, rfl⟩⟩; (try first | exact ⟨rfl, _, World.drewN_drewN _ _ _⟩ | exact ⟨rfl, _, Eq.trans (World.drewN_drewN _ _ _) (congrArg (World.drewN _) (Nat.add_assoc _ _ _))⟩); have hnb68 := NB219_218.out; have hnc68 := NB218_219.out; have hcz69_0 : wc.cell? ⟨gb219, 0, none⟩ = some (.int .i64 0) := (blk_cell BK219.out 0).trans rfl; have hcz69_1 : wc.cell? ⟨gb219, 1, none⟩ = some (.int .i64 0) := (blk_cell BK219.out 1).trans rfl; have hcz69_2 : wc.cell? ⟨gb219, 2, none⟩ = some (.bool false) := (blk_cell BK219.out 2).trans rfl; have hcz69_3 : wc.cell? ⟨gb219, 3, none⟩ = some (.bool false) := (blk_cell BK219.out 3).trans rfl; have hfz69_0 := blk_frozen BK219.out 0; have hfz69_1 := blk_frozen BK219.out 1; have hfz69_2 := blk_frozen BK219.out 2; have hfz69_3 := blk_frozen BK219.out 3))
                        repeat (go_quiet (first | (go_at_call 17; (with_reducible refine (quoinref14_indented.calls kj53 _ _ l0 ji4 false _ ?side1 ?side2 A62.out).mono ?_); (case side1 => repeat (first | exact (Kd.C_below HR0.out HB.out) | (with_reducible refine Kd.C_alloc ?_ _) | (with_reducible refine Kd.C_drewN ?_ _) | (with_reducible refine Kd.C_drew ?_))); (case side2 => exact HC0.out); rintro e w' ⟨rfl, ⟨nd, rfl⟩⟩; (try first | exact ⟨rfl, _, World.drewN_drewN _ _ _⟩ | exact ⟨rfl, _, Eq.trans (World.drewN_drewN _ _ _) (congrArg (World.drewN _) (Nat.add_assoc _ _ _))⟩); have hnb68 := NB219_218.out; have hnc68 := NB218_219.out; have hcz69_0 : wc.cell? ⟨gb219, 0, none⟩ = some (.int .i64 0) := (blk_cell BK219.out 0).trans rfl; have hcz69_1 : wc.cell? ⟨gb219, 1, none⟩ = some (.int .i64 0) := (blk_cell BK219.out 1).trans rfl; have hcz69_2 : wc.cell? ⟨gb219, 2, none⟩ = some (.bool false) := (blk_cell BK219.out 2).trans rfl; have hcz69_3 : wc.cell? ⟨gb219, 3, none⟩ = some (.bool false) := (blk_cell BK219.out 3).trans rfl; have hfz69_0 := blk_frozen BK219.out 0; have hfz69_1 := blk_frozen BK219.out 1; have hfz69_2 := blk_frozen BK219.out 2; have hfz69_3 := blk_frozen BK219.out 3)); try go_wp2_with (first | (go_at_call 17; (with_reducible refine (quoinref14_indented.calls kj53 _ _ l0 ji4 false _ ?side1 ?side2 A62.out).mono ?_); (case side1 => repeat (first | exact (Kd.C_below HR0.out HB.out) | (with_reducible refine Kd.C_alloc ?_ _) | (with_reducible refine Kd.C_drewN ?_ _) | (with_reducible refine Kd.C_drew ?_))); (case side2 => exact HC0.out); rintro e w' ⟨rfl, ⟨nd, rfl⟩⟩; (try first | exact ⟨rfl, _, World.drewN_drewN _ _ _⟩ | exact ⟨rfl, _, Eq.trans (World.drewN_drewN _ _ _) (congrArg (World.drewN _) (Nat.add_assoc _ _ _))⟩); have hnb68 := NB219_218.out; have hnc68 := NB218_219.out; have hcz69_0 : wc.cell? ⟨gb219, 0, none⟩ = some (.int .i64 0) := (blk_cell BK219.out 0).trans rfl; have hcz69_1 : wc.cell? ⟨gb219, 1, none⟩ = some (.int .i64 0) := (blk_cell BK219.out 1).trans rfl; have hcz69_2 : wc.cell? ⟨gb219, 2, none⟩ = some (.bool false) := (blk_cell BK219.out 2).trans rfl; have hcz69_3 : wc.cell? ⟨gb219, 3, none⟩ = some (.bool false) := (blk_cell BK219.out 3).trans rfl; have hfz69_0 := blk_frozen BK219.out 0; have hfz69_1 := blk_frozen BK219.out 1; have hfz69_2 := blk_frozen BK219.out 2; have hfz69_3 := blk_frozen BK219.out 3)))
                        refine bodyPost_ret (results_ct rfl _ _ gb219 27 #[.int .i64 ji4, .int .i64 (wrap64 (ji5 - 1)), .bool false, .bool false] (0, 0) _ rfl (by (with_reducible repeat (first | refine blk_drewN ?_ _ | refine blk_drew ?_ | refine blk_alloc ?_ _)); refine blk_put (cs := #[.int .i64 ji4, .int .i64 (wrap64 (ji5 - 1)), .bool false, .bool false]) ?_ 3 _ rfl; (with_reducible repeat (first | refine blk_drewN ?_ _ | refine blk_drew ?_ | refine blk_alloc ?_ _)); refine blk_put (cs := #[.int .i64 ji4, .int .i64 (wrap64 (ji5 - 1)), .bool false, .bool false]) ?_ 2 _ rfl; (with_reducible repeat (first | refine blk_drewN ?_ _ | refine blk_drew ?_ | refine blk_alloc ?_ _)); refine blk_put (cs := #[.int .i64 ji4, .int .i64 0, .bool false, .bool false]) ?_ 1 _ rfl; (with_reducible repeat (first | refine blk_drewN ?_ _ | refine blk_drew ?_ | refine blk_alloc ?_ _)); refine blk_put (cs := #[.int .i64 0, .int .i64 0, .bool false, .bool false]) ?_ 0 _ rfl; (with_reducible repeat (first | refine blk_drewN ?_ _ | refine blk_drew ?_ | refine blk_alloc ?_ _)); exact BK219.out) Try.underlying27 rfl (by kernel_rfl)) rfl ?_
                        exact ⟨by first | rfl | (simp [errW_none, errW_some] <;> rfl) | (simp only [← hji4, ← hji5]; first | rfl | (simp [errW_none, errW_some] <;> rfl)) | (simp [*, errW_none, errW_some] <;> rfl), by repeat (first | (with_reducible first | exact HB.out | apply below_alloc | apply pw_below_drewN | apply below_drew1 | refine below_set ?_ GE218.out | refine below_set ?_ GE219.out) | exact HB.out)⟩
                    · replace c61 := Bool.eq_false_iff.mpr c61
                      subst c61
                      have H1 : (some (ji4, ji5, false, false, 0)) = some (r1, r2, r3, r4, r5) := by rw [if_neg (show ¬ (false = true) by decide)] at H; exact H
                      clear H
                      have H := H1
                      clear H1
                      simp only [Option.some.injEq, Prod.mk.injEq] at H
                      obtain ⟨rfl, rfl, rfl, rfl, rfl⟩ := H
                      have hnb70 := NB219_218.out
                      have hnc70 := NB218_219.out
                      have hcz71_0 : wc.cell? ⟨gb219, 0, none⟩ = some (.int .i64 0) := (blk_cell BK219.out 0).trans rfl
                      have hcz71_1 : wc.cell? ⟨gb219, 1, none⟩ = some (.int .i64 0) := (blk_cell BK219.out 1).trans rfl
                      have hcz71_2 : wc.cell? ⟨gb219, 2, none⟩ = some (.bool false) := (blk_cell BK219.out 2).trans rfl
                      have hcz71_3 : wc.cell? ⟨gb219, 3, none⟩ = some (.bool false) := (blk_cell BK219.out 3).trans rfl
                      have hfz71_0 := blk_frozen BK219.out 0
                      have hfz71_1 := blk_frozen BK219.out 1
                      have hfz71_2 := blk_frozen BK219.out 2
                      have hfz71_3 := blk_frozen BK219.out 3
                      go_wp2
                      repeat (go_quiet (fail); try go_wp2)
                      refine bodyPost_ret (results_ct rfl _ _ gb219 27 #[.int .i64 ji4, .int .i64 ji5, .bool false, .bool false] (0, 0) _ rfl (by (with_reducible repeat (first | refine blk_drewN ?_ _ | refine blk_drew ?_ | refine blk_alloc ?_ _)); refine blk_put (cs := #[.int .i64 ji4, .int .i64 ji5, .bool false, .bool false]) ?_ 3 _ rfl; (with_reducible repeat (first | refine blk_drewN ?_ _ | refine blk_drew ?_ | refine blk_alloc ?_ _)); refine blk_put (cs := #[.int .i64 ji4, .int .i64 ji5, .bool false, .bool false]) ?_ 2 _ rfl; (with_reducible repeat (first | refine blk_drewN ?_ _ | refine blk_drew ?_ | refine blk_alloc ?_ _)); refine blk_put (cs := #[.int .i64 ji4, .int .i64 0, .bool false, .bool false]) ?_ 1 _ rfl; (with_reducible repeat (first | refine blk_drewN ?_ _ | refine blk_drew ?_ | refine blk_alloc ?_ _)); refine blk_put (cs := #[.int .i64 0, .int .i64 0, .bool false, .bool false]) ?_ 0 _ rfl; (with_reducible repeat (first | refine blk_drewN ?_ _ | refine blk_drew ?_ | refine blk_alloc ?_ _)); exact BK219.out) Try.underlying27 rfl (by kernel_rfl)) rfl ?_
                      exact ⟨by first | rfl | (simp [errW_none, errW_some] <;> rfl) | (simp only [← hji4, ← hji5]; first | rfl | (simp [errW_none, errW_some] <;> rfl)) | (simp [*, errW_none, errW_some] <;> rfl), by repeat (first | (with_reducible first | exact HB.out | apply below_alloc | apply pw_below_drewN | apply below_drew1 | refine below_set ?_ GE218.out | refine below_set ?_ GE219.out) | exact HB.out)⟩

end Go.Proofs.Ytlcdnpecoaamcaa.X
