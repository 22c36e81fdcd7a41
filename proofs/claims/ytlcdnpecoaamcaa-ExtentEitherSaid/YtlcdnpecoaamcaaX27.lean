-- Written by wip/xprint.py over the kit's print.py: the Lean function of each Go function, and the proof that the Go text comes to it.
import Derived.Test.YtlcdnpecoaamcaaX0
import Derived.Test.YtlcdnpecoaamcaaX1
import Derived.Test.YtlcdnpecoaamcaaX11
import Derived.Test.YtlcdnpecoaamcaaX13
import Derived.Test.YtlcdnpecoaamcaaX14
namespace Go.Proofs.Ytlcdnpecoaamcaa.X
open Go.RowKit Go.Proofs.YtlcdnpecoaamcaaW.PrintWords Go.Proofs.YtlcdnpecoaamcaaW.PrintLast Go.Proofs.YtlcdnpecoaamcaaW.PrintMore
attribute [local go_sem] max2_int min2_int max_two min_two max_three min_three max_four min_four   -- for this text's walks alone
set_option linter.unusedVariables false
set_option linter.unusedSimpArgs false

attribute [local go_sem high] eqA27
/-! ### quoinlaw14_ExtentEither: function 6 -/
mutual
def quoinlaw14_ExtentEither.j0 : Nat → List Int → ByteArray → Int → Bool → Int → Int → Int → Int → Int → Bool → Bool → Option (Bool)
  | 0, _, _, _, _, _, _, _, _, _, _, _ => none
  | k + 1, x0, x2, x8, x44, x335000, x335001, x335002, x342000, x342001, x342002, x342003 => if x44 = true then (some false) else (if x8 = 0 then ((extent_Take.f k x0 x342000 x342001 x342002 x342003).bind fun bt348 => (if bt348.2.2.2 = 0 then (if x342000 < 0 then (quoinlaw14_ExtentEither.j1 k x0 x2 (mn x335000 x335001) (mx x335000 x335001) true x335000 x335001 x335002 x342000 x342001 x342002 x342003) else (if x342001 > (x0.length : Int) then (quoinlaw14_ExtentEither.j1 k x0 x2 (mn x335000 x335001) (mx x335000 x335001) true x335000 x335001 x335002 x342000 x342001 x342002 x342003) else (if x342000 > (mn x335000 x335001) then (quoinlaw14_ExtentEither.j1 k x0 x2 (mn x335000 x335001) (mx x335000 x335001) true x335000 x335001 x335002 x342000 x342001 x342002 x342003) else (quoinlaw14_ExtentEither.j1 k x0 x2 (mn x335000 x335001) (mx x335000 x335001) (decide (x342001 < x342000)) x335000 x335001 x335002 x342000 x342001 x342002 x342003)))) else (quoinlaw14_ExtentEither.j1 k x0 x2 (mn x335000 x335001) (mx x335000 x335001) true x335000 x335001 x335002 x342000 x342001 x342002 x342003))) else (some (x342000 == 0 && (x342001 == 0 && (!x342002 && (!x342003))))))
def quoinlaw14_ExtentEither.j1 : Nat → List Int → ByteArray → Int → Int → Bool → Int → Int → Int → Int → Int → Bool → Bool → Option (Bool)
  | 0, _, _, _, _, _, _, _, _, _, _, _, _ => none
  | k + 1, x0, x2, x11, x12, x92, x335000, x335001, x335002, x342000, x342001, x342002, x342003 => if x92 = true then (some false) else (if x342002 = true then (if x342001 ≥ x12 then (some true) else (if x12 > 0 then (if 0 ≤ (wrap64 (x12 - 1)) then (if (wrap64 (x12 - 1)) < (x0.length : Int) then (some ((rd x0 (wrap64 (x12 - 1))) == 10)) else (none)) else (none)) else (some false))) else (if x335002 = 3 then (some false) else (if x2.toList = ([62] : List UInt8) then (some false) else (if x2.toList = ([60] : List UInt8) then (some false) else (if x342000 = x11 then (if x342003 = true then (some false) else (if x342001 ≥ x12 then (if x342001 ≤ (wrap64 (x12 + 1)) then (some true) else (if x342001 = (wrap64 (x12 - 1)) then (if 0 ≤ (wrap64 (x12 - 1)) then (if (wrap64 (x12 - 1)) < (x0.length : Int) then (if (rd x0 (wrap64 (x12 - 1))) = 10 then (some (x335002 == 1)) else (some false)) else (none)) else (none)) else (some false))) else (if x342001 = (wrap64 (x12 - 1)) then (if 0 ≤ (wrap64 (x12 - 1)) then (if (wrap64 (x12 - 1)) < (x0.length : Int) then (if (rd x0 (wrap64 (x12 - 1))) = 10 then (some (x335002 == 1)) else (some false)) else (none)) else (none)) else (some false)))) else (some false))))))
end
def quoinlaw14_ExtentEither.f (k : Nat) (l0 : List Int) (a1_0 : Int) (a1_1 : Int) (a1_2 : Int) (a2 : ByteArray) : Option (Bool) := (quoinlaw14_alive.f k).bind fun t335 => (if t335 = true then ((extent_Of.f k l0 a1_0 a1_1 a1_2 a2).bind fun bt336 => ((extent_Of.f k l0 a1_1 a1_0 a1_2 a2).bind fun bt342 => (if (!(bt336.1 == bt342.1) || (!(bt336.2.1 == bt342.2.1) || (!(bt336.2.2.1 == bt342.2.2.1) || (!(bt336.2.2.2.1 == bt342.2.2.2.1))))) = true then (quoinlaw14_ExtentEither.j0 k l0 a2 bt336.2.2.2.2 true a1_0 a1_1 a1_2 bt336.1 bt336.2.1 bt336.2.2.1 bt336.2.2.2.1) else (quoinlaw14_ExtentEither.j0 k l0 a2 bt336.2.2.2.2 (bt336.2.2.2.2 != bt342.2.2.2.2) a1_0 a1_1 a1_2 bt336.1 bt336.2.1 bt336.2.2.1 bt336.2.2.2.1)))) else (some false))
theorem quoinlaw14_ExtentEither.mono_l : ∀ k, (∀ y0 y1 y2 y3 y4 y5 y6 y7 y8 y9 y10, LeO (quoinlaw14_ExtentEither.j0 k y0 y1 y2 y3 y4 y5 y6 y7 y8 y9 y10) (quoinlaw14_ExtentEither.j0 (k + 1) y0 y1 y2 y3 y4 y5 y6 y7 y8 y9 y10)) ∧ (∀ y0 y1 y2 y3 y4 y5 y6 y7 y8 y9 y10 y11, LeO (quoinlaw14_ExtentEither.j1 k y0 y1 y2 y3 y4 y5 y6 y7 y8 y9 y10 y11) (quoinlaw14_ExtentEither.j1 (k + 1) y0 y1 y2 y3 y4 y5 y6 y7 y8 y9 y10 y11))
  | 0 => ⟨fun _ _ _ _ _ _ _ _ _ _ _ r h => by simp [quoinlaw14_ExtentEither.j0] at h, fun _ _ _ _ _ _ _ _ _ _ _ _ r h => by simp [quoinlaw14_ExtentEither.j1] at h⟩
  | k + 1 => by
    obtain ⟨ih0, ih1⟩ := quoinlaw14_ExtentEither.mono_l k
    refine ⟨?_, ?_⟩
    · intro y0 y1 y2 y3 y4 y5 y6 y7 y8 y9 y10
      unfold quoinlaw14_ExtentEither.j0
      repeat' first
      | (with_reducible exact ih0 _ _ _ _ _ _ _ _ _ _ _)
      | (with_reducible exact ih1 _ _ _ _ _ _ _ _ _ _ _ _)
      | (with_reducible exact extent_Of.mono _ _ _ _ _ _)
      | (with_reducible exact extent_Take.mono _ _ _ _ _ _)
      | (with_reducible exact quoinlaw14_alive.mono _)
      | (with_reducible exact LeO.refl _)
      | (with_reducible exact LeO.none _)
      | (with_reducible refine LeO.ite ?_ ?_)
      | (with_reducible refine LeO.bind ?_ (fun _ => ?_))
      | exact ih0 _ _ _ _ _ _ _ _ _ _ _
      | exact ih1 _ _ _ _ _ _ _ _ _ _ _ _
      | exact extent_Of.mono _ _ _ _ _ _
      | exact extent_Take.mono _ _ _ _ _ _
      | exact quoinlaw14_alive.mono _
      | exact LeO.none _
      | refine LeO.ite ?_ ?_
      | refine LeO.bind ?_ (fun _ => ?_)
    · intro y0 y1 y2 y3 y4 y5 y6 y7 y8 y9 y10 y11
      unfold quoinlaw14_ExtentEither.j1
      repeat' first
      | (with_reducible exact ih0 _ _ _ _ _ _ _ _ _ _ _)
      | (with_reducible exact ih1 _ _ _ _ _ _ _ _ _ _ _ _)
      | (with_reducible exact extent_Of.mono _ _ _ _ _ _)
      | (with_reducible exact extent_Take.mono _ _ _ _ _ _)
      | (with_reducible exact quoinlaw14_alive.mono _)
      | (with_reducible exact LeO.refl _)
      | (with_reducible exact LeO.none _)
      | (with_reducible refine LeO.ite ?_ ?_)
      | (with_reducible refine LeO.bind ?_ (fun _ => ?_))
      | exact ih0 _ _ _ _ _ _ _ _ _ _ _
      | exact ih1 _ _ _ _ _ _ _ _ _ _ _ _
      | exact extent_Of.mono _ _ _ _ _ _
      | exact extent_Take.mono _ _ _ _ _ _
      | exact quoinlaw14_alive.mono _
      | exact LeO.none _
      | refine LeO.ite ?_ ?_
      | refine LeO.bind ?_ (fun _ => ?_)
theorem quoinlaw14_ExtentEither.mono : ∀ a0 a1 a2 a3 a4 k, LeO (quoinlaw14_ExtentEither.f k a0 a1 a2 a3 a4) (quoinlaw14_ExtentEither.f (k + 1) a0 a1 a2 a3 a4) := by
  intro a0 a1 a2 a3 a4 k
  obtain ⟨ih0, ih1⟩ := quoinlaw14_ExtentEither.mono_l k
  unfold quoinlaw14_ExtentEither.f
  repeat' first
      | (with_reducible exact ih0 _ _ _ _ _ _ _ _ _ _ _)
      | (with_reducible exact ih1 _ _ _ _ _ _ _ _ _ _ _ _)
      | (with_reducible exact extent_Of.mono _ _ _ _ _ _)
      | (with_reducible exact extent_Take.mono _ _ _ _ _ _)
      | (with_reducible exact quoinlaw14_alive.mono _)
      | (with_reducible exact LeO.refl _)
      | (with_reducible exact LeO.none _)
      | (with_reducible refine LeO.ite ?_ ?_)
      | (with_reducible refine LeO.bind ?_ (fun _ => ?_))
      | exact ih0 _ _ _ _ _ _ _ _ _ _ _
      | exact ih1 _ _ _ _ _ _ _ _ _ _ _ _
      | exact extent_Of.mono _ _ _ _ _ _
      | exact extent_Take.mono _ _ _ _ _ _
      | exact quoinlaw14_alive.mono _
      | exact LeO.none _
      | refine LeO.ite ?_ ?_
      | refine LeO.bind ?_ (fun _ => ?_)
set_option maxHeartbeats 8000000 in
set_option maxRecDepth 100000 in
theorem quoinlaw14_ExtentEither.calls (k : Nat) (A0 : Option Addr) (c0 : Nat) (l0 : List Int) (a1_0 : Int) (a1_1 : Int) (a1_2 : Int) (a2 : ByteArray) (r : Bool) (w : World) (hr0 : Kd.C (Kd.int .u8) w A0 l0.length l0) (hc0 : l0.length ≤ c0) (h : quoinlaw14_ExtentEither.f k l0 a1_0 a1_1 a1_2 a2 = some r) :
    Calls Try.prog 6 #[.slice A0 l0.length c0, .agg #[.int .i64 a1_0, .int .i64 a1_1, .int .i64 a1_2], .string a2] w fun e w' => e = .returned (.bool r) ∧ Below w.heap.size w w' := by
  have hu24 := Try.underlying24
  have hu27 := Try.underlying27
  have hu38 := Try.underlying38
  have HR0 := Aside0.mk hr0
  have HC0 := Aside0.mk hc0
  clear hr0 hc0
  have HB := Aside0.mk (Below.refl w.heap.size w)
  have H : ((quoinlaw14_alive.f k).bind fun t335 => (if t335 = true then ((extent_Of.f k l0 a1_0 a1_1 a1_2 a2).bind fun bt336 => ((extent_Of.f k l0 a1_1 a1_0 a1_2 a2).bind fun bt342 => (if (!(bt336.1 == bt342.1) || (!(bt336.2.1 == bt342.2.1) || (!(bt336.2.2.1 == bt342.2.2.1) || (!(bt336.2.2.2.1 == bt342.2.2.2.1))))) = true then (quoinlaw14_ExtentEither.j0 k l0 a2 bt336.2.2.2.2 true a1_0 a1_1 a1_2 bt336.1 bt336.2.1 bt336.2.2.1 bt336.2.2.2.1) else (quoinlaw14_ExtentEither.j0 k l0 a2 bt336.2.2.2.2 (bt336.2.2.2.2 != bt342.2.2.2.2) a1_0 a1_1 a1_2 bt336.1 bt336.2.1 bt336.2.2.1 bt336.2.2.2.1)))) else (some false))) = some r := h
  clear h
  replace H := Option.bind_eq_some_iff.mp H
  obtain ⟨t335, A40, H⟩ := H
  replace H : (if t335 = true then ((extent_Of.f k l0 a1_0 a1_1 a1_2 a2).bind fun bt336 => ((extent_Of.f k l0 a1_1 a1_0 a1_2 a2).bind fun bt342 => (if (!(bt336.1 == bt342.1) || (!(bt336.2.1 == bt342.2.1) || (!(bt336.2.2.1 == bt342.2.2.1) || (!(bt336.2.2.2.1 == bt342.2.2.2.1))))) = true then (quoinlaw14_ExtentEither.j0 k l0 a2 bt336.2.2.2.2 true a1_0 a1_1 a1_2 bt336.1 bt336.2.1 bt336.2.2.1 bt336.2.2.2.1) else (quoinlaw14_ExtentEither.j0 k l0 a2 bt336.2.2.2.2 (bt336.2.2.2.2 != bt342.2.2.2.2) a1_0 a1_1 a1_2 bt336.1 bt336.2.1 bt336.2.2.1 bt336.2.2.2.1)))) else (some false)) = some r := H
  have A4 := Aside0.mk A40
  clear A40
  by_cases c5 : t335 = true
  · subst c5
    have H1 : ((extent_Of.f k l0 a1_0 a1_1 a1_2 a2).bind fun bt336 => ((extent_Of.f k l0 a1_1 a1_0 a1_2 a2).bind fun bt342 => (if (!(bt336.1 == bt342.1) || (!(bt336.2.1 == bt342.2.1) || (!(bt336.2.2.1 == bt342.2.2.1) || (!(bt336.2.2.2.1 == bt342.2.2.2.1))))) = true then (quoinlaw14_ExtentEither.j0 k l0 a2 bt336.2.2.2.2 true a1_0 a1_1 a1_2 bt336.1 bt336.2.1 bt336.2.2.1 bt336.2.2.2.1) else (quoinlaw14_ExtentEither.j0 k l0 a2 bt336.2.2.2.2 (bt336.2.2.2.2 != bt342.2.2.2.2) a1_0 a1_1 a1_2 bt336.1 bt336.2.1 bt336.2.2.1 bt336.2.2.2.1)))) = some r := by rw [if_pos rfl] at H; exact H
    clear H
    have H := H1
    clear H1
    replace H := Option.bind_eq_some_iff.mp H
    obtain ⟨⟨t336, t337, t338, t339, t340⟩, A60, H⟩ := H
    replace H : ((extent_Of.f k l0 a1_1 a1_0 a1_2 a2).bind fun bt342 => (if (!(t336 == bt342.1) || (!(t337 == bt342.2.1) || (!(t338 == bt342.2.2.1) || (!(t339 == bt342.2.2.2.1))))) = true then (quoinlaw14_ExtentEither.j0 k l0 a2 t340 true a1_0 a1_1 a1_2 t336 t337 t338 t339) else (quoinlaw14_ExtentEither.j0 k l0 a2 t340 (t340 != bt342.2.2.2.2) a1_0 a1_1 a1_2 t336 t337 t338 t339))) = some r := H
    have A6 := Aside0.mk A60
    clear A60
    replace H := Option.bind_eq_some_iff.mp H
    obtain ⟨⟨t342, t343, t344, t345, t346⟩, A70, H⟩ := H
    replace H : (if (!(t336 == t342) || (!(t337 == t343) || (!(t338 == t344) || (!(t339 == t345))))) = true then (quoinlaw14_ExtentEither.j0 k l0 a2 t340 true a1_0 a1_1 a1_2 t336 t337 t338 t339) else (quoinlaw14_ExtentEither.j0 k l0 a2 t340 (t340 != t346) a1_0 a1_1 a1_2 t336 t337 t338 t339)) = some r := H
    have A7 := Aside0.mk A70
    clear A70
    have HC8 := Aside0.mk H
    clear H
    go_enter Try.func6, Try.ntmps6
    go_upto_region 5 with (first | ((with_reducible refine gate_dst (N := 4) rfl ?_); (try (refine gate_guard (by rfl) ?_; dsimp only)); refine box_event ?hg (N := 4) ?hd (cs := #[.int .i64 a1_0, .int .i64 a1_1, .int .i64 a1_2]) (t := 24) ?hr ?_; (case hd => rfl); (case hg => rfl); (case hr => first | (go_simp; done) | (go_simp; rfl)); intro gb334 hg w9 hbox hb; have n0_ := Aside0.mk (below_step (by repeat (first | (with_reducible first | exact HB.out | apply below_alloc | apply pw_below_drewN | apply below_drew1) | exact HB.out)) hb); have n1_ := Aside0.mk (hbox); have n2_ := Aside0.mk ((by rw [hg]; exact (below_size (by repeat (first | (with_reducible first | exact HB.out | apply below_alloc | apply pw_below_drewN | apply below_drew1) | exact HB.out))) : w.heap.size ≤ gb334)); have n3_ := Aside0.mk ((by rw [hg]; exact (below_size (by repeat (first | (with_reducible first | exact HB.out | apply below_alloc | apply pw_below_drewN | apply below_drew1) | exact HB.out))) : w.heap.size ≤ gb334)); clear HB; have HB := n0_; have BK334 := n1_; have GW334 := n2_; have GE334 := n3_; clear n0_ n1_ n2_ n3_; clear hb hbox hg) | (go_at_call 7; (with_reducible refine (quoinlaw14_alive.calls k  true _ A4.out).mono ?_); rintro e w10 ⟨rfl, hb⟩; have n0_ := Aside0.mk (blk_below (g := gb334) (o := .cells #[.int .i64 a1_0, .int .i64 a1_1, .int .i64 a1_2] 24 (0, 0)) (by (with_reducible repeat (first | refine blk_drewN ?_ _ | refine blk_drew ?_ | refine blk_alloc ?_ _)); exact BK334.out) hb); have n1_ := Aside0.mk (below_step (by repeat (first | (with_reducible first | exact HB.out | apply below_alloc | apply pw_below_drewN | apply below_drew1 | refine below_set ?_ GE334.out) | exact HB.out)) hb); clear BK334; clear HB; have BK334 := n0_; have HB := n1_; clear n0_ n1_; (try clear hb); (try clear hb2); (try clear hk); (try clear hi); have hcz11_0 : w10.cell? ⟨gb334, 0, none⟩ = some (.int .i64 a1_0) := (blk_cell BK334.out 0).trans rfl; have hcz11_1 : w10.cell? ⟨gb334, 1, none⟩ = some (.int .i64 a1_1) := (blk_cell BK334.out 1).trans rfl; have hcz11_2 : w10.cell? ⟨gb334, 2, none⟩ = some (.int .i64 a1_2) := (blk_cell BK334.out 2).trans rfl; have hfz11_0 := blk_frozen BK334.out 0; have hfz11_1 := blk_frozen BK334.out 1; have hfz11_2 := blk_frozen BK334.out 2) | (go_at_call 9; (with_reducible refine (extent_Of.calls k _ _ l0 a1_0 a1_1 a1_2 a2 t336 t337 t338 t339 t340 _ ?side1 ?side2 A6.out).mono ?_); (case side1 => repeat (first | exact (Kd.C_below HR0.out HB.out) | (with_reducible refine Kd.C_alloc ?_ _) | (with_reducible refine Kd.C_drewN ?_ _) | (with_reducible refine Kd.C_drew ?_))); (case side2 => exact HC0.out); rintro e w12 ⟨rfl, hb⟩; have n0_ := Aside0.mk (blk_below (g := gb334) (o := .cells #[.int .i64 a1_0, .int .i64 a1_1, .int .i64 a1_2] 24 (0, 0)) (by (with_reducible repeat (first | refine blk_drewN ?_ _ | refine blk_drew ?_ | refine blk_alloc ?_ _)); exact BK334.out) hb); have n1_ := Aside0.mk (below_step (by repeat (first | (with_reducible first | exact HB.out | apply below_alloc | apply pw_below_drewN | apply below_drew1 | refine below_set ?_ GE334.out) | exact HB.out)) hb); clear BK334; clear HB; have BK334 := n0_; have HB := n1_; clear n0_ n1_; (try clear hb); (try clear hb2); (try clear hk); (try clear hi)) | ((with_reducible refine gate_dst (N := 7) rfl ?_); (try (refine gate_guard (by rfl) ?_; dsimp only)); refine box_event ?hg (N := 7) ?hd (cs := #[.int .i64 0, .int .i64 0, .bool false, .bool false]) (t := 27) ?hr ?_; (case hd => rfl); (case hg => rfl); (case hr => first | (go_simp; done) | (go_simp; rfl)); intro gb341 hg w13 hbox hb; have n0_ := Aside0.mk (blk_below (g := gb334) (o := .cells #[.int .i64 a1_0, .int .i64 a1_1, .int .i64 a1_2] 24 (0, 0)) (by (with_reducible repeat (first | refine blk_drewN ?_ _ | refine blk_drew ?_ | refine blk_alloc ?_ _)); exact BK334.out) hb); have n1_ := Aside0.mk (below_step (by repeat (first | (with_reducible first | exact HB.out | apply below_alloc | apply pw_below_drewN | apply below_drew1 | refine below_set ?_ GE334.out) | exact HB.out)) hb); have n2_ := Aside0.mk (hbox); have n3_ := Aside0.mk ((by rw [hg]; exact (below_size (by repeat (first | (with_reducible first | exact HB.out | apply below_alloc | apply pw_below_drewN | apply below_drew1 | refine below_set ?_ GE334.out) | exact HB.out))) : w.heap.size ≤ gb341)); have n4_ := Aside0.mk ((by rw [hg]; exact (below_size (by repeat (first | (with_reducible first | exact HB.out | apply below_alloc | apply pw_below_drewN | apply below_drew1 | refine below_set ?_ GE334.out) | exact HB.out))) : w.heap.size ≤ gb341)); have n5_ := Aside0.mk ((by rw [hg]; exact Nat.ne_of_lt (blk_lt (g := gb334) (o := .cells #[.int .i64 a1_0, .int .i64 a1_1, .int .i64 a1_2] 24 (0, 0)) (by (with_reducible repeat (first | refine blk_drewN ?_ _ | refine blk_drew ?_ | refine blk_alloc ?_ _)); exact BK334.out)) : gb334 ≠ gb341)); have n6_ := Aside0.mk ((by rw [hg]; exact Nat.ne_of_gt (blk_lt (g := gb334) (o := .cells #[.int .i64 a1_0, .int .i64 a1_1, .int .i64 a1_2] 24 (0, 0)) (by (with_reducible repeat (first | refine blk_drewN ?_ _ | refine blk_drew ?_ | refine blk_alloc ?_ _)); exact BK334.out)) : gb341 ≠ gb334)); clear BK334; clear HB; have BK334 := n0_; have HB := n1_; have BK341 := n2_; have GW341 := n3_; have GE341 := n4_; have NB334_341 := n5_; have NB341_334 := n6_; clear n0_ n1_ n2_ n3_ n4_ n5_ n6_; clear hb hbox hg; have hnb14 := NB341_334.out; have hnc14 := NB334_341.out; have hcz15_0 : w13.cell? ⟨gb341, 0, none⟩ = some (.int .i64 0) := (blk_cell BK341.out 0).trans rfl; have hcz15_1 : w13.cell? ⟨gb341, 1, none⟩ = some (.int .i64 0) := (blk_cell BK341.out 1).trans rfl; have hcz15_2 : w13.cell? ⟨gb341, 2, none⟩ = some (.bool false) := (blk_cell BK341.out 2).trans rfl; have hcz15_3 : w13.cell? ⟨gb341, 3, none⟩ = some (.bool false) := (blk_cell BK341.out 3).trans rfl; have hfz15_0 := blk_frozen BK341.out 0; have hfz15_1 := blk_frozen BK341.out 1; have hfz15_2 := blk_frozen BK341.out 2; have hfz15_3 := blk_frozen BK341.out 3; have hcz16_0 : w13.cell? ⟨gb334, 0, none⟩ = some (.int .i64 a1_0) := (blk_cell BK334.out 0).trans rfl; have hcz16_1 : w13.cell? ⟨gb334, 1, none⟩ = some (.int .i64 a1_1) := (blk_cell BK334.out 1).trans rfl; have hcz16_2 : w13.cell? ⟨gb334, 2, none⟩ = some (.int .i64 a1_2) := (blk_cell BK334.out 2).trans rfl; have hfz16_0 := blk_frozen BK334.out 0; have hfz16_1 := blk_frozen BK334.out 1; have hfz16_2 := blk_frozen BK334.out 2) | (go_at_call 9; (with_reducible refine (extent_Of.calls k _ _ l0 a1_1 a1_0 a1_2 a2 t342 t343 t344 t345 t346 _ ?side1 ?side2 A7.out).mono ?_); (case side1 => exact Kd.C_below HR0.out (by repeat (first | (with_reducible first | exact HB.out | apply below_alloc | apply pw_below_drewN | apply below_drew1 | refine below_set ?_ GE334.out | refine below_set ?_ GE341.out) | exact HB.out))); (case side2 => exact HC0.out); rintro e w17 ⟨rfl, hb⟩; have n0_ := Aside0.mk (blk_below (g := gb334) (o := .cells #[.int .i64 a1_0, .int .i64 a1_1, .int .i64 a1_2] 24 (0, 0)) (by (with_reducible repeat (first | refine blk_drewN ?_ _ | refine blk_drew ?_ | refine blk_alloc ?_ _)); refine blk_far ?_ NB334_341.out _; (with_reducible repeat (first | refine blk_drewN ?_ _ | refine blk_drew ?_ | refine blk_alloc ?_ _)); refine blk_far ?_ NB334_341.out _; (with_reducible repeat (first | refine blk_drewN ?_ _ | refine blk_drew ?_ | refine blk_alloc ?_ _)); refine blk_far ?_ NB334_341.out _; (with_reducible repeat (first | refine blk_drewN ?_ _ | refine blk_drew ?_ | refine blk_alloc ?_ _)); refine blk_far ?_ NB334_341.out _; (with_reducible repeat (first | refine blk_drewN ?_ _ | refine blk_drew ?_ | refine blk_alloc ?_ _)); exact BK334.out) hb); have n1_ := Aside0.mk (blk_below (g := gb341) (o := .cells #[.int .i64 t336, .int .i64 t337, .bool t338, .bool t339] 27 (0, 0)) (by (with_reducible repeat (first | refine blk_drewN ?_ _ | refine blk_drew ?_ | refine blk_alloc ?_ _)); refine blk_put (cs := #[.int .i64 t336, .int .i64 t337, .bool t338, .bool false]) ?_ 3 _ rfl; (with_reducible repeat (first | refine blk_drewN ?_ _ | refine blk_drew ?_ | refine blk_alloc ?_ _)); refine blk_put (cs := #[.int .i64 t336, .int .i64 t337, .bool false, .bool false]) ?_ 2 _ rfl; (with_reducible repeat (first | refine blk_drewN ?_ _ | refine blk_drew ?_ | refine blk_alloc ?_ _)); refine blk_put (cs := #[.int .i64 t336, .int .i64 0, .bool false, .bool false]) ?_ 1 _ rfl; (with_reducible repeat (first | refine blk_drewN ?_ _ | refine blk_drew ?_ | refine blk_alloc ?_ _)); refine blk_put (cs := #[.int .i64 0, .int .i64 0, .bool false, .bool false]) ?_ 0 _ rfl; (with_reducible repeat (first | refine blk_drewN ?_ _ | refine blk_drew ?_ | refine blk_alloc ?_ _)); exact BK341.out) hb); have n2_ := Aside0.mk (below_step (by repeat (first | (with_reducible first | exact HB.out | apply below_alloc | apply pw_below_drewN | apply below_drew1 | refine below_set ?_ GE334.out | refine below_set ?_ GE341.out) | exact HB.out)) hb); clear BK334; clear BK341; clear HB; have BK334 := n0_; have BK341 := n1_; have HB := n2_; clear n0_ n1_ n2_; (try clear hb); (try clear hb2); (try clear hk); (try clear hi)) | ((with_reducible refine gate_dst (N := 9) rfl ?_); (try (refine gate_guard (by rfl) ?_; dsimp only)); refine box_event ?hg (N := 9) ?hd (cs := #[.int .i64 0, .int .i64 0, .bool false, .bool false]) (t := 27) ?hr ?_; (case hd => rfl); (case hg => rfl); (case hr => first | (go_simp; done) | (go_simp; rfl)); intro gb347 hg w18 hbox hb; have n0_ := Aside0.mk (blk_below (g := gb334) (o := .cells #[.int .i64 a1_0, .int .i64 a1_1, .int .i64 a1_2] 24 (0, 0)) (by (with_reducible repeat (first | refine blk_drewN ?_ _ | refine blk_drew ?_ | refine blk_alloc ?_ _)); exact BK334.out) hb); have n1_ := Aside0.mk (blk_below (g := gb341) (o := .cells #[.int .i64 t336, .int .i64 t337, .bool t338, .bool t339] 27 (0, 0)) (by (with_reducible repeat (first | refine blk_drewN ?_ _ | refine blk_drew ?_ | refine blk_alloc ?_ _)); exact BK341.out) hb); have n2_ := Aside0.mk (below_step (by repeat (first | (with_reducible first | exact HB.out | apply below_alloc | apply pw_below_drewN | apply below_drew1 | refine below_set ?_ GE334.out | refine below_set ?_ GE341.out) | exact HB.out)) hb); have n3_ := Aside0.mk (hbox); have n4_ := Aside0.mk ((by rw [hg]; exact (below_size (by repeat (first | (with_reducible first | exact HB.out | apply below_alloc | apply pw_below_drewN | apply below_drew1 | refine below_set ?_ GE334.out | refine below_set ?_ GE341.out) | exact HB.out))) : w.heap.size ≤ gb347)); have n5_ := Aside0.mk ((by rw [hg]; exact (below_size (by repeat (first | (with_reducible first | exact HB.out | apply below_alloc | apply pw_below_drewN | apply below_drew1 | refine below_set ?_ GE334.out | refine below_set ?_ GE341.out) | exact HB.out))) : w.heap.size ≤ gb347)); have n6_ := Aside0.mk ((by rw [hg]; exact Nat.ne_of_lt (blk_lt (g := gb334) (o := .cells #[.int .i64 a1_0, .int .i64 a1_1, .int .i64 a1_2] 24 (0, 0)) (by (with_reducible repeat (first | refine blk_drewN ?_ _ | refine blk_drew ?_ | refine blk_alloc ?_ _)); exact BK334.out)) : gb334 ≠ gb347)); have n7_ := Aside0.mk ((by rw [hg]; exact Nat.ne_of_gt (blk_lt (g := gb334) (o := .cells #[.int .i64 a1_0, .int .i64 a1_1, .int .i64 a1_2] 24 (0, 0)) (by (with_reducible repeat (first | refine blk_drewN ?_ _ | refine blk_drew ?_ | refine blk_alloc ?_ _)); exact BK334.out)) : gb347 ≠ gb334)); have n8_ := Aside0.mk ((by rw [hg]; exact Nat.ne_of_lt (blk_lt (g := gb341) (o := .cells #[.int .i64 t336, .int .i64 t337, .bool t338, .bool t339] 27 (0, 0)) (by (with_reducible repeat (first | refine blk_drewN ?_ _ | refine blk_drew ?_ | refine blk_alloc ?_ _)); exact BK341.out)) : gb341 ≠ gb347)); have n9_ := Aside0.mk ((by rw [hg]; exact Nat.ne_of_gt (blk_lt (g := gb341) (o := .cells #[.int .i64 t336, .int .i64 t337, .bool t338, .bool t339] 27 (0, 0)) (by (with_reducible repeat (first | refine blk_drewN ?_ _ | refine blk_drew ?_ | refine blk_alloc ?_ _)); exact BK341.out)) : gb347 ≠ gb341)); clear BK334; clear BK341; clear HB; have BK334 := n0_; have BK341 := n1_; have HB := n2_; have BK347 := n3_; have GW347 := n4_; have GE347 := n5_; have NB334_347 := n6_; have NB347_334 := n7_; have NB341_347 := n8_; have NB347_341 := n9_; clear n0_ n1_ n2_ n3_ n4_ n5_ n6_ n7_ n8_ n9_; clear hb hbox hg; have hnb19 := NB347_334.out; have hnc19 := NB334_347.out; have hnb20 := NB347_341.out; have hnc20 := NB341_347.out; have hcz21_0 : w18.cell? ⟨gb347, 0, none⟩ = some (.int .i64 0) := (blk_cell BK347.out 0).trans rfl; have hcz21_1 : w18.cell? ⟨gb347, 1, none⟩ = some (.int .i64 0) := (blk_cell BK347.out 1).trans rfl; have hcz21_2 : w18.cell? ⟨gb347, 2, none⟩ = some (.bool false) := (blk_cell BK347.out 2).trans rfl; have hcz21_3 : w18.cell? ⟨gb347, 3, none⟩ = some (.bool false) := (blk_cell BK347.out 3).trans rfl; have hfz21_0 := blk_frozen BK347.out 0; have hfz21_1 := blk_frozen BK347.out 1; have hfz21_2 := blk_frozen BK347.out 2; have hfz21_3 := blk_frozen BK347.out 3))
    repeat (go_quiet (first | ((with_reducible refine gate_dst (N := 4) rfl ?_); (try (refine gate_guard (by rfl) ?_; dsimp only)); refine box_event ?hg (N := 4) ?hd (cs := #[.int .i64 a1_0, .int .i64 a1_1, .int .i64 a1_2]) (t := 24) ?hr ?_; (case hd => rfl); (case hg => rfl); (case hr => first | (go_simp; done) | (go_simp; rfl)); intro gb334 hg w9 hbox hb; have n0_ := Aside0.mk (below_step (by repeat (first | (with_reducible first | exact HB.out | apply below_alloc | apply pw_below_drewN | apply below_drew1) | exact HB.out)) hb); have n1_ := Aside0.mk (hbox); have n2_ := Aside0.mk ((by rw [hg]; exact (below_size (by repeat (first | (with_reducible first | exact HB.out | apply below_alloc | apply pw_below_drewN | apply below_drew1) | exact HB.out))) : w.heap.size ≤ gb334)); have n3_ := Aside0.mk ((by rw [hg]; exact (below_size (by repeat (first | (with_reducible first | exact HB.out | apply below_alloc | apply pw_below_drewN | apply below_drew1) | exact HB.out))) : w.heap.size ≤ gb334)); clear HB; have HB := n0_; have BK334 := n1_; have GW334 := n2_; have GE334 := n3_; clear n0_ n1_ n2_ n3_; clear hb hbox hg) | (go_at_call 7; (with_reducible refine (quoinlaw14_alive.calls k  true _ A4.out).mono ?_); rintro e w10 ⟨rfl, hb⟩; have n0_ := Aside0.mk (blk_below (g := gb334) (o := .cells #[.int .i64 a1_0, .int .i64 a1_1, .int .i64 a1_2] 24 (0, 0)) (by (with_reducible repeat (first | refine blk_drewN ?_ _ | refine blk_drew ?_ | refine blk_alloc ?_ _)); exact BK334.out) hb); have n1_ := Aside0.mk (below_step (by repeat (first | (with_reducible first | exact HB.out | apply below_alloc | apply pw_below_drewN | apply below_drew1 | refine below_set ?_ GE334.out) | exact HB.out)) hb); clear BK334; clear HB; have BK334 := n0_; have HB := n1_; clear n0_ n1_; (try clear hb); (try clear hb2); (try clear hk); (try clear hi); have hcz11_0 : w10.cell? ⟨gb334, 0, none⟩ = some (.int .i64 a1_0) := (blk_cell BK334.out 0).trans rfl; have hcz11_1 : w10.cell? ⟨gb334, 1, none⟩ = some (.int .i64 a1_1) := (blk_cell BK334.out 1).trans rfl; have hcz11_2 : w10.cell? ⟨gb334, 2, none⟩ = some (.int .i64 a1_2) := (blk_cell BK334.out 2).trans rfl; have hfz11_0 := blk_frozen BK334.out 0; have hfz11_1 := blk_frozen BK334.out 1; have hfz11_2 := blk_frozen BK334.out 2) | (go_at_call 9; (with_reducible refine (extent_Of.calls k _ _ l0 a1_0 a1_1 a1_2 a2 t336 t337 t338 t339 t340 _ ?side1 ?side2 A6.out).mono ?_); (case side1 => repeat (first | exact (Kd.C_below HR0.out HB.out) | (with_reducible refine Kd.C_alloc ?_ _) | (with_reducible refine Kd.C_drewN ?_ _) | (with_reducible refine Kd.C_drew ?_))); (case side2 => exact HC0.out); rintro e w12 ⟨rfl, hb⟩; have n0_ := Aside0.mk (blk_below (g := gb334) (o := .cells #[.int .i64 a1_0, .int .i64 a1_1, .int .i64 a1_2] 24 (0, 0)) (by (with_reducible repeat (first | refine blk_drewN ?_ _ | refine blk_drew ?_ | refine blk_alloc ?_ _)); exact BK334.out) hb); have n1_ := Aside0.mk (below_step (by repeat (first | (with_reducible first | exact HB.out | apply below_alloc | apply pw_below_drewN | apply below_drew1 | refine below_set ?_ GE334.out) | exact HB.out)) hb); clear BK334; clear HB; have BK334 := n0_; have HB := n1_; clear n0_ n1_; (try clear hb); (try clear hb2); (try clear hk); (try clear hi)) | ((with_reducible refine gate_dst (N := 7) rfl ?_); (try (refine gate_guard (by rfl) ?_; dsimp only)); refine box_event ?hg (N := 7) ?hd (cs := #[.int .i64 0, .int .i64 0, .bool false, .bool false]) (t := 27) ?hr ?_; (case hd => rfl); (case hg => rfl); (case hr => first | (go_simp; done) | (go_simp; rfl)); intro gb341 hg w13 hbox hb; have n0_ := Aside0.mk (blk_below (g := gb334) (o := .cells #[.int .i64 a1_0, .int .i64 a1_1, .int .i64 a1_2] 24 (0, 0)) (by (with_reducible repeat (first | refine blk_drewN ?_ _ | refine blk_drew ?_ | refine blk_alloc ?_ _)); exact BK334.out) hb); have n1_ := Aside0.mk (below_step (by repeat (first | (with_reducible first | exact HB.out | apply below_alloc | apply pw_below_drewN | apply below_drew1 | refine below_set ?_ GE334.out) | exact HB.out)) hb); have n2_ := Aside0.mk (hbox); have n3_ := Aside0.mk ((by rw [hg]; exact (below_size (by repeat (first | (with_reducible first | exact HB.out | apply below_alloc | apply pw_below_drewN | apply below_drew1 | refine below_set ?_ GE334.out) | exact HB.out))) : w.heap.size ≤ gb341)); have n4_ := Aside0.mk ((by rw [hg]; exact (below_size (by repeat (first | (with_reducible first | exact HB.out | apply below_alloc | apply pw_below_drewN | apply below_drew1 | refine below_set ?_ GE334.out) | exact HB.out))) : w.heap.size ≤ gb341)); have n5_ := Aside0.mk ((by rw [hg]; exact Nat.ne_of_lt (blk_lt (g := gb334) (o := .cells #[.int .i64 a1_0, .int .i64 a1_1, .int .i64 a1_2] 24 (0, 0)) (by (with_reducible repeat (first | refine blk_drewN ?_ _ | refine blk_drew ?_ | refine blk_alloc ?_ _)); exact BK334.out)) : gb334 ≠ gb341)); have n6_ := Aside0.mk ((by rw [hg]; exact Nat.ne_of_gt (blk_lt (g := gb334) (o := .cells #[.int .i64 a1_0, .int .i64 a1_1, .int .i64 a1_2] 24 (0, 0)) (by (with_reducible repeat (first | refine blk_drewN ?_ _ | refine blk_drew ?_ | refine blk_alloc ?_ _)); exact BK334.out)) : gb341 ≠ gb334)); clear BK334; clear HB; have BK334 := n0_; have HB := n1_; have BK341 := n2_; have GW341 := n3_; have GE341 := n4_; have NB334_341 := n5_; have NB341_334 := n6_; clear n0_ n1_ n2_ n3_ n4_ n5_ n6_; clear hb hbox hg; have hnb14 := NB341_334.out; have hnc14 := NB334_341.out; have hcz15_0 : w13.cell? ⟨gb341, 0, none⟩ = some (.int .i64 0) := (blk_cell BK341.out 0).trans rfl; have hcz15_1 : w13.cell? ⟨gb341, 1, none⟩ = some (.int .i64 0) := (blk_cell BK341.out 1).trans rfl; have hcz15_2 : w13.cell? ⟨gb341, 2, none⟩ = some (.bool false) := (blk_cell BK341.out 2).trans rfl; have hcz15_3 : w13.cell? ⟨gb341, 3, none⟩ = some (.bool false) := (blk_cell BK341.out 3).trans rfl; have hfz15_0 := blk_frozen BK341.out 0; have hfz15_1 := blk_frozen BK341.out 1; have hfz15_2 := blk_frozen BK341.out 2; have hfz15_3 := blk_frozen BK341.out 3; have hcz16_0 : w13.cell? ⟨gb334, 0, none⟩ = some (.int .i64 a1_0) := (blk_cell BK334.out 0).trans rfl; have hcz16_1 : w13.cell? ⟨gb334, 1, none⟩ = some (.int .i64 a1_1) := (blk_cell BK334.out 1).trans rfl; have hcz16_2 : w13.cell? ⟨gb334, 2, none⟩ = some (.int .i64 a1_2) := (blk_cell BK334.out 2).trans rfl; have hfz16_0 := blk_frozen BK334.out 0; have hfz16_1 := blk_frozen BK334.out 1; have hfz16_2 := blk_frozen BK334.out 2) | (go_at_call 9; (with_reducible refine (extent_Of.calls k _ _ l0 a1_1 a1_0 a1_2 a2 t342 t343 t344 t345 t346 _ ?side1 ?side2 A7.out).mono ?_); (case side1 => exact Kd.C_below HR0.out (by repeat (first | (with_reducible first | exact HB.out | apply below_alloc | apply pw_below_drewN | apply below_drew1 | refine below_set ?_ GE334.out | refine below_set ?_ GE341.out) | exact HB.out))); (case side2 => exact HC0.out); rintro e w17 ⟨rfl, hb⟩; have n0_ := Aside0.mk (blk_below (g := gb334) (o := .cells #[.int .i64 a1_0, .int .i64 a1_1, .int .i64 a1_2] 24 (0, 0)) (by (with_reducible repeat (first | refine blk_drewN ?_ _ | refine blk_drew ?_ | refine blk_alloc ?_ _)); refine blk_far ?_ NB334_341.out _; (with_reducible repeat (first | refine blk_drewN ?_ _ | refine blk_drew ?_ | refine blk_alloc ?_ _)); refine blk_far ?_ NB334_341.out _; (with_reducible repeat (first | refine blk_drewN ?_ _ | refine blk_drew ?_ | refine blk_alloc ?_ _)); refine blk_far ?_ NB334_341.out _; (with_reducible repeat (first | refine blk_drewN ?_ _ | refine blk_drew ?_ | refine blk_alloc ?_ _)); refine blk_far ?_ NB334_341.out _; (with_reducible repeat (first | refine blk_drewN ?_ _ | refine blk_drew ?_ | refine blk_alloc ?_ _)); exact BK334.out) hb); have n1_ := Aside0.mk (blk_below (g := gb341) (o := .cells #[.int .i64 t336, .int .i64 t337, .bool t338, .bool t339] 27 (0, 0)) (by (with_reducible repeat (first | refine blk_drewN ?_ _ | refine blk_drew ?_ | refine blk_alloc ?_ _)); refine blk_put (cs := #[.int .i64 t336, .int .i64 t337, .bool t338, .bool false]) ?_ 3 _ rfl; (with_reducible repeat (first | refine blk_drewN ?_ _ | refine blk_drew ?_ | refine blk_alloc ?_ _)); refine blk_put (cs := #[.int .i64 t336, .int .i64 t337, .bool false, .bool false]) ?_ 2 _ rfl; (with_reducible repeat (first | refine blk_drewN ?_ _ | refine blk_drew ?_ | refine blk_alloc ?_ _)); refine blk_put (cs := #[.int .i64 t336, .int .i64 0, .bool false, .bool false]) ?_ 1 _ rfl; (with_reducible repeat (first | refine blk_drewN ?_ _ | refine blk_drew ?_ | refine blk_alloc ?_ _)); refine blk_put (cs := #[.int .i64 0, .int .i64 0, .bool false, .bool false]) ?_ 0 _ rfl; (with_reducible repeat (first | refine blk_drewN ?_ _ | refine blk_drew ?_ | refine blk_alloc ?_ _)); exact BK341.out) hb); have n2_ := Aside0.mk (below_step (by repeat (first | (with_reducible first | exact HB.out | apply below_alloc | apply pw_below_drewN | apply below_drew1 | refine below_set ?_ GE334.out | refine below_set ?_ GE341.out) | exact HB.out)) hb); clear BK334; clear BK341; clear HB; have BK334 := n0_; have BK341 := n1_; have HB := n2_; clear n0_ n1_ n2_; (try clear hb); (try clear hb2); (try clear hk); (try clear hi)) | ((with_reducible refine gate_dst (N := 9) rfl ?_); (try (refine gate_guard (by rfl) ?_; dsimp only)); refine box_event ?hg (N := 9) ?hd (cs := #[.int .i64 0, .int .i64 0, .bool false, .bool false]) (t := 27) ?hr ?_; (case hd => rfl); (case hg => rfl); (case hr => first | (go_simp; done) | (go_simp; rfl)); intro gb347 hg w18 hbox hb; have n0_ := Aside0.mk (blk_below (g := gb334) (o := .cells #[.int .i64 a1_0, .int .i64 a1_1, .int .i64 a1_2] 24 (0, 0)) (by (with_reducible repeat (first | refine blk_drewN ?_ _ | refine blk_drew ?_ | refine blk_alloc ?_ _)); exact BK334.out) hb); have n1_ := Aside0.mk (blk_below (g := gb341) (o := .cells #[.int .i64 t336, .int .i64 t337, .bool t338, .bool t339] 27 (0, 0)) (by (with_reducible repeat (first | refine blk_drewN ?_ _ | refine blk_drew ?_ | refine blk_alloc ?_ _)); exact BK341.out) hb); have n2_ := Aside0.mk (below_step (by repeat (first | (with_reducible first | exact HB.out | apply below_alloc | apply pw_below_drewN | apply below_drew1 | refine below_set ?_ GE334.out | refine below_set ?_ GE341.out) | exact HB.out)) hb); have n3_ := Aside0.mk (hbox); have n4_ := Aside0.mk ((by rw [hg]; exact (below_size (by repeat (first | (with_reducible first | exact HB.out | apply below_alloc | apply pw_below_drewN | apply below_drew1 | refine below_set ?_ GE334.out | refine below_set ?_ GE341.out) | exact HB.out))) : w.heap.size ≤ gb347)); have n5_ := Aside0.mk ((by rw [hg]; exact (below_size (by repeat (first | (with_reducible first | exact HB.out | apply below_alloc | apply pw_below_drewN | apply below_drew1 | refine below_set ?_ GE334.out | refine below_set ?_ GE341.out) | exact HB.out))) : w.heap.size ≤ gb347)); have n6_ := Aside0.mk ((by rw [hg]; exact Nat.ne_of_lt (blk_lt (g := gb334) (o := .cells #[.int .i64 a1_0, .int .i64 a1_1, .int .i64 a1_2] 24 (0, 0)) (by (with_reducible repeat (first | refine blk_drewN ?_ _ | refine blk_drew ?_ | refine blk_alloc ?_ _)); exact BK334.out)) : gb334 ≠ gb347)); have n7_ := Aside0.mk ((by rw [hg]; exact Nat.ne_of_gt (blk_lt (g := gb334) (o := .cells #[.int .i64 a1_0, .int .i64 a1_1, .int .i64 a1_2] 24 (0, 0)) (by (with_reducible repeat (first | refine blk_drewN ?_ _ | refine blk_drew ?_ | refine blk_alloc ?_ _)); exact BK334.out)) : gb347 ≠ gb334)); have n8_ := Aside0.mk ((by rw [hg]; exact Nat.ne_of_lt (blk_lt (g := gb341) (o := .cells #[.int .i64 t336, .int .i64 t337, .bool t338, .bool t339] 27 (0, 0)) (by (with_reducible repeat (first | refine blk_drewN ?_ _ | refine blk_drew ?_ | refine blk_alloc ?_ _)); exact BK341.out)) : gb341 ≠ gb347)); have n9_ := Aside0.mk ((by rw [hg]; exact Nat.ne_of_gt (blk_lt (g := gb341) (o := .cells #[.int .i64 t336, .int .i64 t337, .bool t338, .bool t339] 27 (0, 0)) (by (with_reducible repeat (first | refine blk_drewN ?_ _ | refine blk_drew ?_ | refine blk_alloc ?_ _)); exact BK341.out)) : gb347 ≠ gb341)); clear BK334; clear BK341; clear HB; have BK334 := n0_; have BK341 := n1_; have HB := n2_; have BK347 := n3_; have GW347 := n4_; have GE347 := n5_; have NB334_347 := n6_; have NB347_334 := n7_; have NB341_347 := n8_; have NB347_341 := n9_; clear n0_ n1_ n2_ n3_ n4_ n5_ n6_ n7_ n8_ n9_; clear hb hbox hg; have hnb19 := NB347_334.out; have hnc19 := NB334_347.out; have hnb20 := NB347_341.out; have hnc20 := NB341_347.out; have hcz21_0 : w18.cell? ⟨gb347, 0, none⟩ = some (.int .i64 0) := (blk_cell BK347.out 0).trans rfl; have hcz21_1 : w18.cell? ⟨gb347, 1, none⟩ = some (.int .i64 0) := (blk_cell BK347.out 1).trans rfl; have hcz21_2 : w18.cell? ⟨gb347, 2, none⟩ = some (.bool false) := (blk_cell BK347.out 2).trans rfl; have hcz21_3 : w18.cell? ⟨gb347, 3, none⟩ = some (.bool false) := (blk_cell BK347.out 3).trans rfl; have hfz21_0 := blk_frozen BK347.out 0; have hfz21_1 := blk_frozen BK347.out 1; have hfz21_2 := blk_frozen BK347.out 2; have hfz21_3 := blk_frozen BK347.out 3)); go_upto_region 5 with (first | ((with_reducible refine gate_dst (N := 4) rfl ?_); (try (refine gate_guard (by rfl) ?_; dsimp only)); refine box_event ?hg (N := 4) ?hd (cs := #[.int .i64 a1_0, .int .i64 a1_1, .int .i64 a1_2]) (t := 24) ?hr ?_; (case hd => rfl); (case hg => rfl); (case hr => first | (go_simp; done) | (go_simp; rfl)); intro gb334 hg w9 hbox hb; have n0_ := Aside0.mk (below_step (by repeat (first | (with_reducible first | exact HB.out | apply below_alloc | apply pw_below_drewN | apply below_drew1) | exact HB.out)) hb); have n1_ := Aside0.mk (hbox); have n2_ := Aside0.mk ((by rw [hg]; exact (below_size (by repeat (first | (with_reducible first | exact HB.out | apply below_alloc | apply pw_below_drewN | apply below_drew1) | exact HB.out))) : w.heap.size ≤ gb334)); have n3_ := Aside0.mk ((by rw [hg]; exact (below_size (by repeat (first | (with_reducible first | exact HB.out | apply below_alloc | apply pw_below_drewN | apply below_drew1) | exact HB.out))) : w.heap.size ≤ gb334)); clear HB; have HB := n0_; have BK334 := n1_; have GW334 := n2_; have GE334 := n3_; clear n0_ n1_ n2_ n3_; clear hb hbox hg) | (go_at_call 7; (with_reducible refine (quoinlaw14_alive.calls k  true _ A4.out).mono ?_); rintro e w10 ⟨rfl, hb⟩; have n0_ := Aside0.mk (blk_below (g := gb334) (o := .cells #[.int .i64 a1_0, .int .i64 a1_1, .int .i64 a1_2] 24 (0, 0)) (by (with_reducible repeat (first | refine blk_drewN ?_ _ | refine blk_drew ?_ | refine blk_alloc ?_ _)); exact BK334.out) hb); have n1_ := Aside0.mk (below_step (by repeat (first | (with_reducible first | exact HB.out | apply below_alloc | apply pw_below_drewN | apply below_drew1 | refine below_set ?_ GE334.out) | exact HB.out)) hb); clear BK334; clear HB; have BK334 := n0_; have HB := n1_; clear n0_ n1_; (try clear hb); (try clear hb2); (try clear hk); (try clear hi); have hcz11_0 : w10.cell? ⟨gb334, 0, none⟩ = some (.int .i64 a1_0) := (blk_cell BK334.out 0).trans rfl; have hcz11_1 : w10.cell? ⟨gb334, 1, none⟩ = some (.int .i64 a1_1) := (blk_cell BK334.out 1).trans rfl; have hcz11_2 : w10.cell? ⟨gb334, 2, none⟩ = some (.int .i64 a1_2) := (blk_cell BK334.out 2).trans rfl; have hfz11_0 := blk_frozen BK334.out 0; have hfz11_1 := blk_frozen BK334.out 1; have hfz11_2 := blk_frozen BK334.out 2) | (go_at_call 9; (with_reducible refine (extent_Of.calls k _ _ l0 a1_0 a1_1 a1_2 a2 t336 t337 t338 t339 t340 _ ?side1 ?side2 A6.out).mono ?_); (case side1 => repeat (first | exact (Kd.C_below HR0.out HB.out) | (with_reducible refine Kd.C_alloc ?_ _) | (with_reducible refine Kd.C_drewN ?_ _) | (with_reducible refine Kd.C_drew ?_))); (case side2 => exact HC0.out); rintro e w12 ⟨rfl, hb⟩; have n0_ := Aside0.mk (blk_below (g := gb334) (o := .cells #[.int .i64 a1_0, .int .i64 a1_1, .int .i64 a1_2] 24 (0, 0)) (by (with_reducible repeat (first | refine blk_drewN ?_ _ | refine blk_drew ?_ | refine blk_alloc ?_ _)); exact BK334.out) hb); have n1_ := Aside0.mk (below_step (by repeat (first | (with_reducible first | exact HB.out | apply below_alloc | apply pw_below_drewN | apply below_drew1 | refine below_set ?_ GE334.out) | exact HB.out)) hb); clear BK334; clear HB; have BK334 := n0_; have HB := n1_; clear n0_ n1_; (try clear hb); (try clear hb2); (try clear hk); (try clear hi)) | ((with_reducible refine gate_dst (N := 7) rfl ?_); (try (refine gate_guard (by rfl) ?_; dsimp only)); refine box_event ?hg (N := 7) ?hd (cs := #[.int .i64 0, .int .i64 0, .bool false, .bool false]) (t := 27) ?hr ?_; (case hd => rfl); (case hg => rfl); (case hr => first | (go_simp; done) | (go_simp; rfl)); intro gb341 hg w13 hbox hb; have n0_ := Aside0.mk (blk_below (g := gb334) (o := .cells #[.int .i64 a1_0, .int .i64 a1_1, .int .i64 a1_2] 24 (0, 0)) (by (with_reducible repeat (first | refine blk_drewN ?_ _ | refine blk_drew ?_ | refine blk_alloc ?_ _)); exact BK334.out) hb); have n1_ := Aside0.mk (below_step (by repeat (first | (with_reducible first | exact HB.out | apply below_alloc | apply pw_below_drewN | apply below_drew1 | refine below_set ?_ GE334.out) | exact HB.out)) hb); have n2_ := Aside0.mk (hbox); have n3_ := Aside0.mk ((by rw [hg]; exact (below_size (by repeat (first | (with_reducible first | exact HB.out | apply below_alloc | apply pw_below_drewN | apply below_drew1 | refine below_set ?_ GE334.out) | exact HB.out))) : w.heap.size ≤ gb341)); have n4_ := Aside0.mk ((by rw [hg]; exact (below_size (by repeat (first | (with_reducible first | exact HB.out | apply below_alloc | apply pw_below_drewN | apply below_drew1 | refine below_set ?_ GE334.out) | exact HB.out))) : w.heap.size ≤ gb341)); have n5_ := Aside0.mk ((by rw [hg]; exact Nat.ne_of_lt (blk_lt (g := gb334) (o := .cells #[.int .i64 a1_0, .int .i64 a1_1, .int .i64 a1_2] 24 (0, 0)) (by (with_reducible repeat (first | refine blk_drewN ?_ _ | refine blk_drew ?_ | refine blk_alloc ?_ _)); exact BK334.out)) : gb334 ≠ gb341)); have n6_ := Aside0.mk ((by rw [hg]; exact Nat.ne_of_gt (blk_lt (g := gb334) (o := .cells #[.int .i64 a1_0, .int .i64 a1_1, .int .i64 a1_2] 24 (0, 0)) (by (with_reducible repeat (first | refine blk_drewN ?_ _ | refine blk_drew ?_ | refine blk_alloc ?_ _)); exact BK334.out)) : gb341 ≠ gb334)); clear BK334; clear HB; have BK334 := n0_; have HB := n1_; have BK341 := n2_; have GW341 := n3_; have GE341 := n4_; have NB334_341 := n5_; have NB341_334 := n6_; clear n0_ n1_ n2_ n3_ n4_ n5_ n6_; clear hb hbox hg; have hnb14 := NB341_334.out; have hnc14 := NB334_341.out; have hcz15_0 : w13.cell? ⟨gb341, 0, none⟩ = some (.int .i64 0) := (blk_cell BK341.out 0).trans rfl; have hcz15_1 : w13.cell? ⟨gb341, 1, none⟩ = some (.int .i64 0) := (blk_cell BK341.out 1).trans rfl; have hcz15_2 : w13.cell? ⟨gb341, 2, none⟩ = some (.bool false) := (blk_cell BK341.out 2).trans rfl; have hcz15_3 : w13.cell? ⟨gb341, 3, none⟩ = some (.bool false) := (blk_cell BK341.out 3).trans rfl; have hfz15_0 := blk_frozen BK341.out 0; have hfz15_1 := blk_frozen BK341.out 1; have hfz15_2 := blk_frozen BK341.out 2; have hfz15_3 := blk_frozen BK341.out 3; have hcz16_0 : w13.cell? ⟨gb334, 0, none⟩ = some (.int .i64 a1_0) := (blk_cell BK334.out 0).trans rfl; have hcz16_1 : w13.cell? ⟨gb334, 1, none⟩ = some (.int .i64 a1_1) := (blk_cell BK334.out 1).trans rfl; have hcz16_2 : w13.cell? ⟨gb334, 2, none⟩ = some (.int .i64 a1_2) := (blk_cell BK334.out 2).trans rfl; have hfz16_0 := blk_frozen BK334.out 0; have hfz16_1 := blk_frozen BK334.out 1; have hfz16_2 := blk_frozen BK334.out 2) | (go_at_call 9; (with_reducible refine (extent_Of.calls k _ _ l0 a1_1 a1_0 a1_2 a2 t342 t343 t344 t345 t346 _ ?side1 ?side2 A7.out).mono ?_); (case side1 => exact Kd.C_below HR0.out (by repeat (first | (with_reducible first | exact HB.out | apply below_alloc | apply pw_below_drewN | apply below_drew1 | refine below_set ?_ GE334.out | refine below_set ?_ GE341.out) | exact HB.out))); (case side2 => exact HC0.out); rintro e w17 ⟨rfl, hb⟩; have n0_ := Aside0.mk (blk_below (g := gb334) (o := .cells #[.int .i64 a1_0, .int .i64 a1_1, .int .i64 a1_2] 24 (0, 0)) (by (with_reducible repeat (first | refine blk_drewN ?_ _ | refine blk_drew ?_ | refine blk_alloc ?_ _)); refine blk_far ?_ NB334_341.out _; (with_reducible repeat (first | refine blk_drewN ?_ _ | refine blk_drew ?_ | refine blk_alloc ?_ _)); refine blk_far ?_ NB334_341.out _; (with_reducible repeat (first | refine blk_drewN ?_ _ | refine blk_drew ?_ | refine blk_alloc ?_ _)); refine blk_far ?_ NB334_341.out _; (with_reducible repeat (first | refine blk_drewN ?_ _ | refine blk_drew ?_ | refine blk_alloc ?_ _)); refine blk_far ?_ NB334_341.out _; (with_reducible repeat (first | refine blk_drewN ?_ _ | refine blk_drew ?_ | refine blk_alloc ?_ _)); exact BK334.out) hb); have n1_ := Aside0.mk (blk_below (g := gb341) (o := .cells #[.int .i64 t336, .int .i64 t337, .bool t338, .bool t339] 27 (0, 0)) (by (with_reducible repeat (first | refine blk_drewN ?_ _ | refine blk_drew ?_ | refine blk_alloc ?_ _)); refine blk_put (cs := #[.int .i64 t336, .int .i64 t337, .bool t338, .bool false]) ?_ 3 _ rfl; (with_reducible repeat (first | refine blk_drewN ?_ _ | refine blk_drew ?_ | refine blk_alloc ?_ _)); refine blk_put (cs := #[.int .i64 t336, .int .i64 t337, .bool false, .bool false]) ?_ 2 _ rfl; (with_reducible repeat (first | refine blk_drewN ?_ _ | refine blk_drew ?_ | refine blk_alloc ?_ _)); refine blk_put (cs := #[.int .i64 t336, .int .i64 0, .bool false, .bool false]) ?_ 1 _ rfl; (with_reducible repeat (first | refine blk_drewN ?_ _ | refine blk_drew ?_ | refine blk_alloc ?_ _)); refine blk_put (cs := #[.int .i64 0, .int .i64 0, .bool false, .bool false]) ?_ 0 _ rfl; (with_reducible repeat (first | refine blk_drewN ?_ _ | refine blk_drew ?_ | refine blk_alloc ?_ _)); exact BK341.out) hb); have n2_ := Aside0.mk (below_step (by repeat (first | (with_reducible first | exact HB.out | apply below_alloc | apply pw_below_drewN | apply below_drew1 | refine below_set ?_ GE334.out | refine below_set ?_ GE341.out) | exact HB.out)) hb); clear BK334; clear BK341; clear HB; have BK334 := n0_; have BK341 := n1_; have HB := n2_; clear n0_ n1_ n2_; (try clear hb); (try clear hb2); (try clear hk); (try clear hi)) | ((with_reducible refine gate_dst (N := 9) rfl ?_); (try (refine gate_guard (by rfl) ?_; dsimp only)); refine box_event ?hg (N := 9) ?hd (cs := #[.int .i64 0, .int .i64 0, .bool false, .bool false]) (t := 27) ?hr ?_; (case hd => rfl); (case hg => rfl); (case hr => first | (go_simp; done) | (go_simp; rfl)); intro gb347 hg w18 hbox hb; have n0_ := Aside0.mk (blk_below (g := gb334) (o := .cells #[.int .i64 a1_0, .int .i64 a1_1, .int .i64 a1_2] 24 (0, 0)) (by (with_reducible repeat (first | refine blk_drewN ?_ _ | refine blk_drew ?_ | refine blk_alloc ?_ _)); exact BK334.out) hb); have n1_ := Aside0.mk (blk_below (g := gb341) (o := .cells #[.int .i64 t336, .int .i64 t337, .bool t338, .bool t339] 27 (0, 0)) (by (with_reducible repeat (first | refine blk_drewN ?_ _ | refine blk_drew ?_ | refine blk_alloc ?_ _)); exact BK341.out) hb); have n2_ := Aside0.mk (below_step (by repeat (first | (with_reducible first | exact HB.out | apply below_alloc | apply pw_below_drewN | apply below_drew1 | refine below_set ?_ GE334.out | refine below_set ?_ GE341.out) | exact HB.out)) hb); have n3_ := Aside0.mk (hbox); have n4_ := Aside0.mk ((by rw [hg]; exact (below_size (by repeat (first | (with_reducible first | exact HB.out | apply below_alloc | apply pw_below_drewN | apply below_drew1 | refine below_set ?_ GE334.out | refine below_set ?_ GE341.out) | exact HB.out))) : w.heap.size ≤ gb347)); have n5_ := Aside0.mk ((by rw [hg]; exact (below_size (by repeat (first | (with_reducible first | exact HB.out | apply below_alloc | apply pw_below_drewN | apply below_drew1 | refine below_set ?_ GE334.out | refine below_set ?_ GE341.out) | exact HB.out))) : w.heap.size ≤ gb347)); have n6_ := Aside0.mk ((by rw [hg]; exact Nat.ne_of_lt (blk_lt (g := gb334) (o := .cells #[.int .i64 a1_0, .int .i64 a1_1, .int .i64 a1_2] 24 (0, 0)) (by (with_reducible repeat (first | refine blk_drewN ?_ _ | refine blk_drew ?_ | refine blk_alloc ?_ _)); exact BK334.out)) : gb334 ≠ gb347)); have n7_ := Aside0.mk ((by rw [hg]; exact Nat.ne_of_gt (blk_lt (g := gb334) (o := .cells #[.int .i64 a1_0, .int .i64 a1_1, .int .i64 a1_2] 24 (0, 0)) (by (with_reducible repeat (first | refine blk_drewN ?_ _ | refine blk_drew ?_ | refine blk_alloc ?_ _)); exact BK334.out)) : gb347 ≠ gb334)); have n8_ := Aside0.mk ((by rw [hg]; exact Nat.ne_of_lt (blk_lt (g := gb341) (o := .cells #[.int .i64 t336, .int .i64 t337, .bool t338, .bool t339] 27 (0, 0)) (by (with_reducible repeat (first | refine blk_drewN ?_ _ | refine blk_drew ?_ | refine blk_alloc ?_ _)); exact BK341.out)) : gb341 ≠ gb347)); have n9_ := Aside0.mk ((by rw [hg]; exact Nat.ne_of_gt (blk_lt (g := gb341) (o := .cells #[.int .i64 t336, .int .i64 t337, .bool t338, .bool t339] 27 (0, 0)) (by (with_reducible repeat (first | refine blk_drewN ?_ _ | refine blk_drew ?_ | refine blk_alloc ?_ _)); exact BK341.out)) : gb347 ≠ gb341)); clear BK334; clear BK341; clear HB; have BK334 := n0_; have BK341 := n1_; have HB := n2_; have BK347 := n3_; have GW347 := n4_; have GE347 := n5_; have NB334_347 := n6_; have NB347_334 := n7_; have NB341_347 := n8_; have NB347_341 := n9_; clear n0_ n1_ n2_ n3_ n4_ n5_ n6_ n7_ n8_ n9_; clear hb hbox hg; have hnb19 := NB347_334.out; have hnc19 := NB334_347.out; have hnb20 := NB347_341.out; have hnc20 := NB341_347.out; have hcz21_0 : w18.cell? ⟨gb347, 0, none⟩ = some (.int .i64 0) := (blk_cell BK347.out 0).trans rfl; have hcz21_1 : w18.cell? ⟨gb347, 1, none⟩ = some (.int .i64 0) := (blk_cell BK347.out 1).trans rfl; have hcz21_2 : w18.cell? ⟨gb347, 2, none⟩ = some (.bool false) := (blk_cell BK347.out 2).trans rfl; have hcz21_3 : w18.cell? ⟨gb347, 3, none⟩ = some (.bool false) := (blk_cell BK347.out 3).trans rfl; have hfz21_0 := blk_frozen BK347.out 0; have hfz21_1 := blk_frozen BK347.out 1; have hfz21_2 := blk_frozen BK347.out 2; have hfz21_3 := blk_frozen BK347.out 3)))
    (try simp only [Act.put, List.setIfInBounds_toArray, List.set_cons_zero, List.set_cons_succ])
    go_cut [44] (fun v44 wc => ∃ (kq : Nat) (x44_7 : Bool), v44 = .bool x44_7 ∧ Aside0 (quoinlaw14_ExtentEither.j0 kq l0 a2 t340 x44_7 a1_0 a1_1 a1_2 t336 t337 t338 t339 = some r) ∧ Aside0 (kq ≤ k) ∧ Aside0 (wc.heap[gb334]? = some (.cells #[.int .i64 a1_0, .int .i64 a1_1, .int .i64 a1_2] 24 (0, 0))) ∧ Aside0 (wc.heap[gb341]? = some (.cells #[.int .i64 t336, .int .i64 t337, .bool t338, .bool t339] 27 (0, 0))) ∧ Aside0 (wc.heap[gb347]? = some (.cells #[.int .i64 t342, .int .i64 t343, .bool t344, .bool t345] 27 (0, 0))) ∧ Aside0 (Below w.heap.size w wc))
    case first =>
      have H := HC8.out
      clear HC8
      by_cases c22 : (!(t336 == t342) || (!(t337 == t343) || (!(t338 == t344) || (!(t339 == t345))))) = true
      · rw [if_pos c22] at H
        have c22b0 : (!(t336 == t342) || (!(t337 == t343) || (!(t338 == t344) || (!(t339 == t345))))) = true := c22
        clear c22
        (first | rw [c22b0] | (simp only [i64_w, i32_w]; rw [c22b0]) | skip)
        have H' := Aside0.mk H
        clear H
        have hnb23 := NB341_334.out
        have hnc23 := NB334_341.out
        have hnb24 := NB341_347.out
        have hnc24 := NB347_341.out
        have hcz25_0 : w18.cell? ⟨gb341, 0, none⟩ = some (.int .i64 t336) := (blk_cell BK341.out 0).trans rfl
        have hcz25_1 : w18.cell? ⟨gb341, 1, none⟩ = some (.int .i64 t337) := (blk_cell BK341.out 1).trans rfl
        have hcz25_2 : w18.cell? ⟨gb341, 2, none⟩ = some (.bool t338) := (blk_cell BK341.out 2).trans rfl
        have hcz25_3 : w18.cell? ⟨gb341, 3, none⟩ = some (.bool t339) := (blk_cell BK341.out 3).trans rfl
        have hfz25_0 := blk_frozen BK341.out 0
        have hfz25_1 := blk_frozen BK341.out 1
        have hfz25_2 := blk_frozen BK341.out 2
        have hfz25_3 := blk_frozen BK341.out 3
        have hnb26 := NB347_334.out
        have hnc26 := NB334_347.out
        have hcz27_0 : w18.cell? ⟨gb347, 0, none⟩ = some (.int .i64 0) := (blk_cell BK347.out 0).trans rfl
        have hcz27_1 : w18.cell? ⟨gb347, 1, none⟩ = some (.int .i64 0) := (blk_cell BK347.out 1).trans rfl
        have hcz27_2 : w18.cell? ⟨gb347, 2, none⟩ = some (.bool false) := (blk_cell BK347.out 2).trans rfl
        have hcz27_3 : w18.cell? ⟨gb347, 3, none⟩ = some (.bool false) := (blk_cell BK347.out 3).trans rfl
        have hfz27_0 := blk_frozen BK347.out 0
        have hfz27_1 := blk_frozen BK347.out 1
        have hfz27_2 := blk_frozen BK347.out 2
        have hfz27_3 := blk_frozen BK347.out 3
        go_wp2
        repeat (go_quiet (fail); try go_wp2)
        go_meet
        case rel => exact ⟨_, (true), (by first | rfl | (simp; done) | (simp [*]; done)), H', ⟨by first | omega | exact Nat.le_refl _⟩, ⟨by (with_reducible repeat (first | refine blk_drewN ?_ _ | refine blk_drew ?_ | refine blk_alloc ?_ _)); refine blk_far ?_ NB334_347.out _; (with_reducible repeat (first | refine blk_drewN ?_ _ | refine blk_drew ?_ | refine blk_alloc ?_ _)); refine blk_far ?_ NB334_347.out _; (with_reducible repeat (first | refine blk_drewN ?_ _ | refine blk_drew ?_ | refine blk_alloc ?_ _)); refine blk_far ?_ NB334_347.out _; (with_reducible repeat (first | refine blk_drewN ?_ _ | refine blk_drew ?_ | refine blk_alloc ?_ _)); refine blk_far ?_ NB334_347.out _; (with_reducible repeat (first | refine blk_drewN ?_ _ | refine blk_drew ?_ | refine blk_alloc ?_ _)); exact BK334.out⟩, ⟨by (with_reducible repeat (first | refine blk_drewN ?_ _ | refine blk_drew ?_ | refine blk_alloc ?_ _)); refine blk_far ?_ NB341_347.out _; (with_reducible repeat (first | refine blk_drewN ?_ _ | refine blk_drew ?_ | refine blk_alloc ?_ _)); refine blk_far ?_ NB341_347.out _; (with_reducible repeat (first | refine blk_drewN ?_ _ | refine blk_drew ?_ | refine blk_alloc ?_ _)); refine blk_far ?_ NB341_347.out _; (with_reducible repeat (first | refine blk_drewN ?_ _ | refine blk_drew ?_ | refine blk_alloc ?_ _)); refine blk_far ?_ NB341_347.out _; (with_reducible repeat (first | refine blk_drewN ?_ _ | refine blk_drew ?_ | refine blk_alloc ?_ _)); exact BK341.out⟩, ⟨by (with_reducible repeat (first | refine blk_drewN ?_ _ | refine blk_drew ?_ | refine blk_alloc ?_ _)); refine blk_put (cs := #[.int .i64 t342, .int .i64 t343, .bool t344, .bool false]) ?_ 3 _ rfl; (with_reducible repeat (first | refine blk_drewN ?_ _ | refine blk_drew ?_ | refine blk_alloc ?_ _)); refine blk_put (cs := #[.int .i64 t342, .int .i64 t343, .bool false, .bool false]) ?_ 2 _ rfl; (with_reducible repeat (first | refine blk_drewN ?_ _ | refine blk_drew ?_ | refine blk_alloc ?_ _)); refine blk_put (cs := #[.int .i64 t342, .int .i64 0, .bool false, .bool false]) ?_ 1 _ rfl; (with_reducible repeat (first | refine blk_drewN ?_ _ | refine blk_drew ?_ | refine blk_alloc ?_ _)); refine blk_put (cs := #[.int .i64 0, .int .i64 0, .bool false, .bool false]) ?_ 0 _ rfl; (with_reducible repeat (first | refine blk_drewN ?_ _ | refine blk_drew ?_ | refine blk_alloc ?_ _)); exact BK347.out⟩, ⟨by repeat (first | (with_reducible first | exact HB.out | apply below_alloc | apply pw_below_drewN | apply below_drew1 | refine below_set ?_ GE334.out | refine below_set ?_ GE341.out | refine below_set ?_ GE347.out) | exact HB.out)⟩⟩
      · rw [if_neg c22] at H
        have c22b0 : (!(t336 == t342) || (!(t337 == t343) || (!(t338 == t344) || (!(t339 == t345))))) = false := by simpa using c22
        clear c22
        (first | rw [c22b0] | (simp only [i64_w, i32_w]; rw [c22b0]) | skip)
        have H' := Aside0.mk H
        clear H
        have hnb28 := NB341_334.out
        have hnc28 := NB334_341.out
        have hnb29 := NB341_347.out
        have hnc29 := NB347_341.out
        have hcz30_0 : w18.cell? ⟨gb341, 0, none⟩ = some (.int .i64 t336) := (blk_cell BK341.out 0).trans rfl
        have hcz30_1 : w18.cell? ⟨gb341, 1, none⟩ = some (.int .i64 t337) := (blk_cell BK341.out 1).trans rfl
        have hcz30_2 : w18.cell? ⟨gb341, 2, none⟩ = some (.bool t338) := (blk_cell BK341.out 2).trans rfl
        have hcz30_3 : w18.cell? ⟨gb341, 3, none⟩ = some (.bool t339) := (blk_cell BK341.out 3).trans rfl
        have hfz30_0 := blk_frozen BK341.out 0
        have hfz30_1 := blk_frozen BK341.out 1
        have hfz30_2 := blk_frozen BK341.out 2
        have hfz30_3 := blk_frozen BK341.out 3
        have hnb31 := NB347_334.out
        have hnc31 := NB334_347.out
        have hcz32_0 : w18.cell? ⟨gb347, 0, none⟩ = some (.int .i64 0) := (blk_cell BK347.out 0).trans rfl
        have hcz32_1 : w18.cell? ⟨gb347, 1, none⟩ = some (.int .i64 0) := (blk_cell BK347.out 1).trans rfl
        have hcz32_2 : w18.cell? ⟨gb347, 2, none⟩ = some (.bool false) := (blk_cell BK347.out 2).trans rfl
        have hcz32_3 : w18.cell? ⟨gb347, 3, none⟩ = some (.bool false) := (blk_cell BK347.out 3).trans rfl
        have hfz32_0 := blk_frozen BK347.out 0
        have hfz32_1 := blk_frozen BK347.out 1
        have hfz32_2 := blk_frozen BK347.out 2
        have hfz32_3 := blk_frozen BK347.out 3
        go_wp2
        repeat (go_quiet (fail); try go_wp2)
        go_meet
        case rel => exact ⟨_, ((t340 != t346)), (by first | rfl | (simp; done) | (simp [*]; done)), H', ⟨by first | omega | exact Nat.le_refl _⟩, ⟨by (with_reducible repeat (first | refine blk_drewN ?_ _ | refine blk_drew ?_ | refine blk_alloc ?_ _)); refine blk_far ?_ NB334_347.out _; (with_reducible repeat (first | refine blk_drewN ?_ _ | refine blk_drew ?_ | refine blk_alloc ?_ _)); refine blk_far ?_ NB334_347.out _; (with_reducible repeat (first | refine blk_drewN ?_ _ | refine blk_drew ?_ | refine blk_alloc ?_ _)); refine blk_far ?_ NB334_347.out _; (with_reducible repeat (first | refine blk_drewN ?_ _ | refine blk_drew ?_ | refine blk_alloc ?_ _)); refine blk_far ?_ NB334_347.out _; (with_reducible repeat (first | refine blk_drewN ?_ _ | refine blk_drew ?_ | refine blk_alloc ?_ _)); exact BK334.out⟩, ⟨by (with_reducible repeat (first | refine blk_drewN ?_ _ | refine blk_drew ?_ | refine blk_alloc ?_ _)); refine blk_far ?_ NB341_347.out _; (with_reducible repeat (first | refine blk_drewN ?_ _ | refine blk_drew ?_ | refine blk_alloc ?_ _)); refine blk_far ?_ NB341_347.out _; (with_reducible repeat (first | refine blk_drewN ?_ _ | refine blk_drew ?_ | refine blk_alloc ?_ _)); refine blk_far ?_ NB341_347.out _; (with_reducible repeat (first | refine blk_drewN ?_ _ | refine blk_drew ?_ | refine blk_alloc ?_ _)); refine blk_far ?_ NB341_347.out _; (with_reducible repeat (first | refine blk_drewN ?_ _ | refine blk_drew ?_ | refine blk_alloc ?_ _)); exact BK341.out⟩, ⟨by (with_reducible repeat (first | refine blk_drewN ?_ _ | refine blk_drew ?_ | refine blk_alloc ?_ _)); refine blk_put (cs := #[.int .i64 t342, .int .i64 t343, .bool t344, .bool false]) ?_ 3 _ rfl; (with_reducible repeat (first | refine blk_drewN ?_ _ | refine blk_drew ?_ | refine blk_alloc ?_ _)); refine blk_put (cs := #[.int .i64 t342, .int .i64 t343, .bool false, .bool false]) ?_ 2 _ rfl; (with_reducible repeat (first | refine blk_drewN ?_ _ | refine blk_drew ?_ | refine blk_alloc ?_ _)); refine blk_put (cs := #[.int .i64 t342, .int .i64 0, .bool false, .bool false]) ?_ 1 _ rfl; (with_reducible repeat (first | refine blk_drewN ?_ _ | refine blk_drew ?_ | refine blk_alloc ?_ _)); refine blk_put (cs := #[.int .i64 0, .int .i64 0, .bool false, .bool false]) ?_ 0 _ rfl; (with_reducible repeat (first | refine blk_drewN ?_ _ | refine blk_drew ?_ | refine blk_alloc ?_ _)); exact BK347.out⟩, ⟨by repeat (first | (with_reducible first | exact HB.out | apply below_alloc | apply pw_below_drewN | apply below_drew1 | refine below_set ?_ GE334.out | refine below_set ?_ GE341.out | refine below_set ?_ GE347.out) | exact HB.out)⟩⟩
    case rest =>
      clear HC8
      try clear c1
      try clear c2
      try clear p2
      try clear c3
      try clear c5
      try clear c6
      try clear c14
      try clear c19
      try clear c20
      try clear c22
      try clear c22b0
      try clear c23
      try clear c24
      try clear c26
      try clear c28
      try clear c29
      try clear c31
      try clear hcz11_0
      try clear hcz11_1
      try clear hcz11_2
      try clear hcz15_0
      try clear hcz15_1
      try clear hcz15_2
      try clear hcz15_3
      try clear hcz16_0
      try clear hcz16_1
      try clear hcz16_2
      try clear hcz21_0
      try clear hcz21_1
      try clear hcz21_2
      try clear hcz21_3
      try clear hcz25_0
      try clear hcz25_1
      try clear hcz25_2
      try clear hcz25_3
      try clear hcz27_0
      try clear hcz27_1
      try clear hcz27_2
      try clear hcz27_3
      try clear hcz30_0
      try clear hcz30_1
      try clear hcz30_2
      try clear hcz30_3
      try clear hcz32_0
      try clear hcz32_1
      try clear hcz32_2
      try clear hcz32_3
      try clear hfz11_0
      try clear hfz11_1
      try clear hfz11_2
      try clear hfz15_0
      try clear hfz15_1
      try clear hfz15_2
      try clear hfz15_3
      try clear hfz16_0
      try clear hfz16_1
      try clear hfz16_2
      try clear hfz21_0
      try clear hfz21_1
      try clear hfz21_2
      try clear hfz21_3
      try clear hfz25_0
      try clear hfz25_1
      try clear hfz25_2
      try clear hfz25_3
      try clear hfz27_0
      try clear hfz27_1
      try clear hfz27_2
      try clear hfz27_3
      try clear hfz30_0
      try clear hfz30_1
      try clear hfz30_2
      try clear hfz30_3
      try clear hfz32_0
      try clear hfz32_1
      try clear hfz32_2
      try clear hfz32_3
      obtain ⟨kq, x44_7, rfl, HA, HJ7, BK334, BK341, BK347, HB⟩ := hcut
      cases kq with
      | zero => exact absurd HA.out (by simp [quoinlaw14_ExtentEither.j0])
      | succ kj7 =>
        have H := HA.out
        clear HA
        simp only [quoinlaw14_ExtentEither.j0] at H
        by_cases c33 : x44_7 = true
        · subst c33
          have H1 : (some false) = some r := by rw [if_pos rfl] at H; exact H
          clear H
          have H := H1
          clear H1
          obtain rfl := Option.some.inj H
          go_wp2
          repeat (go_quiet (fail); try go_wp2)
          go_ret
          exact ⟨by first | rfl | (simp [errW_none, errW_some] <;> rfl) | (simp [*, errW_none, errW_some] <;> rfl), by repeat (first | (with_reducible first | exact HB.out | apply below_alloc | apply pw_below_drewN | apply below_drew1 | refine below_set ?_ GE334.out | refine below_set ?_ GE341.out | refine below_set ?_ GE347.out) | exact HB.out)⟩
        · replace c33 := Bool.eq_false_iff.mpr c33
          subst c33
          have H1 : (if t340 = 0 then ((extent_Take.f kj7 l0 t336 t337 t338 t339).bind fun bt348 => (if bt348.2.2.2 = 0 then (if t336 < 0 then (quoinlaw14_ExtentEither.j1 kj7 l0 a2 (mn a1_0 a1_1) (mx a1_0 a1_1) true a1_0 a1_1 a1_2 t336 t337 t338 t339) else (if t337 > (l0.length : Int) then (quoinlaw14_ExtentEither.j1 kj7 l0 a2 (mn a1_0 a1_1) (mx a1_0 a1_1) true a1_0 a1_1 a1_2 t336 t337 t338 t339) else (if t336 > (mn a1_0 a1_1) then (quoinlaw14_ExtentEither.j1 kj7 l0 a2 (mn a1_0 a1_1) (mx a1_0 a1_1) true a1_0 a1_1 a1_2 t336 t337 t338 t339) else (quoinlaw14_ExtentEither.j1 kj7 l0 a2 (mn a1_0 a1_1) (mx a1_0 a1_1) (decide (t337 < t336)) a1_0 a1_1 a1_2 t336 t337 t338 t339)))) else (quoinlaw14_ExtentEither.j1 kj7 l0 a2 (mn a1_0 a1_1) (mx a1_0 a1_1) true a1_0 a1_1 a1_2 t336 t337 t338 t339))) else (some (t336 == 0 && (t337 == 0 && (!t338 && (!t339)))))) = some r := by rw [if_neg (show ¬ (false = true) by decide)] at H; exact H
          clear H
          have H := H1
          clear H1
          by_cases c34 : t340 = 0
          · rw [if_pos c34] at H
            have c34b0 : (t340 == 0) = true := beq_iff_eq.mpr c34
            have c34b1 : (t340 != 0) = false := bne_eq_false_iff_eq.mpr c34
            clear c34
            obtain ⟨ji35, hji35⟩ : ∃ j_ : Int, (mn a1_0 a1_1) = j_ := ⟨_, rfl⟩
            replace H : ((extent_Take.f kj7 l0 t336 t337 t338 t339).bind fun bt348 => (if bt348.2.2.2 = 0 then (if t336 < 0 then (quoinlaw14_ExtentEither.j1 kj7 l0 a2 ji35 (mx a1_0 a1_1) true a1_0 a1_1 a1_2 t336 t337 t338 t339) else (if t337 > (l0.length : Int) then (quoinlaw14_ExtentEither.j1 kj7 l0 a2 ji35 (mx a1_0 a1_1) true a1_0 a1_1 a1_2 t336 t337 t338 t339) else (if t336 > (ji35) then (quoinlaw14_ExtentEither.j1 kj7 l0 a2 ji35 (mx a1_0 a1_1) true a1_0 a1_1 a1_2 t336 t337 t338 t339) else (quoinlaw14_ExtentEither.j1 kj7 l0 a2 ji35 (mx a1_0 a1_1) (decide (t337 < t336)) a1_0 a1_1 a1_2 t336 t337 t338 t339)))) else (quoinlaw14_ExtentEither.j1 kj7 l0 a2 ji35 (mx a1_0 a1_1) true a1_0 a1_1 a1_2 t336 t337 t338 t339))) = some r := by first | (rw [hji35] at H; exact H) | (simp only [hji35] at H ⊢; exact H)
            have hji35_ : (if a1_1 < a1_0 then a1_1 else a1_0) = ji35 := hji35
            obtain ⟨ji36, hji36⟩ : ∃ j_ : Int, (mx a1_0 a1_1) = j_ := ⟨_, rfl⟩
            replace H : ((extent_Take.f kj7 l0 t336 t337 t338 t339).bind fun bt348 => (if bt348.2.2.2 = 0 then (if t336 < 0 then (quoinlaw14_ExtentEither.j1 kj7 l0 a2 ji35 ji36 true a1_0 a1_1 a1_2 t336 t337 t338 t339) else (if t337 > (l0.length : Int) then (quoinlaw14_ExtentEither.j1 kj7 l0 a2 ji35 ji36 true a1_0 a1_1 a1_2 t336 t337 t338 t339) else (if t336 > (ji35) then (quoinlaw14_ExtentEither.j1 kj7 l0 a2 ji35 ji36 true a1_0 a1_1 a1_2 t336 t337 t338 t339) else (quoinlaw14_ExtentEither.j1 kj7 l0 a2 ji35 ji36 (decide (t337 < t336)) a1_0 a1_1 a1_2 t336 t337 t338 t339)))) else (quoinlaw14_ExtentEither.j1 kj7 l0 a2 ji35 ji36 true a1_0 a1_1 a1_2 t336 t337 t338 t339))) = some r := by first | (rw [hji36] at H; exact H) | (simp only [hji36] at H ⊢; exact H)
            have hji36_ : (if a1_0 < a1_1 then a1_1 else a1_0) = ji36 := hji36
            replace H := Option.bind_eq_some_iff.mp H
            obtain ⟨⟨t348, t349, t350, t353⟩, A370, H⟩ := H
            replace H : (if t353 = 0 then (if t336 < 0 then (quoinlaw14_ExtentEither.j1 kj7 l0 a2 ji35 ji36 true a1_0 a1_1 a1_2 t336 t337 t338 t339) else (if t337 > (l0.length : Int) then (quoinlaw14_ExtentEither.j1 kj7 l0 a2 ji35 ji36 true a1_0 a1_1 a1_2 t336 t337 t338 t339) else (if t336 > (ji35) then (quoinlaw14_ExtentEither.j1 kj7 l0 a2 ji35 ji36 true a1_0 a1_1 a1_2 t336 t337 t338 t339) else (quoinlaw14_ExtentEither.j1 kj7 l0 a2 ji35 ji36 (decide (t337 < t336)) a1_0 a1_1 a1_2 t336 t337 t338 t339)))) else (quoinlaw14_ExtentEither.j1 kj7 l0 a2 ji35 ji36 true a1_0 a1_1 a1_2 t336 t337 t338 t339)) = some r := H
            have A37 := Aside0.mk A370
            clear A370
            have HC38 := Aside0.mk H
            clear H
            have hnb39 := NB334_341.out
            have hnc39 := NB341_334.out
            have hnb40 := NB334_347.out
            have hnc40 := NB347_334.out
            have hcz41_0 : wc.cell? ⟨gb334, 0, none⟩ = some (.int .i64 a1_0) := (blk_cell BK334.out 0).trans rfl
            have hcz41_1 : wc.cell? ⟨gb334, 1, none⟩ = some (.int .i64 a1_1) := (blk_cell BK334.out 1).trans rfl
            have hcz41_2 : wc.cell? ⟨gb334, 2, none⟩ = some (.int .i64 a1_2) := (blk_cell BK334.out 2).trans rfl
            have hfz41_0 := blk_frozen BK334.out 0
            have hfz41_1 := blk_frozen BK334.out 1
            have hfz41_2 := blk_frozen BK334.out 2
            have hnb42 := NB341_347.out
            have hnc42 := NB347_341.out
            have hcz43_0 : wc.cell? ⟨gb341, 0, none⟩ = some (.int .i64 t336) := (blk_cell BK341.out 0).trans rfl
            have hcz43_1 : wc.cell? ⟨gb341, 1, none⟩ = some (.int .i64 t337) := (blk_cell BK341.out 1).trans rfl
            have hcz43_2 : wc.cell? ⟨gb341, 2, none⟩ = some (.bool t338) := (blk_cell BK341.out 2).trans rfl
            have hcz43_3 : wc.cell? ⟨gb341, 3, none⟩ = some (.bool t339) := (blk_cell BK341.out 3).trans rfl
            have hfz43_0 := blk_frozen BK341.out 0
            have hfz43_1 := blk_frozen BK341.out 1
            have hfz43_2 := blk_frozen BK341.out 2
            have hfz43_3 := blk_frozen BK341.out 3
            go_upto_region 11 with (first | (go_at_call 13; (with_reducible refine (extent_Take.calls kj7 _ _ l0 t336 t337 t338 t339 t348 t349 t350 t353 _ ?side1 ?side2 A37.out).mono ?_); (case side1 => repeat (first | exact (Kd.C_below HR0.out HB.out) | (with_reducible refine Kd.C_alloc ?_ _) | (with_reducible refine Kd.C_drewN ?_ _) | (with_reducible refine Kd.C_drew ?_))); (case side2 => exact HC0.out); rintro e w44 ⟨v351, rfl, ho0, hb⟩; have n0_ := Aside0.mk (Kd.R_lower ho0 (below_size (by repeat (first | (with_reducible first | exact HB.out | apply below_alloc | apply pw_below_drewN | apply below_drew1 | refine below_set ?_ GE334.out | refine below_set ?_ GE341.out | refine below_set ?_ GE347.out) | exact HB.out)))); have n1_ := Aside0.mk (blk_below (g := gb334) (o := .cells #[.int .i64 a1_0, .int .i64 a1_1, .int .i64 a1_2] 24 (0, 0)) (by (with_reducible repeat (first | refine blk_drewN ?_ _ | refine blk_drew ?_ | refine blk_alloc ?_ _)); exact BK334.out) hb); have n2_ := Aside0.mk (blk_below (g := gb341) (o := .cells #[.int .i64 t336, .int .i64 t337, .bool t338, .bool t339] 27 (0, 0)) (by (with_reducible repeat (first | refine blk_drewN ?_ _ | refine blk_drew ?_ | refine blk_alloc ?_ _)); exact BK341.out) hb); have n3_ := Aside0.mk (blk_below (g := gb347) (o := .cells #[.int .i64 t342, .int .i64 t343, .bool t344, .bool t345] 27 (0, 0)) (by (with_reducible repeat (first | refine blk_drewN ?_ _ | refine blk_drew ?_ | refine blk_alloc ?_ _)); exact BK347.out) hb); have n4_ := Aside0.mk (below_step (by repeat (first | (with_reducible first | exact HB.out | apply below_alloc | apply pw_below_drewN | apply below_drew1 | refine below_set ?_ GE334.out | refine below_set ?_ GE341.out | refine below_set ?_ GE347.out) | exact HB.out)) hb); clear BK334; clear BK341; clear BK347; clear HB; have HO352 := n0_; have BK334 := n1_; have BK341 := n2_; have BK347 := n3_; have HB := n4_; clear n0_ n1_ n2_ n3_ n4_; (try clear hb); (try clear hb2); (try clear hk); (try clear hi); (try clear ho0)) | ((with_reducible refine gate_dst (N := 13) rfl ?_); (try (refine gate_guard (by rfl) ?_; dsimp only)); refine box_event ?hg (N := 13) ?hd (cs := #[.bool false, .bool false, .slice none 0 0]) (t := 38) ?hr ?_; (case hd => rfl); (case hg => rfl); (case hr => first | (go_simp; done) | (go_simp; rfl)); intro gb354 hg w45 hbox hb; have n0_ := Aside0.mk (Kd.R_below (by (with_reducible repeat (first | apply Kd.R_alloc | apply Kd.R_drewN | apply Kd.R_drew)); exact HO352.out) hb); have n1_ := Aside0.mk (blk_below (g := gb334) (o := .cells #[.int .i64 a1_0, .int .i64 a1_1, .int .i64 a1_2] 24 (0, 0)) (by (with_reducible repeat (first | refine blk_drewN ?_ _ | refine blk_drew ?_ | refine blk_alloc ?_ _)); exact BK334.out) hb); have n2_ := Aside0.mk (blk_below (g := gb341) (o := .cells #[.int .i64 t336, .int .i64 t337, .bool t338, .bool t339] 27 (0, 0)) (by (with_reducible repeat (first | refine blk_drewN ?_ _ | refine blk_drew ?_ | refine blk_alloc ?_ _)); exact BK341.out) hb); have n3_ := Aside0.mk (blk_below (g := gb347) (o := .cells #[.int .i64 t342, .int .i64 t343, .bool t344, .bool t345] 27 (0, 0)) (by (with_reducible repeat (first | refine blk_drewN ?_ _ | refine blk_drew ?_ | refine blk_alloc ?_ _)); exact BK347.out) hb); have n4_ := Aside0.mk (below_step (by repeat (first | (with_reducible first | exact HB.out | apply below_alloc | apply pw_below_drewN | apply below_drew1 | refine below_set ?_ GE334.out | refine below_set ?_ GE341.out | refine below_set ?_ GE347.out) | exact HB.out)) hb); have n5_ := Aside0.mk (hbox); have n6_ := Aside0.mk ((by rw [hg]; exact (below_size (by repeat (first | (with_reducible first | exact HB.out | apply below_alloc | apply pw_below_drewN | apply below_drew1 | refine below_set ?_ GE334.out | refine below_set ?_ GE341.out | refine below_set ?_ GE347.out) | exact HB.out))) : w.heap.size ≤ gb354)); have n7_ := Aside0.mk ((by rw [hg]; exact (below_size (by repeat (first | (with_reducible first | exact HB.out | apply below_alloc | apply pw_below_drewN | apply below_drew1 | refine below_set ?_ GE334.out | refine below_set ?_ GE341.out | refine below_set ?_ GE347.out) | exact HB.out))) : w.heap.size ≤ gb354)); have n8_ := Aside0.mk ((by rw [hg]; exact Nat.ne_of_lt (blk_lt (g := gb334) (o := .cells #[.int .i64 a1_0, .int .i64 a1_1, .int .i64 a1_2] 24 (0, 0)) (by (with_reducible repeat (first | refine blk_drewN ?_ _ | refine blk_drew ?_ | refine blk_alloc ?_ _)); exact BK334.out)) : gb334 ≠ gb354)); have n9_ := Aside0.mk ((by rw [hg]; exact Nat.ne_of_gt (blk_lt (g := gb334) (o := .cells #[.int .i64 a1_0, .int .i64 a1_1, .int .i64 a1_2] 24 (0, 0)) (by (with_reducible repeat (first | refine blk_drewN ?_ _ | refine blk_drew ?_ | refine blk_alloc ?_ _)); exact BK334.out)) : gb354 ≠ gb334)); have n10_ := Aside0.mk ((by rw [hg]; exact Nat.ne_of_lt (blk_lt (g := gb341) (o := .cells #[.int .i64 t336, .int .i64 t337, .bool t338, .bool t339] 27 (0, 0)) (by (with_reducible repeat (first | refine blk_drewN ?_ _ | refine blk_drew ?_ | refine blk_alloc ?_ _)); exact BK341.out)) : gb341 ≠ gb354)); have n11_ := Aside0.mk ((by rw [hg]; exact Nat.ne_of_gt (blk_lt (g := gb341) (o := .cells #[.int .i64 t336, .int .i64 t337, .bool t338, .bool t339] 27 (0, 0)) (by (with_reducible repeat (first | refine blk_drewN ?_ _ | refine blk_drew ?_ | refine blk_alloc ?_ _)); exact BK341.out)) : gb354 ≠ gb341)); have n12_ := Aside0.mk ((by rw [hg]; exact Nat.ne_of_lt (blk_lt (g := gb347) (o := .cells #[.int .i64 t342, .int .i64 t343, .bool t344, .bool t345] 27 (0, 0)) (by (with_reducible repeat (first | refine blk_drewN ?_ _ | refine blk_drew ?_ | refine blk_alloc ?_ _)); exact BK347.out)) : gb347 ≠ gb354)); have n13_ := Aside0.mk ((by rw [hg]; exact Nat.ne_of_gt (blk_lt (g := gb347) (o := .cells #[.int .i64 t342, .int .i64 t343, .bool t344, .bool t345] 27 (0, 0)) (by (with_reducible repeat (first | refine blk_drewN ?_ _ | refine blk_drew ?_ | refine blk_alloc ?_ _)); exact BK347.out)) : gb354 ≠ gb347)); clear HO352; clear BK334; clear BK341; clear BK347; clear HB; have HO352 := n0_; have BK334 := n1_; have BK341 := n2_; have BK347 := n3_; have HB := n4_; have BK354 := n5_; have GW354 := n6_; have GE354 := n7_; have NB334_354 := n8_; have NB354_334 := n9_; have NB341_354 := n10_; have NB354_341 := n11_; have NB347_354 := n12_; have NB354_347 := n13_; clear n0_ n1_ n2_ n3_ n4_ n5_ n6_ n7_ n8_ n9_ n10_ n11_ n12_ n13_; clear hb hbox hg; have hnb46 := NB354_334.out; have hnc46 := NB334_354.out; have hnb47 := NB354_341.out; have hnc47 := NB341_354.out; have hnb48 := NB354_347.out; have hnc48 := NB347_354.out; have hcz49_0 : w45.cell? ⟨gb354, 0, none⟩ = some (.bool false) := (blk_cell BK354.out 0).trans rfl; have hcz49_1 : w45.cell? ⟨gb354, 1, none⟩ = some (.bool false) := (blk_cell BK354.out 1).trans rfl; have hcz49_2 : w45.cell? ⟨gb354, 2, none⟩ = some (.slice none 0 0) := (blk_cell BK354.out 2).trans rfl; have hfz49_0 := blk_frozen BK354.out 0; have hfz49_1 := blk_frozen BK354.out 1; have hfz49_2 := blk_frozen BK354.out 2; obtain ⟨Ao50, co50, eo50⟩ := Kd.R_slice HO352.out; subst eo50))
            repeat (go_quiet (first | (go_at_call 13; (with_reducible refine (extent_Take.calls kj7 _ _ l0 t336 t337 t338 t339 t348 t349 t350 t353 _ ?side1 ?side2 A37.out).mono ?_); (case side1 => repeat (first | exact (Kd.C_below HR0.out HB.out) | (with_reducible refine Kd.C_alloc ?_ _) | (with_reducible refine Kd.C_drewN ?_ _) | (with_reducible refine Kd.C_drew ?_))); (case side2 => exact HC0.out); rintro e w44 ⟨v351, rfl, ho0, hb⟩; have n0_ := Aside0.mk (Kd.R_lower ho0 (below_size (by repeat (first | (with_reducible first | exact HB.out | apply below_alloc | apply pw_below_drewN | apply below_drew1 | refine below_set ?_ GE334.out | refine below_set ?_ GE341.out | refine below_set ?_ GE347.out) | exact HB.out)))); have n1_ := Aside0.mk (blk_below (g := gb334) (o := .cells #[.int .i64 a1_0, .int .i64 a1_1, .int .i64 a1_2] 24 (0, 0)) (by (with_reducible repeat (first | refine blk_drewN ?_ _ | refine blk_drew ?_ | refine blk_alloc ?_ _)); exact BK334.out) hb); have n2_ := Aside0.mk (blk_below (g := gb341) (o := .cells #[.int .i64 t336, .int .i64 t337, .bool t338, .bool t339] 27 (0, 0)) (by (with_reducible repeat (first | refine blk_drewN ?_ _ | refine blk_drew ?_ | refine blk_alloc ?_ _)); exact BK341.out) hb); have n3_ := Aside0.mk (blk_below (g := gb347) (o := .cells #[.int .i64 t342, .int .i64 t343, .bool t344, .bool t345] 27 (0, 0)) (by (with_reducible repeat (first | refine blk_drewN ?_ _ | refine blk_drew ?_ | refine blk_alloc ?_ _)); exact BK347.out) hb); have n4_ := Aside0.mk (below_step (by repeat (first | (with_reducible first | exact HB.out | apply below_alloc | apply pw_below_drewN | apply below_drew1 | refine below_set ?_ GE334.out | refine below_set ?_ GE341.out | refine below_set ?_ GE347.out) | exact HB.out)) hb); clear BK334; clear BK341; clear BK347; clear HB; have HO352 := n0_; have BK334 := n1_; have BK341 := n2_; have BK347 := n3_; have HB := n4_; clear n0_ n1_ n2_ n3_ n4_; (try clear hb); (try clear hb2); (try clear hk); (try clear hi); (try clear ho0)) | ((with_reducible refine gate_dst (N := 13) rfl ?_); (try (refine gate_guard (by rfl) ?_; dsimp only)); refine box_event ?hg (N := 13) ?hd (cs := #[.bool false, .bool false, .slice none 0 0]) (t := 38) ?hr ?_; (case hd => rfl); (case hg => rfl); (case hr => first | (go_simp; done) | (go_simp; rfl)); intro gb354 hg w45 hbox hb; have n0_ := Aside0.mk (Kd.R_below (by (with_reducible repeat (first | apply Kd.R_alloc | apply Kd.R_drewN | apply Kd.R_drew)); exact HO352.out) hb); have n1_ := Aside0.mk (blk_below (g := gb334) (o := .cells #[.int .i64 a1_0, .int .i64 a1_1, .int .i64 a1_2] 24 (0, 0)) (by (with_reducible repeat (first | refine blk_drewN ?_ _ | refine blk_drew ?_ | refine blk_alloc ?_ _)); exact BK334.out) hb); have n2_ := Aside0.mk (blk_below (g := gb341) (o := .cells #[.int .i64 t336, .int .i64 t337, .bool t338, .bool t339] 27 (0, 0)) (by (with_reducible repeat (first | refine blk_drewN ?_ _ | refine blk_drew ?_ | refine blk_alloc ?_ _)); exact BK341.out) hb); have n3_ := Aside0.mk (blk_below (g := gb347) (o := .cells #[.int .i64 t342, .int .i64 t343, .bool t344, .bool t345] 27 (0, 0)) (by (with_reducible repeat (first | refine blk_drewN ?_ _ | refine blk_drew ?_ | refine blk_alloc ?_ _)); exact BK347.out) hb); have n4_ := Aside0.mk (below_step (by repeat (first | (with_reducible first | exact HB.out | apply below_alloc | apply pw_below_drewN | apply below_drew1 | refine below_set ?_ GE334.out | refine below_set ?_ GE341.out | refine below_set ?_ GE347.out) | exact HB.out)) hb); have n5_ := Aside0.mk (hbox); have n6_ := Aside0.mk ((by rw [hg]; exact (below_size (by repeat (first | (with_reducible first | exact HB.out | apply below_alloc | apply pw_below_drewN | apply below_drew1 | refine below_set ?_ GE334.out | refine below_set ?_ GE341.out | refine below_set ?_ GE347.out) | exact HB.out))) : w.heap.size ≤ gb354)); have n7_ := Aside0.mk ((by rw [hg]; exact (below_size (by repeat (first | (with_reducible first | exact HB.out | apply below_alloc | apply pw_below_drewN | apply below_drew1 | refine below_set ?_ GE334.out | refine below_set ?_ GE341.out | refine below_set ?_ GE347.out) | exact HB.out))) : w.heap.size ≤ gb354)); have n8_ := Aside0.mk ((by rw [hg]; exact Nat.ne_of_lt (blk_lt (g := gb334) (o := .cells #[.int .i64 a1_0, .int .i64 a1_1, .int .i64 a1_2] 24 (0, 0)) (by (with_reducible repeat (first | refine blk_drewN ?_ _ | refine blk_drew ?_ | refine blk_alloc ?_ _)); exact BK334.out)) : gb334 ≠ gb354)); have n9_ := Aside0.mk ((by rw [hg]; exact Nat.ne_of_gt (blk_lt (g := gb334) (o := .cells #[.int .i64 a1_0, .int .i64 a1_1, .int .i64 a1_2] 24 (0, 0)) (by (with_reducible repeat (first | refine blk_drewN ?_ _ | refine blk_drew ?_ | refine blk_alloc ?_ _)); exact BK334.out)) : gb354 ≠ gb334)); have n10_ := Aside0.mk ((by rw [hg]; exact Nat.ne_of_lt (blk_lt (g := gb341) (o := .cells #[.int .i64 t336, .int .i64 t337, .bool t338, .bool t339] 27 (0, 0)) (by (with_reducible repeat (first | refine blk_drewN ?_ _ | refine blk_drew ?_ | refine blk_alloc ?_ _)); exact BK341.out)) : gb341 ≠ gb354)); have n11_ := Aside0.mk ((by rw [hg]; exact Nat.ne_of_gt (blk_lt (g := gb341) (o := .cells #[.int .i64 t336, .int .i64 t337, .bool t338, .bool t339] 27 (0, 0)) (by (with_reducible repeat (first | refine blk_drewN ?_ _ | refine blk_drew ?_ | refine blk_alloc ?_ _)); exact BK341.out)) : gb354 ≠ gb341)); have n12_ := Aside0.mk ((by rw [hg]; exact Nat.ne_of_lt (blk_lt (g := gb347) (o := .cells #[.int .i64 t342, .int .i64 t343, .bool t344, .bool t345] 27 (0, 0)) (by (with_reducible repeat (first | refine blk_drewN ?_ _ | refine blk_drew ?_ | refine blk_alloc ?_ _)); exact BK347.out)) : gb347 ≠ gb354)); have n13_ := Aside0.mk ((by rw [hg]; exact Nat.ne_of_gt (blk_lt (g := gb347) (o := .cells #[.int .i64 t342, .int .i64 t343, .bool t344, .bool t345] 27 (0, 0)) (by (with_reducible repeat (first | refine blk_drewN ?_ _ | refine blk_drew ?_ | refine blk_alloc ?_ _)); exact BK347.out)) : gb354 ≠ gb347)); clear HO352; clear BK334; clear BK341; clear BK347; clear HB; have HO352 := n0_; have BK334 := n1_; have BK341 := n2_; have BK347 := n3_; have HB := n4_; have BK354 := n5_; have GW354 := n6_; have GE354 := n7_; have NB334_354 := n8_; have NB354_334 := n9_; have NB341_354 := n10_; have NB354_341 := n11_; have NB347_354 := n12_; have NB354_347 := n13_; clear n0_ n1_ n2_ n3_ n4_ n5_ n6_ n7_ n8_ n9_ n10_ n11_ n12_ n13_; clear hb hbox hg; have hnb46 := NB354_334.out; have hnc46 := NB334_354.out; have hnb47 := NB354_341.out; have hnc47 := NB341_354.out; have hnb48 := NB354_347.out; have hnc48 := NB347_354.out; have hcz49_0 : w45.cell? ⟨gb354, 0, none⟩ = some (.bool false) := (blk_cell BK354.out 0).trans rfl; have hcz49_1 : w45.cell? ⟨gb354, 1, none⟩ = some (.bool false) := (blk_cell BK354.out 1).trans rfl; have hcz49_2 : w45.cell? ⟨gb354, 2, none⟩ = some (.slice none 0 0) := (blk_cell BK354.out 2).trans rfl; have hfz49_0 := blk_frozen BK354.out 0; have hfz49_1 := blk_frozen BK354.out 1; have hfz49_2 := blk_frozen BK354.out 2; obtain ⟨Ao50, co50, eo50⟩ := Kd.R_slice HO352.out; subst eo50)); go_upto_region 11 with (first | (go_at_call 13; (with_reducible refine (extent_Take.calls kj7 _ _ l0 t336 t337 t338 t339 t348 t349 t350 t353 _ ?side1 ?side2 A37.out).mono ?_); (case side1 => repeat (first | exact (Kd.C_below HR0.out HB.out) | (with_reducible refine Kd.C_alloc ?_ _) | (with_reducible refine Kd.C_drewN ?_ _) | (with_reducible refine Kd.C_drew ?_))); (case side2 => exact HC0.out); rintro e w44 ⟨v351, rfl, ho0, hb⟩; have n0_ := Aside0.mk (Kd.R_lower ho0 (below_size (by repeat (first | (with_reducible first | exact HB.out | apply below_alloc | apply pw_below_drewN | apply below_drew1 | refine below_set ?_ GE334.out | refine below_set ?_ GE341.out | refine below_set ?_ GE347.out) | exact HB.out)))); have n1_ := Aside0.mk (blk_below (g := gb334) (o := .cells #[.int .i64 a1_0, .int .i64 a1_1, .int .i64 a1_2] 24 (0, 0)) (by (with_reducible repeat (first | refine blk_drewN ?_ _ | refine blk_drew ?_ | refine blk_alloc ?_ _)); exact BK334.out) hb); have n2_ := Aside0.mk (blk_below (g := gb341) (o := .cells #[.int .i64 t336, .int .i64 t337, .bool t338, .bool t339] 27 (0, 0)) (by (with_reducible repeat (first | refine blk_drewN ?_ _ | refine blk_drew ?_ | refine blk_alloc ?_ _)); exact BK341.out) hb); have n3_ := Aside0.mk (blk_below (g := gb347) (o := .cells #[.int .i64 t342, .int .i64 t343, .bool t344, .bool t345] 27 (0, 0)) (by (with_reducible repeat (first | refine blk_drewN ?_ _ | refine blk_drew ?_ | refine blk_alloc ?_ _)); exact BK347.out) hb); have n4_ := Aside0.mk (below_step (by repeat (first | (with_reducible first | exact HB.out | apply below_alloc | apply pw_below_drewN | apply below_drew1 | refine below_set ?_ GE334.out | refine below_set ?_ GE341.out | refine below_set ?_ GE347.out) | exact HB.out)) hb); clear BK334; clear BK341; clear BK347; clear HB; have HO352 := n0_; have BK334 := n1_; have BK341 := n2_; have BK347 := n3_; have HB := n4_; clear n0_ n1_ n2_ n3_ n4_; (try clear hb); (try clear hb2); (try clear hk); (try clear hi); (try clear ho0)) | ((with_reducible refine gate_dst (N := 13) rfl ?_); (try (refine gate_guard (by rfl) ?_; dsimp only)); refine box_event ?hg (N := 13) ?hd (cs := #[.bool false, .bool false, .slice none 0 0]) (t := 38) ?hr ?_; (case hd => rfl); (case hg => rfl); (case hr => first | (go_simp; done) | (go_simp; rfl)); intro gb354 hg w45 hbox hb; have n0_ := Aside0.mk (Kd.R_below (by (with_reducible repeat (first | apply Kd.R_alloc | apply Kd.R_drewN | apply Kd.R_drew)); exact HO352.out) hb); have n1_ := Aside0.mk (blk_below (g := gb334) (o := .cells #[.int .i64 a1_0, .int .i64 a1_1, .int .i64 a1_2] 24 (0, 0)) (by (with_reducible repeat (first | refine blk_drewN ?_ _ | refine blk_drew ?_ | refine blk_alloc ?_ _)); exact BK334.out) hb); have n2_ := Aside0.mk (blk_below (g := gb341) (o := .cells #[.int .i64 t336, .int .i64 t337, .bool t338, .bool t339] 27 (0, 0)) (by (with_reducible repeat (first | refine blk_drewN ?_ _ | refine blk_drew ?_ | refine blk_alloc ?_ _)); exact BK341.out) hb); have n3_ := Aside0.mk (blk_below (g := gb347) (o := .cells #[.int .i64 t342, .int .i64 t343, .bool t344, .bool t345] 27 (0, 0)) (by (with_reducible repeat (first | refine blk_drewN ?_ _ | refine blk_drew ?_ | refine blk_alloc ?_ _)); exact BK347.out) hb); have n4_ := Aside0.mk (below_step (by repeat (first | (with_reducible first | exact HB.out | apply below_alloc | apply pw_below_drewN | apply below_drew1 | refine below_set ?_ GE334.out | refine below_set ?_ GE341.out | refine below_set ?_ GE347.out) | exact HB.out)) hb); have n5_ := Aside0.mk (hbox); have n6_ := Aside0.mk ((by rw [hg]; exact (below_size (by repeat (first | (with_reducible first | exact HB.out | apply below_alloc | apply pw_below_drewN | apply below_drew1 | refine below_set ?_ GE334.out | refine below_set ?_ GE341.out | refine below_set ?_ GE347.out) | exact HB.out))) : w.heap.size ≤ gb354)); have n7_ := Aside0.mk ((by rw [hg]; exact (below_size (by repeat (first | (with_reducible first | exact HB.out | apply below_alloc | apply pw_below_drewN | apply below_drew1 | refine below_set ?_ GE334.out | refine below_set ?_ GE341.out | refine below_set ?_ GE347.out) | exact HB.out))) : w.heap.size ≤ gb354)); have n8_ := Aside0.mk ((by rw [hg]; exact Nat.ne_of_lt (blk_lt (g := gb334) (o := .cells #[.int .i64 a1_0, .int .i64 a1_1, .int .i64 a1_2] 24 (0, 0)) (by (with_reducible repeat (first | refine blk_drewN ?_ _ | refine blk_drew ?_ | refine blk_alloc ?_ _)); exact BK334.out)) : gb334 ≠ gb354)); have n9_ := Aside0.mk ((by rw [hg]; exact Nat.ne_of_gt (blk_lt (g := gb334) (o := .cells #[.int .i64 a1_0, .int .i64 a1_1, .int .i64 a1_2] 24 (0, 0)) (by (with_reducible repeat (first | refine blk_drewN ?_ _ | refine blk_drew ?_ | refine blk_alloc ?_ _)); exact BK334.out)) : gb354 ≠ gb334)); have n10_ := Aside0.mk ((by rw [hg]; exact Nat.ne_of_lt (blk_lt (g := gb341) (o := .cells #[.int .i64 t336, .int .i64 t337, .bool t338, .bool t339] 27 (0, 0)) (by (with_reducible repeat (first | refine blk_drewN ?_ _ | refine blk_drew ?_ | refine blk_alloc ?_ _)); exact BK341.out)) : gb341 ≠ gb354)); have n11_ := Aside0.mk ((by rw [hg]; exact Nat.ne_of_gt (blk_lt (g := gb341) (o := .cells #[.int .i64 t336, .int .i64 t337, .bool t338, .bool t339] 27 (0, 0)) (by (with_reducible repeat (first | refine blk_drewN ?_ _ | refine blk_drew ?_ | refine blk_alloc ?_ _)); exact BK341.out)) : gb354 ≠ gb341)); have n12_ := Aside0.mk ((by rw [hg]; exact Nat.ne_of_lt (blk_lt (g := gb347) (o := .cells #[.int .i64 t342, .int .i64 t343, .bool t344, .bool t345] 27 (0, 0)) (by (with_reducible repeat (first | refine blk_drewN ?_ _ | refine blk_drew ?_ | refine blk_alloc ?_ _)); exact BK347.out)) : gb347 ≠ gb354)); have n13_ := Aside0.mk ((by rw [hg]; exact Nat.ne_of_gt (blk_lt (g := gb347) (o := .cells #[.int .i64 t342, .int .i64 t343, .bool t344, .bool t345] 27 (0, 0)) (by (with_reducible repeat (first | refine blk_drewN ?_ _ | refine blk_drew ?_ | refine blk_alloc ?_ _)); exact BK347.out)) : gb354 ≠ gb347)); clear HO352; clear BK334; clear BK341; clear BK347; clear HB; have HO352 := n0_; have BK334 := n1_; have BK341 := n2_; have BK347 := n3_; have HB := n4_; have BK354 := n5_; have GW354 := n6_; have GE354 := n7_; have NB334_354 := n8_; have NB354_334 := n9_; have NB341_354 := n10_; have NB354_341 := n11_; have NB347_354 := n12_; have NB354_347 := n13_; clear n0_ n1_ n2_ n3_ n4_ n5_ n6_ n7_ n8_ n9_ n10_ n11_ n12_ n13_; clear hb hbox hg; have hnb46 := NB354_334.out; have hnc46 := NB334_354.out; have hnb47 := NB354_341.out; have hnc47 := NB341_354.out; have hnb48 := NB354_347.out; have hnc48 := NB347_354.out; have hcz49_0 : w45.cell? ⟨gb354, 0, none⟩ = some (.bool false) := (blk_cell BK354.out 0).trans rfl; have hcz49_1 : w45.cell? ⟨gb354, 1, none⟩ = some (.bool false) := (blk_cell BK354.out 1).trans rfl; have hcz49_2 : w45.cell? ⟨gb354, 2, none⟩ = some (.slice none 0 0) := (blk_cell BK354.out 2).trans rfl; have hfz49_0 := blk_frozen BK354.out 0; have hfz49_1 := blk_frozen BK354.out 1; have hfz49_2 := blk_frozen BK354.out 2; obtain ⟨Ao50, co50, eo50⟩ := Kd.R_slice HO352.out; subst eo50)))
            (try simp only [Act.put, List.setIfInBounds_toArray, List.set_cons_zero, List.set_cons_succ])
            go_cut [92] (fun v92 wc => ∃ (kq : Nat) (x92_37 : Bool), v92 = .bool x92_37 ∧ Aside0 (quoinlaw14_ExtentEither.j1 kq l0 a2 ji35 ji36 x92_37 a1_0 a1_1 a1_2 t336 t337 t338 t339 = some r) ∧ Aside0 (kq ≤ kj7) ∧ Aside0 (Kd.R (Kd.int .u8) 5 wc w.heap.size (fun _ => True) (.slice Ao50 t350.length co50) t350) ∧ Aside0 (wc.heap[gb334]? = some (.cells #[.int .i64 a1_0, .int .i64 a1_1, .int .i64 a1_2] 24 (0, 0))) ∧ Aside0 (wc.heap[gb341]? = some (.cells #[.int .i64 t336, .int .i64 t337, .bool t338, .bool t339] 27 (0, 0))) ∧ Aside0 (wc.heap[gb347]? = some (.cells #[.int .i64 t342, .int .i64 t343, .bool t344, .bool t345] 27 (0, 0))) ∧ Aside0 (wc.heap[gb354]? = some (.cells #[.bool t348, .bool t349, (.slice Ao50 t350.length co50)] 38 (0, 0))) ∧ Aside0 (Below w.heap.size w wc))
            case first =>
              have H := HC38.out
              clear HC38
              by_cases c51 : t353 = 0
              · rw [if_pos c51] at H
                have c51b0 : (t353 == 0) = true := beq_iff_eq.mpr c51
                have c51b1 : (t353 != 0) = false := bne_eq_false_iff_eq.mpr c51
                clear c51
                (first | rw [c51b0] | (simp only [i64_w, i32_w]; rw [c51b0]) | skip)
                by_cases c52 : t336 < 0
                · rw [if_pos c52] at H
                  have c52b0 : decide (t336 < 0) = true := decide_eq_true c52
                  clear c52
                  have H' := Aside0.mk H
                  clear H
                  have hnb53 := NB341_334.out
                  have hnc53 := NB334_341.out
                  have hnb54 := NB341_347.out
                  have hnc54 := NB347_341.out
                  have hnb55 := NB341_354.out
                  have hnc55 := NB354_341.out
                  have hcz56_0 : w45.cell? ⟨gb341, 0, none⟩ = some (.int .i64 t336) := (blk_cell BK341.out 0).trans rfl
                  have hcz56_1 : w45.cell? ⟨gb341, 1, none⟩ = some (.int .i64 t337) := (blk_cell BK341.out 1).trans rfl
                  have hcz56_2 : w45.cell? ⟨gb341, 2, none⟩ = some (.bool t338) := (blk_cell BK341.out 2).trans rfl
                  have hcz56_3 : w45.cell? ⟨gb341, 3, none⟩ = some (.bool t339) := (blk_cell BK341.out 3).trans rfl
                  have hfz56_0 := blk_frozen BK341.out 0
                  have hfz56_1 := blk_frozen BK341.out 1
                  have hfz56_2 := blk_frozen BK341.out 2
                  have hfz56_3 := blk_frozen BK341.out 3
                  go_wp2
                  repeat (go_quiet (fail); try go_wp2)
                  go_meet
                  case rel => exact ⟨_, (true), (by first | rfl | (simp; done) | (simp [*]; done)), H', ⟨by have := HJ7.out; first | omega | exact Nat.le_refl _⟩, ⟨by (with_reducible repeat (first | apply Kd.R_alloc | apply Kd.R_drewN | apply Kd.R_drew)); exact Kd.R_mono (Kd.R_far (p := ⟨gb354, 2, none⟩) (Kd.R_far (p := ⟨gb354, 1, none⟩) (Kd.R_far (p := ⟨gb354, 0, none⟩) (Kd.R_types HO352.out BK354.out (by decide)) (fun _ hk => hk.2) (.bool t348)) (fun _ hk => hk.2) (.bool t349)) (fun _ hk => hk.2) (.slice Ao50 t350.length co50)) (fun _ hk => trivial)⟩, ⟨by (with_reducible repeat (first | refine blk_drewN ?_ _ | refine blk_drew ?_ | refine blk_alloc ?_ _)); refine blk_far ?_ NB334_354.out _; (with_reducible repeat (first | refine blk_drewN ?_ _ | refine blk_drew ?_ | refine blk_alloc ?_ _)); refine blk_far ?_ NB334_354.out _; (with_reducible repeat (first | refine blk_drewN ?_ _ | refine blk_drew ?_ | refine blk_alloc ?_ _)); refine blk_far ?_ NB334_354.out _; (with_reducible repeat (first | refine blk_drewN ?_ _ | refine blk_drew ?_ | refine blk_alloc ?_ _)); exact BK334.out⟩, ⟨by (with_reducible repeat (first | refine blk_drewN ?_ _ | refine blk_drew ?_ | refine blk_alloc ?_ _)); refine blk_far ?_ NB341_354.out _; (with_reducible repeat (first | refine blk_drewN ?_ _ | refine blk_drew ?_ | refine blk_alloc ?_ _)); refine blk_far ?_ NB341_354.out _; (with_reducible repeat (first | refine blk_drewN ?_ _ | refine blk_drew ?_ | refine blk_alloc ?_ _)); refine blk_far ?_ NB341_354.out _; (with_reducible repeat (first | refine blk_drewN ?_ _ | refine blk_drew ?_ | refine blk_alloc ?_ _)); exact BK341.out⟩, ⟨by (with_reducible repeat (first | refine blk_drewN ?_ _ | refine blk_drew ?_ | refine blk_alloc ?_ _)); refine blk_far ?_ NB347_354.out _; (with_reducible repeat (first | refine blk_drewN ?_ _ | refine blk_drew ?_ | refine blk_alloc ?_ _)); refine blk_far ?_ NB347_354.out _; (with_reducible repeat (first | refine blk_drewN ?_ _ | refine blk_drew ?_ | refine blk_alloc ?_ _)); refine blk_far ?_ NB347_354.out _; (with_reducible repeat (first | refine blk_drewN ?_ _ | refine blk_drew ?_ | refine blk_alloc ?_ _)); exact BK347.out⟩, ⟨by (with_reducible repeat (first | refine blk_drewN ?_ _ | refine blk_drew ?_ | refine blk_alloc ?_ _)); refine blk_put (cs := #[.bool t348, .bool t349, .slice none 0 0]) ?_ 2 _ rfl; (with_reducible repeat (first | refine blk_drewN ?_ _ | refine blk_drew ?_ | refine blk_alloc ?_ _)); refine blk_put (cs := #[.bool t348, .bool false, .slice none 0 0]) ?_ 1 _ rfl; (with_reducible repeat (first | refine blk_drewN ?_ _ | refine blk_drew ?_ | refine blk_alloc ?_ _)); refine blk_put (cs := #[.bool false, .bool false, .slice none 0 0]) ?_ 0 _ rfl; (with_reducible repeat (first | refine blk_drewN ?_ _ | refine blk_drew ?_ | refine blk_alloc ?_ _)); exact BK354.out⟩, ⟨by repeat (first | (with_reducible first | exact HB.out | apply below_alloc | apply pw_below_drewN | apply below_drew1 | refine below_set ?_ GE334.out | refine below_set ?_ GE341.out | refine below_set ?_ GE347.out | refine below_set ?_ GE354.out) | exact HB.out)⟩⟩
                · rw [if_neg c52] at H
                  have c52b0 : decide (t336 < 0) = false := decide_eq_false c52
                  clear c52
                  by_cases c57 : t337 > (l0.length : Int)
                  · rw [if_pos c57] at H
                    have c57b0 : decide ((l0.length : Int) < t337) = true := decide_eq_true c57
                    clear c57
                    have H' := Aside0.mk H
                    clear H
                    have hnb58 := NB341_334.out
                    have hnc58 := NB334_341.out
                    have hnb59 := NB341_347.out
                    have hnc59 := NB347_341.out
                    have hnb60 := NB341_354.out
                    have hnc60 := NB354_341.out
                    have hcz61_0 : w45.cell? ⟨gb341, 0, none⟩ = some (.int .i64 t336) := (blk_cell BK341.out 0).trans rfl
                    have hcz61_1 : w45.cell? ⟨gb341, 1, none⟩ = some (.int .i64 t337) := (blk_cell BK341.out 1).trans rfl
                    have hcz61_2 : w45.cell? ⟨gb341, 2, none⟩ = some (.bool t338) := (blk_cell BK341.out 2).trans rfl
                    have hcz61_3 : w45.cell? ⟨gb341, 3, none⟩ = some (.bool t339) := (blk_cell BK341.out 3).trans rfl
                    have hfz61_0 := blk_frozen BK341.out 0
                    have hfz61_1 := blk_frozen BK341.out 1
                    have hfz61_2 := blk_frozen BK341.out 2
                    have hfz61_3 := blk_frozen BK341.out 3
                    go_wp2
                    repeat (go_quiet (fail); try go_wp2)
                    go_meet
                    case rel => exact ⟨_, (true), (by first | rfl | (simp; done) | (simp [*]; done)), H', ⟨by have := HJ7.out; first | omega | exact Nat.le_refl _⟩, ⟨by (with_reducible repeat (first | apply Kd.R_alloc | apply Kd.R_drewN | apply Kd.R_drew)); exact Kd.R_mono (Kd.R_far (p := ⟨gb354, 2, none⟩) (Kd.R_far (p := ⟨gb354, 1, none⟩) (Kd.R_far (p := ⟨gb354, 0, none⟩) (Kd.R_types HO352.out BK354.out (by decide)) (fun _ hk => hk.2) (.bool t348)) (fun _ hk => hk.2) (.bool t349)) (fun _ hk => hk.2) (.slice Ao50 t350.length co50)) (fun _ hk => trivial)⟩, ⟨by (with_reducible repeat (first | refine blk_drewN ?_ _ | refine blk_drew ?_ | refine blk_alloc ?_ _)); refine blk_far ?_ NB334_354.out _; (with_reducible repeat (first | refine blk_drewN ?_ _ | refine blk_drew ?_ | refine blk_alloc ?_ _)); refine blk_far ?_ NB334_354.out _; (with_reducible repeat (first | refine blk_drewN ?_ _ | refine blk_drew ?_ | refine blk_alloc ?_ _)); refine blk_far ?_ NB334_354.out _; (with_reducible repeat (first | refine blk_drewN ?_ _ | refine blk_drew ?_ | refine blk_alloc ?_ _)); exact BK334.out⟩, ⟨by (with_reducible repeat (first | refine blk_drewN ?_ _ | refine blk_drew ?_ | refine blk_alloc ?_ _)); refine blk_far ?_ NB341_354.out _; (with_reducible repeat (first | refine blk_drewN ?_ _ | refine blk_drew ?_ | refine blk_alloc ?_ _)); refine blk_far ?_ NB341_354.out _; (with_reducible repeat (first | refine blk_drewN ?_ _ | refine blk_drew ?_ | refine blk_alloc ?_ _)); refine blk_far ?_ NB341_354.out _; (with_reducible repeat (first | refine blk_drewN ?_ _ | refine blk_drew ?_ | refine blk_alloc ?_ _)); exact BK341.out⟩, ⟨by (with_reducible repeat (first | refine blk_drewN ?_ _ | refine blk_drew ?_ | refine blk_alloc ?_ _)); refine blk_far ?_ NB347_354.out _; (with_reducible repeat (first | refine blk_drewN ?_ _ | refine blk_drew ?_ | refine blk_alloc ?_ _)); refine blk_far ?_ NB347_354.out _; (with_reducible repeat (first | refine blk_drewN ?_ _ | refine blk_drew ?_ | refine blk_alloc ?_ _)); refine blk_far ?_ NB347_354.out _; (with_reducible repeat (first | refine blk_drewN ?_ _ | refine blk_drew ?_ | refine blk_alloc ?_ _)); exact BK347.out⟩, ⟨by (with_reducible repeat (first | refine blk_drewN ?_ _ | refine blk_drew ?_ | refine blk_alloc ?_ _)); refine blk_put (cs := #[.bool t348, .bool t349, .slice none 0 0]) ?_ 2 _ rfl; (with_reducible repeat (first | refine blk_drewN ?_ _ | refine blk_drew ?_ | refine blk_alloc ?_ _)); refine blk_put (cs := #[.bool t348, .bool false, .slice none 0 0]) ?_ 1 _ rfl; (with_reducible repeat (first | refine blk_drewN ?_ _ | refine blk_drew ?_ | refine blk_alloc ?_ _)); refine blk_put (cs := #[.bool false, .bool false, .slice none 0 0]) ?_ 0 _ rfl; (with_reducible repeat (first | refine blk_drewN ?_ _ | refine blk_drew ?_ | refine blk_alloc ?_ _)); exact BK354.out⟩, ⟨by repeat (first | (with_reducible first | exact HB.out | apply below_alloc | apply pw_below_drewN | apply below_drew1 | refine below_set ?_ GE334.out | refine below_set ?_ GE341.out | refine below_set ?_ GE347.out | refine below_set ?_ GE354.out) | exact HB.out)⟩⟩
                  · rw [if_neg c57] at H
                    have c57b0 : decide ((l0.length : Int) < t337) = false := decide_eq_false c57
                    clear c57
                    by_cases c62 : t336 > (ji35)
                    · rw [if_pos c62] at H
                      have c62b0 : decide ((ji35) < t336) = true := decide_eq_true c62
                      clear c62
                      have H' := Aside0.mk H
                      clear H
                      have hnb63 := NB341_334.out
                      have hnc63 := NB334_341.out
                      have hnb64 := NB341_347.out
                      have hnc64 := NB347_341.out
                      have hnb65 := NB341_354.out
                      have hnc65 := NB354_341.out
                      have hcz66_0 : w45.cell? ⟨gb341, 0, none⟩ = some (.int .i64 t336) := (blk_cell BK341.out 0).trans rfl
                      have hcz66_1 : w45.cell? ⟨gb341, 1, none⟩ = some (.int .i64 t337) := (blk_cell BK341.out 1).trans rfl
                      have hcz66_2 : w45.cell? ⟨gb341, 2, none⟩ = some (.bool t338) := (blk_cell BK341.out 2).trans rfl
                      have hcz66_3 : w45.cell? ⟨gb341, 3, none⟩ = some (.bool t339) := (blk_cell BK341.out 3).trans rfl
                      have hfz66_0 := blk_frozen BK341.out 0
                      have hfz66_1 := blk_frozen BK341.out 1
                      have hfz66_2 := blk_frozen BK341.out 2
                      have hfz66_3 := blk_frozen BK341.out 3
                      go_wp2
                      repeat (go_quiet (fail); try go_wp2)
                      go_meet
                      case rel => exact ⟨_, (true), (by first | rfl | (simp; done) | (simp [*]; done)), H', ⟨by have := HJ7.out; first | omega | exact Nat.le_refl _⟩, ⟨by (with_reducible repeat (first | apply Kd.R_alloc | apply Kd.R_drewN | apply Kd.R_drew)); exact Kd.R_mono (Kd.R_far (p := ⟨gb354, 2, none⟩) (Kd.R_far (p := ⟨gb354, 1, none⟩) (Kd.R_far (p := ⟨gb354, 0, none⟩) (Kd.R_types HO352.out BK354.out (by decide)) (fun _ hk => hk.2) (.bool t348)) (fun _ hk => hk.2) (.bool t349)) (fun _ hk => hk.2) (.slice Ao50 t350.length co50)) (fun _ hk => trivial)⟩, ⟨by (with_reducible repeat (first | refine blk_drewN ?_ _ | refine blk_drew ?_ | refine blk_alloc ?_ _)); refine blk_far ?_ NB334_354.out _; (with_reducible repeat (first | refine blk_drewN ?_ _ | refine blk_drew ?_ | refine blk_alloc ?_ _)); refine blk_far ?_ NB334_354.out _; (with_reducible repeat (first | refine blk_drewN ?_ _ | refine blk_drew ?_ | refine blk_alloc ?_ _)); refine blk_far ?_ NB334_354.out _; (with_reducible repeat (first | refine blk_drewN ?_ _ | refine blk_drew ?_ | refine blk_alloc ?_ _)); exact BK334.out⟩, ⟨by (with_reducible repeat (first | refine blk_drewN ?_ _ | refine blk_drew ?_ | refine blk_alloc ?_ _)); refine blk_far ?_ NB341_354.out _; (with_reducible repeat (first | refine blk_drewN ?_ _ | refine blk_drew ?_ | refine blk_alloc ?_ _)); refine blk_far ?_ NB341_354.out _; (with_reducible repeat (first | refine blk_drewN ?_ _ | refine blk_drew ?_ | refine blk_alloc ?_ _)); refine blk_far ?_ NB341_354.out _; (with_reducible repeat (first | refine blk_drewN ?_ _ | refine blk_drew ?_ | refine blk_alloc ?_ _)); exact BK341.out⟩, ⟨by (with_reducible repeat (first | refine blk_drewN ?_ _ | refine blk_drew ?_ | refine blk_alloc ?_ _)); refine blk_far ?_ NB347_354.out _; (with_reducible repeat (first | refine blk_drewN ?_ _ | refine blk_drew ?_ | refine blk_alloc ?_ _)); refine blk_far ?_ NB347_354.out _; (with_reducible repeat (first | refine blk_drewN ?_ _ | refine blk_drew ?_ | refine blk_alloc ?_ _)); refine blk_far ?_ NB347_354.out _; (with_reducible repeat (first | refine blk_drewN ?_ _ | refine blk_drew ?_ | refine blk_alloc ?_ _)); exact BK347.out⟩, ⟨by (with_reducible repeat (first | refine blk_drewN ?_ _ | refine blk_drew ?_ | refine blk_alloc ?_ _)); refine blk_put (cs := #[.bool t348, .bool t349, .slice none 0 0]) ?_ 2 _ rfl; (with_reducible repeat (first | refine blk_drewN ?_ _ | refine blk_drew ?_ | refine blk_alloc ?_ _)); refine blk_put (cs := #[.bool t348, .bool false, .slice none 0 0]) ?_ 1 _ rfl; (with_reducible repeat (first | refine blk_drewN ?_ _ | refine blk_drew ?_ | refine blk_alloc ?_ _)); refine blk_put (cs := #[.bool false, .bool false, .slice none 0 0]) ?_ 0 _ rfl; (with_reducible repeat (first | refine blk_drewN ?_ _ | refine blk_drew ?_ | refine blk_alloc ?_ _)); exact BK354.out⟩, ⟨by repeat (first | (with_reducible first | exact HB.out | apply below_alloc | apply pw_below_drewN | apply below_drew1 | refine below_set ?_ GE334.out | refine below_set ?_ GE341.out | refine below_set ?_ GE347.out | refine below_set ?_ GE354.out) | exact HB.out)⟩⟩
                    · rw [if_neg c62] at H
                      have c62b0 : decide ((ji35) < t336) = false := decide_eq_false c62
                      clear c62
                      have H' := Aside0.mk H
                      clear H
                      have hnb67 := NB341_334.out
                      have hnc67 := NB334_341.out
                      have hnb68 := NB341_347.out
                      have hnc68 := NB347_341.out
                      have hnb69 := NB341_354.out
                      have hnc69 := NB354_341.out
                      have hcz70_0 : w45.cell? ⟨gb341, 0, none⟩ = some (.int .i64 t336) := (blk_cell BK341.out 0).trans rfl
                      have hcz70_1 : w45.cell? ⟨gb341, 1, none⟩ = some (.int .i64 t337) := (blk_cell BK341.out 1).trans rfl
                      have hcz70_2 : w45.cell? ⟨gb341, 2, none⟩ = some (.bool t338) := (blk_cell BK341.out 2).trans rfl
                      have hcz70_3 : w45.cell? ⟨gb341, 3, none⟩ = some (.bool t339) := (blk_cell BK341.out 3).trans rfl
                      have hfz70_0 := blk_frozen BK341.out 0
                      have hfz70_1 := blk_frozen BK341.out 1
                      have hfz70_2 := blk_frozen BK341.out 2
                      have hfz70_3 := blk_frozen BK341.out 3
                      go_wp2
                      repeat (go_quiet (fail); try go_wp2)
                      go_meet
                      case rel => exact ⟨_, (decide (t337 < t336)), (by first | rfl | (simp; done) | (simp [*]; done)), H', ⟨by have := HJ7.out; first | omega | exact Nat.le_refl _⟩, ⟨by (with_reducible repeat (first | apply Kd.R_alloc | apply Kd.R_drewN | apply Kd.R_drew)); exact Kd.R_mono (Kd.R_far (p := ⟨gb354, 2, none⟩) (Kd.R_far (p := ⟨gb354, 1, none⟩) (Kd.R_far (p := ⟨gb354, 0, none⟩) (Kd.R_types HO352.out BK354.out (by decide)) (fun _ hk => hk.2) (.bool t348)) (fun _ hk => hk.2) (.bool t349)) (fun _ hk => hk.2) (.slice Ao50 t350.length co50)) (fun _ hk => trivial)⟩, ⟨by (with_reducible repeat (first | refine blk_drewN ?_ _ | refine blk_drew ?_ | refine blk_alloc ?_ _)); refine blk_far ?_ NB334_354.out _; (with_reducible repeat (first | refine blk_drewN ?_ _ | refine blk_drew ?_ | refine blk_alloc ?_ _)); refine blk_far ?_ NB334_354.out _; (with_reducible repeat (first | refine blk_drewN ?_ _ | refine blk_drew ?_ | refine blk_alloc ?_ _)); refine blk_far ?_ NB334_354.out _; (with_reducible repeat (first | refine blk_drewN ?_ _ | refine blk_drew ?_ | refine blk_alloc ?_ _)); exact BK334.out⟩, ⟨by (with_reducible repeat (first | refine blk_drewN ?_ _ | refine blk_drew ?_ | refine blk_alloc ?_ _)); refine blk_far ?_ NB341_354.out _; (with_reducible repeat (first | refine blk_drewN ?_ _ | refine blk_drew ?_ | refine blk_alloc ?_ _)); refine blk_far ?_ NB341_354.out _; (with_reducible repeat (first | refine blk_drewN ?_ _ | refine blk_drew ?_ | refine blk_alloc ?_ _)); refine blk_far ?_ NB341_354.out _; (with_reducible repeat (first | refine blk_drewN ?_ _ | refine blk_drew ?_ | refine blk_alloc ?_ _)); exact BK341.out⟩, ⟨by (with_reducible repeat (first | refine blk_drewN ?_ _ | refine blk_drew ?_ | refine blk_alloc ?_ _)); refine blk_far ?_ NB347_354.out _; (with_reducible repeat (first | refine blk_drewN ?_ _ | refine blk_drew ?_ | refine blk_alloc ?_ _)); refine blk_far ?_ NB347_354.out _; (with_reducible repeat (first | refine blk_drewN ?_ _ | refine blk_drew ?_ | refine blk_alloc ?_ _)); refine blk_far ?_ NB347_354.out _; (with_reducible repeat (first | refine blk_drewN ?_ _ | refine blk_drew ?_ | refine blk_alloc ?_ _)); exact BK347.out⟩, ⟨by (with_reducible repeat (first | refine blk_drewN ?_ _ | refine blk_drew ?_ | refine blk_alloc ?_ _)); refine blk_put (cs := #[.bool t348, .bool t349, .slice none 0 0]) ?_ 2 _ rfl; (with_reducible repeat (first | refine blk_drewN ?_ _ | refine blk_drew ?_ | refine blk_alloc ?_ _)); refine blk_put (cs := #[.bool t348, .bool false, .slice none 0 0]) ?_ 1 _ rfl; (with_reducible repeat (first | refine blk_drewN ?_ _ | refine blk_drew ?_ | refine blk_alloc ?_ _)); refine blk_put (cs := #[.bool false, .bool false, .slice none 0 0]) ?_ 0 _ rfl; (with_reducible repeat (first | refine blk_drewN ?_ _ | refine blk_drew ?_ | refine blk_alloc ?_ _)); exact BK354.out⟩, ⟨by repeat (first | (with_reducible first | exact HB.out | apply below_alloc | apply pw_below_drewN | apply below_drew1 | refine below_set ?_ GE334.out | refine below_set ?_ GE341.out | refine below_set ?_ GE347.out | refine below_set ?_ GE354.out) | exact HB.out)⟩⟩
              · rw [if_neg c51] at H
                have c51b0 : (t353 == 0) = false := beq_eq_false_iff_ne.mpr c51
                have c51b1 : (t353 != 0) = true := bne_iff_ne.mpr c51
                (first | rw [c51b0] | (simp only [i64_w, i32_w]; rw [c51b0]) | skip)
                have H' := Aside0.mk H
                clear H
                go_wp2
                repeat (go_quiet (fail); try go_wp2)
                go_meet
                case rel => exact ⟨_, (true), (by first | rfl | (simp; done) | (simp [*]; done)), H', ⟨by have := HJ7.out; first | omega | exact Nat.le_refl _⟩, ⟨by (with_reducible repeat (first | apply Kd.R_alloc | apply Kd.R_drewN | apply Kd.R_drew)); exact Kd.R_mono (Kd.R_far (p := ⟨gb354, 2, none⟩) (Kd.R_far (p := ⟨gb354, 1, none⟩) (Kd.R_far (p := ⟨gb354, 0, none⟩) (Kd.R_types HO352.out BK354.out (by decide)) (fun _ hk => hk.2) (.bool t348)) (fun _ hk => hk.2) (.bool t349)) (fun _ hk => hk.2) (.slice Ao50 t350.length co50)) (fun _ hk => trivial)⟩, ⟨by (with_reducible repeat (first | refine blk_drewN ?_ _ | refine blk_drew ?_ | refine blk_alloc ?_ _)); refine blk_far ?_ NB334_354.out _; (with_reducible repeat (first | refine blk_drewN ?_ _ | refine blk_drew ?_ | refine blk_alloc ?_ _)); refine blk_far ?_ NB334_354.out _; (with_reducible repeat (first | refine blk_drewN ?_ _ | refine blk_drew ?_ | refine blk_alloc ?_ _)); refine blk_far ?_ NB334_354.out _; (with_reducible repeat (first | refine blk_drewN ?_ _ | refine blk_drew ?_ | refine blk_alloc ?_ _)); exact BK334.out⟩, ⟨by (with_reducible repeat (first | refine blk_drewN ?_ _ | refine blk_drew ?_ | refine blk_alloc ?_ _)); refine blk_far ?_ NB341_354.out _; (with_reducible repeat (first | refine blk_drewN ?_ _ | refine blk_drew ?_ | refine blk_alloc ?_ _)); refine blk_far ?_ NB341_354.out _; (with_reducible repeat (first | refine blk_drewN ?_ _ | refine blk_drew ?_ | refine blk_alloc ?_ _)); refine blk_far ?_ NB341_354.out _; (with_reducible repeat (first | refine blk_drewN ?_ _ | refine blk_drew ?_ | refine blk_alloc ?_ _)); exact BK341.out⟩, ⟨by (with_reducible repeat (first | refine blk_drewN ?_ _ | refine blk_drew ?_ | refine blk_alloc ?_ _)); refine blk_far ?_ NB347_354.out _; (with_reducible repeat (first | refine blk_drewN ?_ _ | refine blk_drew ?_ | refine blk_alloc ?_ _)); refine blk_far ?_ NB347_354.out _; (with_reducible repeat (first | refine blk_drewN ?_ _ | refine blk_drew ?_ | refine blk_alloc ?_ _)); refine blk_far ?_ NB347_354.out _; (with_reducible repeat (first | refine blk_drewN ?_ _ | refine blk_drew ?_ | refine blk_alloc ?_ _)); exact BK347.out⟩, ⟨by (with_reducible repeat (first | refine blk_drewN ?_ _ | refine blk_drew ?_ | refine blk_alloc ?_ _)); refine blk_put (cs := #[.bool t348, .bool t349, .slice none 0 0]) ?_ 2 _ rfl; (with_reducible repeat (first | refine blk_drewN ?_ _ | refine blk_drew ?_ | refine blk_alloc ?_ _)); refine blk_put (cs := #[.bool t348, .bool false, .slice none 0 0]) ?_ 1 _ rfl; (with_reducible repeat (first | refine blk_drewN ?_ _ | refine blk_drew ?_ | refine blk_alloc ?_ _)); refine blk_put (cs := #[.bool false, .bool false, .slice none 0 0]) ?_ 0 _ rfl; (with_reducible repeat (first | refine blk_drewN ?_ _ | refine blk_drew ?_ | refine blk_alloc ?_ _)); exact BK354.out⟩, ⟨by repeat (first | (with_reducible first | exact HB.out | apply below_alloc | apply pw_below_drewN | apply below_drew1 | refine below_set ?_ GE334.out | refine below_set ?_ GE341.out | refine below_set ?_ GE347.out | refine below_set ?_ GE354.out) | exact HB.out)⟩⟩
            case rest =>
              clear HC38
              try clear c1
              try clear c2
              try clear p2
              try clear c3
              try clear c4
              try clear c5
              try clear c6
              try clear c14
              try clear c19
              try clear c20
              try clear c22
              try clear c22b0
              try clear c23
              try clear c24
              try clear c26
              try clear c28
              try clear c29
              try clear c31
              try clear c33
              try clear c34
              try clear c34b0
              try clear c34b1
              try clear c39
              try clear c40
              try clear c42
              try clear c46
              try clear c47
              try clear c48
              try clear c51
              try clear c51b0
              try clear c51b1
              try clear c52
              try clear c52b0
              try clear c53
              try clear c54
              try clear c55
              try clear c57
              try clear c57b0
              try clear c58
              try clear c59
              try clear c60
              try clear c62
              try clear c62b0
              try clear c63
              try clear c64
              try clear c65
              try clear c67
              try clear c68
              try clear c69
              try clear hcz11_0
              try clear hcz11_1
              try clear hcz11_2
              try clear hcz15_0
              try clear hcz15_1
              try clear hcz15_2
              try clear hcz15_3
              try clear hcz16_0
              try clear hcz16_1
              try clear hcz16_2
              try clear hcz21_0
              try clear hcz21_1
              try clear hcz21_2
              try clear hcz21_3
              try clear hcz25_0
              try clear hcz25_1
              try clear hcz25_2
              try clear hcz25_3
              try clear hcz27_0
              try clear hcz27_1
              try clear hcz27_2
              try clear hcz27_3
              try clear hcz30_0
              try clear hcz30_1
              try clear hcz30_2
              try clear hcz30_3
              try clear hcz32_0
              try clear hcz32_1
              try clear hcz32_2
              try clear hcz32_3
              try clear hcz41_0
              try clear hcz41_1
              try clear hcz41_2
              try clear hcz43_0
              try clear hcz43_1
              try clear hcz43_2
              try clear hcz43_3
              try clear hcz49_0
              try clear hcz49_1
              try clear hcz49_2
              try clear hcz56_0
              try clear hcz56_1
              try clear hcz56_2
              try clear hcz56_3
              try clear hcz61_0
              try clear hcz61_1
              try clear hcz61_2
              try clear hcz61_3
              try clear hcz66_0
              try clear hcz66_1
              try clear hcz66_2
              try clear hcz66_3
              try clear hcz70_0
              try clear hcz70_1
              try clear hcz70_2
              try clear hcz70_3
              try clear hfz11_0
              try clear hfz11_1
              try clear hfz11_2
              try clear hfz15_0
              try clear hfz15_1
              try clear hfz15_2
              try clear hfz15_3
              try clear hfz16_0
              try clear hfz16_1
              try clear hfz16_2
              try clear hfz21_0
              try clear hfz21_1
              try clear hfz21_2
              try clear hfz21_3
              try clear hfz25_0
              try clear hfz25_1
              try clear hfz25_2
              try clear hfz25_3
              try clear hfz27_0
              try clear hfz27_1
              try clear hfz27_2
              try clear hfz27_3
              try clear hfz30_0
              try clear hfz30_1
              try clear hfz30_2
              try clear hfz30_3
              try clear hfz32_0
              try clear hfz32_1
              try clear hfz32_2
              try clear hfz32_3
              try clear hfz41_0
              try clear hfz41_1
              try clear hfz41_2
              try clear hfz43_0
              try clear hfz43_1
              try clear hfz43_2
              try clear hfz43_3
              try clear hfz49_0
              try clear hfz49_1
              try clear hfz49_2
              try clear hfz56_0
              try clear hfz56_1
              try clear hfz56_2
              try clear hfz56_3
              try clear hfz61_0
              try clear hfz61_1
              try clear hfz61_2
              try clear hfz61_3
              try clear hfz66_0
              try clear hfz66_1
              try clear hfz66_2
              try clear hfz66_3
              try clear hfz70_0
              try clear hfz70_1
              try clear hfz70_2
              try clear hfz70_3
              try clear p2
              obtain ⟨kq, x92_37, rfl, HA, HJ37, HO_355002, BK334, BK341, BK347, BK354, HB⟩ := hcut
              cases kq with
              | zero => exact absurd HA.out (by simp [quoinlaw14_ExtentEither.j1])
              | succ kj37 =>
                have H := HA.out
                clear HA
                simp only [quoinlaw14_ExtentEither.j1] at H
                by_cases c71 : x92_37 = true
                · subst c71
                  have H1 : (some false) = some r := by rw [if_pos rfl] at H; exact H
                  clear H
                  have H := H1
                  clear H1
                  obtain rfl := Option.some.inj H
                  go_wp2
                  repeat (go_quiet (fail); try go_wp2)
                  go_ret
                  exact ⟨by first | rfl | (simp [errW_none, errW_some] <;> rfl) | (simp only [← hji35, ← hji36]; first | rfl | (simp [errW_none, errW_some] <;> rfl)) | (simp [*, errW_none, errW_some] <;> rfl), by repeat (first | (with_reducible first | exact HB.out | apply below_alloc | apply pw_below_drewN | apply below_drew1 | refine below_set ?_ GE334.out | refine below_set ?_ GE341.out | refine below_set ?_ GE347.out | refine below_set ?_ GE354.out) | exact HB.out)⟩
                · replace c71 := Bool.eq_false_iff.mpr c71
                  subst c71
                  have H1 : (if t338 = true then (if t337 ≥ ji36 then (some true) else (if ji36 > 0 then (if 0 ≤ (wrap64 (ji36 - 1)) then (if (wrap64 (ji36 - 1)) < (l0.length : Int) then (some ((rd l0 (wrap64 (ji36 - 1))) == 10)) else (none)) else (none)) else (some false))) else (if a1_2 = 3 then (some false) else (if a2.toList = ([62] : List UInt8) then (some false) else (if a2.toList = ([60] : List UInt8) then (some false) else (if t336 = ji35 then (if t339 = true then (some false) else (if t337 ≥ ji36 then (if t337 ≤ (wrap64 (ji36 + 1)) then (some true) else (if t337 = (wrap64 (ji36 - 1)) then (if 0 ≤ (wrap64 (ji36 - 1)) then (if (wrap64 (ji36 - 1)) < (l0.length : Int) then (if (rd l0 (wrap64 (ji36 - 1))) = 10 then (some (a1_2 == 1)) else (some false)) else (none)) else (none)) else (some false))) else (if t337 = (wrap64 (ji36 - 1)) then (if 0 ≤ (wrap64 (ji36 - 1)) then (if (wrap64 (ji36 - 1)) < (l0.length : Int) then (if (rd l0 (wrap64 (ji36 - 1))) = 10 then (some (a1_2 == 1)) else (some false)) else (none)) else (none)) else (some false)))) else (some false)))))) = some r := by rw [if_neg (show ¬ (false = true) by decide)] at H; exact H
                  clear H
                  have H := H1
                  clear H1
                  by_cases c72 : t338 = true
                  · subst c72
                    have H1 : (if t337 ≥ ji36 then (some true) else (if ji36 > 0 then (if 0 ≤ (wrap64 (ji36 - 1)) then (if (wrap64 (ji36 - 1)) < (l0.length : Int) then (some ((rd l0 (wrap64 (ji36 - 1))) == 10)) else (none)) else (none)) else (some false))) = some r := by rw [if_pos rfl] at H; exact H
                    clear H
                    have H := H1
                    clear H1
                    by_cases c73 : t337 ≥ ji36
                    · rw [if_pos c73] at H
                      have c73b0 : decide (ji36 ≤ t337) = true := decide_eq_true c73
                      clear c73
                      obtain rfl := Option.some.inj H
                      have hnb74 := NB341_334.out
                      have hnc74 := NB334_341.out
                      have hnb75 := NB341_347.out
                      have hnc75 := NB347_341.out
                      have hnb76 := NB341_354.out
                      have hnc76 := NB354_341.out
                      have hcz77_0 : wc.cell? ⟨gb341, 0, none⟩ = some (.int .i64 t336) := (blk_cell BK341.out 0).trans rfl
                      have hcz77_1 : wc.cell? ⟨gb341, 1, none⟩ = some (.int .i64 t337) := (blk_cell BK341.out 1).trans rfl
                      have hcz77_2 : wc.cell? ⟨gb341, 2, none⟩ = some (.bool true) := (blk_cell BK341.out 2).trans rfl
                      have hcz77_3 : wc.cell? ⟨gb341, 3, none⟩ = some (.bool t339) := (blk_cell BK341.out 3).trans rfl
                      have hfz77_0 := blk_frozen BK341.out 0
                      have hfz77_1 := blk_frozen BK341.out 1
                      have hfz77_2 := blk_frozen BK341.out 2
                      have hfz77_3 := blk_frozen BK341.out 3
                      go_wp2
                      repeat (go_quiet (fail); try go_wp2)
                      go_ret
                      exact ⟨by first | rfl | (simp [errW_none, errW_some] <;> rfl) | (simp only [← hji35, ← hji36]; first | rfl | (simp [errW_none, errW_some] <;> rfl)) | (simp [*, errW_none, errW_some] <;> rfl), by repeat (first | (with_reducible first | exact HB.out | apply below_alloc | apply pw_below_drewN | apply below_drew1 | refine below_set ?_ GE334.out | refine below_set ?_ GE341.out | refine below_set ?_ GE347.out | refine below_set ?_ GE354.out) | exact HB.out)⟩
                    · rw [if_neg c73] at H
                      have c73b0 : decide (ji36 ≤ t337) = false := decide_eq_false c73
                      clear c73
                      by_cases c78 : ji36 > 0
                      · rw [if_pos c78] at H
                        have c78b0 : decide (0 < ji36) = true := decide_eq_true c78
                        clear c78
                        obtain ⟨ji79, hji79⟩ : ∃ j_ : Int, (wrap64 (ji36 - 1)) = j_ := ⟨_, rfl⟩
                        replace H : (if 0 ≤ (ji79) then (if (ji79) < (l0.length : Int) then (some ((rd l0 (ji79)) == 10)) else (none)) else (none)) = some r := by first | (rw [hji79] at H; exact H) | (simp only [hji79] at H ⊢; exact H)
                        have hji79w : (IntKind.i64.wrap (ji36 - 1)) = ji79 := (i64_w _).trans hji79
                        by_cases c80 : 0 ≤ (ji79)
                        · rw [if_pos c80] at H
                          have c80b0 : decide (0 ≤ (ji79)) = true := decide_eq_true c80
                          clear c80
                          by_cases c81 : (ji79) < (l0.length : Int)
                          · rw [if_pos c81] at H
                            have c81b0 : decide ((ji79) < (l0.length : Int)) = true := decide_eq_true c81
                            clear c81
                            obtain rfl := Option.some.inj H
                            have hnb82 := NB341_334.out
                            have hnc82 := NB334_341.out
                            have hnb83 := NB341_347.out
                            have hnc83 := NB347_341.out
                            have hnb84 := NB341_354.out
                            have hnc84 := NB354_341.out
                            have hcz85_0 : wc.cell? ⟨gb341, 0, none⟩ = some (.int .i64 t336) := (blk_cell BK341.out 0).trans rfl
                            have hcz85_1 : wc.cell? ⟨gb341, 1, none⟩ = some (.int .i64 t337) := (blk_cell BK341.out 1).trans rfl
                            have hcz85_2 : wc.cell? ⟨gb341, 2, none⟩ = some (.bool true) := (blk_cell BK341.out 2).trans rfl
                            have hcz85_3 : wc.cell? ⟨gb341, 3, none⟩ = some (.bool t339) := (blk_cell BK341.out 3).trans rfl
                            have hfz85_0 := blk_frozen BK341.out 0
                            have hfz85_1 := blk_frozen BK341.out 1
                            have hfz85_2 := blk_frozen BK341.out 2
                            have hfz85_3 := blk_frozen BK341.out 3
                            have p355 : 0 ≤ ((ji79) : Int) := of_decide_eq_true (by first | (with_reducible assumption) | assumption)
                            have q355 : (ji79) < (l0.length : Int) := of_decide_eq_true (by first | (with_reducible assumption) | assumption)
                            obtain ⟨ad355, e355, hx355_0⟩ := Kd.at_int HR0.out (ji79) p355 q355
                            cases e355
                            replace hx355_0 := (HB.out.cell (World.block_lt_of_cell? w _ hx355_0)).trans hx355_0
                            replace p355 := eq_true p355
                            replace q355 := eq_true q355
                            go_wp2
                            repeat (go_quiet (fail); try go_wp2)
                            go_ret
                            exact ⟨by first | rfl | (simp [errW_none, errW_some] <;> rfl) | (simp only [← hji35, ← hji36, ← hji79]; first | rfl | (simp [errW_none, errW_some] <;> rfl)) | (simp [*, errW_none, errW_some] <;> rfl), by repeat (first | (with_reducible first | exact HB.out | apply below_alloc | apply pw_below_drewN | apply below_drew1 | refine below_set ?_ GE334.out | refine below_set ?_ GE341.out | refine below_set ?_ GE347.out | refine below_set ?_ GE354.out) | exact HB.out)⟩
                          · rw [if_neg c81] at H
                            exact absurd H (by simp)
                        · rw [if_neg c80] at H
                          exact absurd H (by simp)
                      · rw [if_neg c78] at H
                        have c78b0 : decide (0 < ji36) = false := decide_eq_false c78
                        clear c78
                        obtain rfl := Option.some.inj H
                        have hnb86 := NB341_334.out
                        have hnc86 := NB334_341.out
                        have hnb87 := NB341_347.out
                        have hnc87 := NB347_341.out
                        have hnb88 := NB341_354.out
                        have hnc88 := NB354_341.out
                        have hcz89_0 : wc.cell? ⟨gb341, 0, none⟩ = some (.int .i64 t336) := (blk_cell BK341.out 0).trans rfl
                        have hcz89_1 : wc.cell? ⟨gb341, 1, none⟩ = some (.int .i64 t337) := (blk_cell BK341.out 1).trans rfl
                        have hcz89_2 : wc.cell? ⟨gb341, 2, none⟩ = some (.bool true) := (blk_cell BK341.out 2).trans rfl
                        have hcz89_3 : wc.cell? ⟨gb341, 3, none⟩ = some (.bool t339) := (blk_cell BK341.out 3).trans rfl
                        have hfz89_0 := blk_frozen BK341.out 0
                        have hfz89_1 := blk_frozen BK341.out 1
                        have hfz89_2 := blk_frozen BK341.out 2
                        have hfz89_3 := blk_frozen BK341.out 3
                        go_wp2
                        repeat (go_quiet (fail); try go_wp2)
                        go_ret
                        exact ⟨by first | rfl | (simp [errW_none, errW_some] <;> rfl) | (simp only [← hji35, ← hji36]; first | rfl | (simp [errW_none, errW_some] <;> rfl)) | (simp [*, errW_none, errW_some] <;> rfl), by repeat (first | (with_reducible first | exact HB.out | apply below_alloc | apply pw_below_drewN | apply below_drew1 | refine below_set ?_ GE334.out | refine below_set ?_ GE341.out | refine below_set ?_ GE347.out | refine below_set ?_ GE354.out) | exact HB.out)⟩
                  · replace c72 := Bool.eq_false_iff.mpr c72
                    subst c72
                    have H1 : (if a1_2 = 3 then (some false) else (if a2.toList = ([62] : List UInt8) then (some false) else (if a2.toList = ([60] : List UInt8) then (some false) else (if t336 = ji35 then (if t339 = true then (some false) else (if t337 ≥ ji36 then (if t337 ≤ (wrap64 (ji36 + 1)) then (some true) else (if t337 = (wrap64 (ji36 - 1)) then (if 0 ≤ (wrap64 (ji36 - 1)) then (if (wrap64 (ji36 - 1)) < (l0.length : Int) then (if (rd l0 (wrap64 (ji36 - 1))) = 10 then (some (a1_2 == 1)) else (some false)) else (none)) else (none)) else (some false))) else (if t337 = (wrap64 (ji36 - 1)) then (if 0 ≤ (wrap64 (ji36 - 1)) then (if (wrap64 (ji36 - 1)) < (l0.length : Int) then (if (rd l0 (wrap64 (ji36 - 1))) = 10 then (some (a1_2 == 1)) else (some false)) else (none)) else (none)) else (some false)))) else (some false))))) = some r := by rw [if_neg (show ¬ (false = true) by decide)] at H; exact H
                    clear H
                    have H := H1
                    clear H1
                    by_cases c90 : a1_2 = 3
                    · rw [if_pos c90] at H
                      have c90b0 : (a1_2 == 3) = true := beq_iff_eq.mpr c90
                      have c90b1 : (a1_2 != 3) = false := bne_eq_false_iff_eq.mpr c90
                      clear c90
                      obtain rfl := Option.some.inj H
                      have hnb91 := NB341_334.out
                      have hnc91 := NB334_341.out
                      have hnb92 := NB341_347.out
                      have hnc92 := NB347_341.out
                      have hnb93 := NB341_354.out
                      have hnc93 := NB354_341.out
                      have hcz94_0 : wc.cell? ⟨gb341, 0, none⟩ = some (.int .i64 t336) := (blk_cell BK341.out 0).trans rfl
                      have hcz94_1 : wc.cell? ⟨gb341, 1, none⟩ = some (.int .i64 t337) := (blk_cell BK341.out 1).trans rfl
                      have hcz94_2 : wc.cell? ⟨gb341, 2, none⟩ = some (.bool false) := (blk_cell BK341.out 2).trans rfl
                      have hcz94_3 : wc.cell? ⟨gb341, 3, none⟩ = some (.bool t339) := (blk_cell BK341.out 3).trans rfl
                      have hfz94_0 := blk_frozen BK341.out 0
                      have hfz94_1 := blk_frozen BK341.out 1
                      have hfz94_2 := blk_frozen BK341.out 2
                      have hfz94_3 := blk_frozen BK341.out 3
                      have hnb95 := NB334_347.out
                      have hnc95 := NB347_334.out
                      have hnb96 := NB334_354.out
                      have hnc96 := NB354_334.out
                      have hcz97_0 : wc.cell? ⟨gb334, 0, none⟩ = some (.int .i64 a1_0) := (blk_cell BK334.out 0).trans rfl
                      have hcz97_1 : wc.cell? ⟨gb334, 1, none⟩ = some (.int .i64 a1_1) := (blk_cell BK334.out 1).trans rfl
                      have hcz97_2 : wc.cell? ⟨gb334, 2, none⟩ = some (.int .i64 a1_2) := (blk_cell BK334.out 2).trans rfl
                      have hfz97_0 := blk_frozen BK334.out 0
                      have hfz97_1 := blk_frozen BK334.out 1
                      have hfz97_2 := blk_frozen BK334.out 2
                      go_wp2
                      repeat (go_quiet (fail); try go_wp2)
                      go_ret
                      exact ⟨by first | rfl | (simp [errW_none, errW_some] <;> rfl) | (simp only [← hji35, ← hji36]; first | rfl | (simp [errW_none, errW_some] <;> rfl)) | (simp [*, errW_none, errW_some] <;> rfl), by repeat (first | (with_reducible first | exact HB.out | apply below_alloc | apply pw_below_drewN | apply below_drew1 | refine below_set ?_ GE334.out | refine below_set ?_ GE341.out | refine below_set ?_ GE347.out | refine below_set ?_ GE354.out) | exact HB.out)⟩
                    · rw [if_neg c90] at H
                      have c90b0 : (a1_2 == 3) = false := beq_eq_false_iff_ne.mpr c90
                      have c90b1 : (a1_2 != 3) = true := bne_iff_ne.mpr c90
                      by_cases c98 : a2.toList = ([62] : List UInt8)
                      · rw [if_pos c98] at H
                        have c98b0 : (a2.toList == ([62] : List UInt8)) = true := beq_iff_eq.mpr c98
                        have c98b1 : (a2.toList != ([62] : List UInt8)) = false := bne_eq_false_iff_eq.mpr c98
                        clear c98
                        obtain rfl := Option.some.inj H
                        have hnb99 := NB341_334.out
                        have hnc99 := NB334_341.out
                        have hnb100 := NB341_347.out
                        have hnc100 := NB347_341.out
                        have hnb101 := NB341_354.out
                        have hnc101 := NB354_341.out
                        have hcz102_0 : wc.cell? ⟨gb341, 0, none⟩ = some (.int .i64 t336) := (blk_cell BK341.out 0).trans rfl
                        have hcz102_1 : wc.cell? ⟨gb341, 1, none⟩ = some (.int .i64 t337) := (blk_cell BK341.out 1).trans rfl
                        have hcz102_2 : wc.cell? ⟨gb341, 2, none⟩ = some (.bool false) := (blk_cell BK341.out 2).trans rfl
                        have hcz102_3 : wc.cell? ⟨gb341, 3, none⟩ = some (.bool t339) := (blk_cell BK341.out 3).trans rfl
                        have hfz102_0 := blk_frozen BK341.out 0
                        have hfz102_1 := blk_frozen BK341.out 1
                        have hfz102_2 := blk_frozen BK341.out 2
                        have hfz102_3 := blk_frozen BK341.out 3
                        have hnb103 := NB334_347.out
                        have hnc103 := NB347_334.out
                        have hnb104 := NB334_354.out
                        have hnc104 := NB354_334.out
                        have hcz105_0 : wc.cell? ⟨gb334, 0, none⟩ = some (.int .i64 a1_0) := (blk_cell BK334.out 0).trans rfl
                        have hcz105_1 : wc.cell? ⟨gb334, 1, none⟩ = some (.int .i64 a1_1) := (blk_cell BK334.out 1).trans rfl
                        have hcz105_2 : wc.cell? ⟨gb334, 2, none⟩ = some (.int .i64 a1_2) := (blk_cell BK334.out 2).trans rfl
                        have hfz105_0 := blk_frozen BK334.out 0
                        have hfz105_1 := blk_frozen BK334.out 1
                        have hfz105_2 := blk_frozen BK334.out 2
                        go_wp2
                        repeat (go_quiet (fail); try go_wp2)
                        go_ret
                        exact ⟨by first | rfl | (simp [errW_none, errW_some] <;> rfl) | (simp only [← hji35, ← hji36]; first | rfl | (simp [errW_none, errW_some] <;> rfl)) | (simp [*, errW_none, errW_some] <;> rfl), by repeat (first | (with_reducible first | exact HB.out | apply below_alloc | apply pw_below_drewN | apply below_drew1 | refine below_set ?_ GE334.out | refine below_set ?_ GE341.out | refine below_set ?_ GE347.out | refine below_set ?_ GE354.out) | exact HB.out)⟩
                      · rw [if_neg c98] at H
                        have c98b0 : (a2.toList == ([62] : List UInt8)) = false := beq_eq_false_iff_ne.mpr c98
                        have c98b1 : (a2.toList != ([62] : List UInt8)) = true := bne_iff_ne.mpr c98
                        by_cases c106 : a2.toList = ([60] : List UInt8)
                        · rw [if_pos c106] at H
                          have c106b0 : (a2.toList == ([60] : List UInt8)) = true := beq_iff_eq.mpr c106
                          have c106b1 : (a2.toList != ([60] : List UInt8)) = false := bne_eq_false_iff_eq.mpr c106
                          clear c106
                          obtain rfl := Option.some.inj H
                          have hnb107 := NB341_334.out
                          have hnc107 := NB334_341.out
                          have hnb108 := NB341_347.out
                          have hnc108 := NB347_341.out
                          have hnb109 := NB341_354.out
                          have hnc109 := NB354_341.out
                          have hcz110_0 : wc.cell? ⟨gb341, 0, none⟩ = some (.int .i64 t336) := (blk_cell BK341.out 0).trans rfl
                          have hcz110_1 : wc.cell? ⟨gb341, 1, none⟩ = some (.int .i64 t337) := (blk_cell BK341.out 1).trans rfl
                          have hcz110_2 : wc.cell? ⟨gb341, 2, none⟩ = some (.bool false) := (blk_cell BK341.out 2).trans rfl
                          have hcz110_3 : wc.cell? ⟨gb341, 3, none⟩ = some (.bool t339) := (blk_cell BK341.out 3).trans rfl
                          have hfz110_0 := blk_frozen BK341.out 0
                          have hfz110_1 := blk_frozen BK341.out 1
                          have hfz110_2 := blk_frozen BK341.out 2
                          have hfz110_3 := blk_frozen BK341.out 3
                          have hnb111 := NB334_347.out
                          have hnc111 := NB347_334.out
                          have hnb112 := NB334_354.out
                          have hnc112 := NB354_334.out
                          have hcz113_0 : wc.cell? ⟨gb334, 0, none⟩ = some (.int .i64 a1_0) := (blk_cell BK334.out 0).trans rfl
                          have hcz113_1 : wc.cell? ⟨gb334, 1, none⟩ = some (.int .i64 a1_1) := (blk_cell BK334.out 1).trans rfl
                          have hcz113_2 : wc.cell? ⟨gb334, 2, none⟩ = some (.int .i64 a1_2) := (blk_cell BK334.out 2).trans rfl
                          have hfz113_0 := blk_frozen BK334.out 0
                          have hfz113_1 := blk_frozen BK334.out 1
                          have hfz113_2 := blk_frozen BK334.out 2
                          go_wp2
                          repeat (go_quiet (fail); try go_wp2)
                          go_ret
                          exact ⟨by first | rfl | (simp [errW_none, errW_some] <;> rfl) | (simp only [← hji35, ← hji36]; first | rfl | (simp [errW_none, errW_some] <;> rfl)) | (simp [*, errW_none, errW_some] <;> rfl), by repeat (first | (with_reducible first | exact HB.out | apply below_alloc | apply pw_below_drewN | apply below_drew1 | refine below_set ?_ GE334.out | refine below_set ?_ GE341.out | refine below_set ?_ GE347.out | refine below_set ?_ GE354.out) | exact HB.out)⟩
                        · rw [if_neg c106] at H
                          have c106b0 : (a2.toList == ([60] : List UInt8)) = false := beq_eq_false_iff_ne.mpr c106
                          have c106b1 : (a2.toList != ([60] : List UInt8)) = true := bne_iff_ne.mpr c106
                          by_cases c114 : t336 = ji35
                          · rw [if_pos c114] at H
                            have c114b0 : (t336 == ji35) = true := beq_iff_eq.mpr c114
                            have c114b1 : (t336 != ji35) = false := bne_eq_false_iff_eq.mpr c114
                            clear c114
                            by_cases c115 : t339 = true
                            · subst c115
                              have H1 : (some false) = some r := by rw [if_pos rfl] at H; exact H
                              clear H
                              have H := H1
                              clear H1
                              obtain rfl := Option.some.inj H
                              have hnb116 := NB341_334.out
                              have hnc116 := NB334_341.out
                              have hnb117 := NB341_347.out
                              have hnc117 := NB347_341.out
                              have hnb118 := NB341_354.out
                              have hnc118 := NB354_341.out
                              have hcz119_0 : wc.cell? ⟨gb341, 0, none⟩ = some (.int .i64 t336) := (blk_cell BK341.out 0).trans rfl
                              have hcz119_1 : wc.cell? ⟨gb341, 1, none⟩ = some (.int .i64 t337) := (blk_cell BK341.out 1).trans rfl
                              have hcz119_2 : wc.cell? ⟨gb341, 2, none⟩ = some (.bool false) := (blk_cell BK341.out 2).trans rfl
                              have hcz119_3 : wc.cell? ⟨gb341, 3, none⟩ = some (.bool true) := (blk_cell BK341.out 3).trans rfl
                              have hfz119_0 := blk_frozen BK341.out 0
                              have hfz119_1 := blk_frozen BK341.out 1
                              have hfz119_2 := blk_frozen BK341.out 2
                              have hfz119_3 := blk_frozen BK341.out 3
                              have hnb120 := NB334_347.out
                              have hnc120 := NB347_334.out
                              have hnb121 := NB334_354.out
                              have hnc121 := NB354_334.out
                              have hcz122_0 : wc.cell? ⟨gb334, 0, none⟩ = some (.int .i64 a1_0) := (blk_cell BK334.out 0).trans rfl
                              have hcz122_1 : wc.cell? ⟨gb334, 1, none⟩ = some (.int .i64 a1_1) := (blk_cell BK334.out 1).trans rfl
                              have hcz122_2 : wc.cell? ⟨gb334, 2, none⟩ = some (.int .i64 a1_2) := (blk_cell BK334.out 2).trans rfl
                              have hfz122_0 := blk_frozen BK334.out 0
                              have hfz122_1 := blk_frozen BK334.out 1
                              have hfz122_2 := blk_frozen BK334.out 2
                              go_wp2
                              repeat (go_quiet (fail); try go_wp2)
                              go_ret
                              exact ⟨by first | rfl | (simp [errW_none, errW_some] <;> rfl) | (simp only [← hji35, ← hji36]; first | rfl | (simp [errW_none, errW_some] <;> rfl)) | (simp [*, errW_none, errW_some] <;> rfl), by repeat (first | (with_reducible first | exact HB.out | apply below_alloc | apply pw_below_drewN | apply below_drew1 | refine below_set ?_ GE334.out | refine below_set ?_ GE341.out | refine below_set ?_ GE347.out | refine below_set ?_ GE354.out) | exact HB.out)⟩
                            · replace c115 := Bool.eq_false_iff.mpr c115
                              subst c115
                              have H1 : (if t337 ≥ ji36 then (if t337 ≤ (wrap64 (ji36 + 1)) then (some true) else (if t337 = (wrap64 (ji36 - 1)) then (if 0 ≤ (wrap64 (ji36 - 1)) then (if (wrap64 (ji36 - 1)) < (l0.length : Int) then (if (rd l0 (wrap64 (ji36 - 1))) = 10 then (some (a1_2 == 1)) else (some false)) else (none)) else (none)) else (some false))) else (if t337 = (wrap64 (ji36 - 1)) then (if 0 ≤ (wrap64 (ji36 - 1)) then (if (wrap64 (ji36 - 1)) < (l0.length : Int) then (if (rd l0 (wrap64 (ji36 - 1))) = 10 then (some (a1_2 == 1)) else (some false)) else (none)) else (none)) else (some false))) = some r := by rw [if_neg (show ¬ (false = true) by decide)] at H; exact H
                              clear H
                              have H := H1
                              clear H1
                              by_cases c123 : t337 ≥ ji36
                              · rw [if_pos c123] at H
                                have c123b0 : decide (ji36 ≤ t337) = true := decide_eq_true c123
                                clear c123
                                by_cases c124 : t337 ≤ (wrap64 (ji36 + 1))
                                · rw [if_pos c124] at H
                                  have c124b0 : decide (t337 ≤ (wrap64 (ji36 + 1))) = true := decide_eq_true c124
                                  clear c124
                                  obtain rfl := Option.some.inj H
                                  have hnb125 := NB341_334.out
                                  have hnc125 := NB334_341.out
                                  have hnb126 := NB341_347.out
                                  have hnc126 := NB347_341.out
                                  have hnb127 := NB341_354.out
                                  have hnc127 := NB354_341.out
                                  have hcz128_0 : wc.cell? ⟨gb341, 0, none⟩ = some (.int .i64 t336) := (blk_cell BK341.out 0).trans rfl
                                  have hcz128_1 : wc.cell? ⟨gb341, 1, none⟩ = some (.int .i64 t337) := (blk_cell BK341.out 1).trans rfl
                                  have hcz128_2 : wc.cell? ⟨gb341, 2, none⟩ = some (.bool false) := (blk_cell BK341.out 2).trans rfl
                                  have hcz128_3 : wc.cell? ⟨gb341, 3, none⟩ = some (.bool false) := (blk_cell BK341.out 3).trans rfl
                                  have hfz128_0 := blk_frozen BK341.out 0
                                  have hfz128_1 := blk_frozen BK341.out 1
                                  have hfz128_2 := blk_frozen BK341.out 2
                                  have hfz128_3 := blk_frozen BK341.out 3
                                  have hnb129 := NB334_347.out
                                  have hnc129 := NB347_334.out
                                  have hnb130 := NB334_354.out
                                  have hnc130 := NB354_334.out
                                  have hcz131_0 : wc.cell? ⟨gb334, 0, none⟩ = some (.int .i64 a1_0) := (blk_cell BK334.out 0).trans rfl
                                  have hcz131_1 : wc.cell? ⟨gb334, 1, none⟩ = some (.int .i64 a1_1) := (blk_cell BK334.out 1).trans rfl
                                  have hcz131_2 : wc.cell? ⟨gb334, 2, none⟩ = some (.int .i64 a1_2) := (blk_cell BK334.out 2).trans rfl
                                  have hfz131_0 := blk_frozen BK334.out 0
                                  have hfz131_1 := blk_frozen BK334.out 1
                                  have hfz131_2 := blk_frozen BK334.out 2
                                  go_wp2
                                  repeat (go_quiet (fail); try go_wp2)
                                  go_ret
                                  exact ⟨by first | rfl | (simp [errW_none, errW_some] <;> rfl) | (simp only [← hji35, ← hji36]; first | rfl | (simp [errW_none, errW_some] <;> rfl)) | (simp [*, errW_none, errW_some] <;> rfl), by repeat (first | (with_reducible first | exact HB.out | apply below_alloc | apply pw_below_drewN | apply below_drew1 | refine below_set ?_ GE334.out | refine below_set ?_ GE341.out | refine below_set ?_ GE347.out | refine below_set ?_ GE354.out) | exact HB.out)⟩
                                · rw [if_neg c124] at H
                                  have c124b0 : decide (t337 ≤ (wrap64 (ji36 + 1))) = false := decide_eq_false c124
                                  clear c124
                                  by_cases c132 : t337 = (wrap64 (ji36 - 1))
                                  · rw [if_pos c132] at H
                                    have c132b0 : (t337 == (wrap64 (ji36 - 1))) = true := beq_iff_eq.mpr c132
                                    have c132b1 : (t337 != (wrap64 (ji36 - 1))) = false := bne_eq_false_iff_eq.mpr c132
                                    clear c132
                                    obtain ⟨ji133, hji133⟩ : ∃ j_ : Int, (wrap64 (ji36 - 1)) = j_ := ⟨_, rfl⟩
                                    replace H : (if 0 ≤ (ji133) then (if (ji133) < (l0.length : Int) then (if (rd l0 (ji133)) = 10 then (some (a1_2 == 1)) else (some false)) else (none)) else (none)) = some r := by first | (rw [hji133] at H; exact H) | (simp only [hji133] at H ⊢; exact H)
                                    (try rw [hji133] at c132b0)
                                    (try rw [hji133] at c132b1)
                                    have hji133w : (IntKind.i64.wrap (ji36 - 1)) = ji133 := (i64_w _).trans hji133
                                    by_cases c134 : 0 ≤ (ji133)
                                    · rw [if_pos c134] at H
                                      have c134b0 : decide (0 ≤ (ji133)) = true := decide_eq_true c134
                                      clear c134
                                      by_cases c135 : (ji133) < (l0.length : Int)
                                      · rw [if_pos c135] at H
                                        have c135b0 : decide ((ji133) < (l0.length : Int)) = true := decide_eq_true c135
                                        clear c135
                                        by_cases c136 : (rd l0 (ji133)) = 10
                                        · rw [if_pos c136] at H
                                          have c136b0 : ((rd l0 (ji133)) == 10) = true := beq_iff_eq.mpr c136
                                          have c136b1 : ((rd l0 (ji133)) != 10) = false := bne_eq_false_iff_eq.mpr c136
                                          clear c136
                                          obtain rfl := Option.some.inj H
                                          have hnb137 := NB341_334.out
                                          have hnc137 := NB334_341.out
                                          have hnb138 := NB341_347.out
                                          have hnc138 := NB347_341.out
                                          have hnb139 := NB341_354.out
                                          have hnc139 := NB354_341.out
                                          have hcz140_0 : wc.cell? ⟨gb341, 0, none⟩ = some (.int .i64 t336) := (blk_cell BK341.out 0).trans rfl
                                          have hcz140_1 : wc.cell? ⟨gb341, 1, none⟩ = some (.int .i64 t337) := (blk_cell BK341.out 1).trans rfl
                                          have hcz140_2 : wc.cell? ⟨gb341, 2, none⟩ = some (.bool false) := (blk_cell BK341.out 2).trans rfl
                                          have hcz140_3 : wc.cell? ⟨gb341, 3, none⟩ = some (.bool false) := (blk_cell BK341.out 3).trans rfl
                                          have hfz140_0 := blk_frozen BK341.out 0
                                          have hfz140_1 := blk_frozen BK341.out 1
                                          have hfz140_2 := blk_frozen BK341.out 2
                                          have hfz140_3 := blk_frozen BK341.out 3
                                          have hnb141 := NB334_347.out
                                          have hnc141 := NB347_334.out
                                          have hnb142 := NB334_354.out
                                          have hnc142 := NB354_334.out
                                          have hcz143_0 : wc.cell? ⟨gb334, 0, none⟩ = some (.int .i64 a1_0) := (blk_cell BK334.out 0).trans rfl
                                          have hcz143_1 : wc.cell? ⟨gb334, 1, none⟩ = some (.int .i64 a1_1) := (blk_cell BK334.out 1).trans rfl
                                          have hcz143_2 : wc.cell? ⟨gb334, 2, none⟩ = some (.int .i64 a1_2) := (blk_cell BK334.out 2).trans rfl
                                          have hfz143_0 := blk_frozen BK334.out 0
                                          have hfz143_1 := blk_frozen BK334.out 1
                                          have hfz143_2 := blk_frozen BK334.out 2
                                          have p356 : 0 ≤ ((ji133) : Int) := of_decide_eq_true (by first | (with_reducible assumption) | assumption)
                                          have q356 : (ji133) < (l0.length : Int) := of_decide_eq_true (by first | (with_reducible assumption) | assumption)
                                          obtain ⟨ad356, e356, hx356_0⟩ := Kd.at_int HR0.out (ji133) p356 q356
                                          cases e356
                                          replace hx356_0 := (HB.out.cell (World.block_lt_of_cell? w _ hx356_0)).trans hx356_0
                                          replace p356 := eq_true p356
                                          replace q356 := eq_true q356
                                          go_wp2
                                          repeat (go_quiet (fail); try go_wp2)
                                          go_ret
                                          exact ⟨by first | rfl | (simp [errW_none, errW_some] <;> rfl) | (simp only [← hji35, ← hji36, ← hji133]; first | rfl | (simp [errW_none, errW_some] <;> rfl)) | (simp [*, errW_none, errW_some] <;> rfl), by repeat (first | (with_reducible first | exact HB.out | apply below_alloc | apply pw_below_drewN | apply below_drew1 | refine below_set ?_ GE334.out | refine below_set ?_ GE341.out | refine below_set ?_ GE347.out | refine below_set ?_ GE354.out) | exact HB.out)⟩
                                        · rw [if_neg c136] at H
                                          have c136b0 : ((rd l0 (ji133)) == 10) = false := beq_eq_false_iff_ne.mpr c136
                                          have c136b1 : ((rd l0 (ji133)) != 10) = true := bne_iff_ne.mpr c136
                                          obtain rfl := Option.some.inj H
                                          have hnb144 := NB341_334.out
                                          have hnc144 := NB334_341.out
                                          have hnb145 := NB341_347.out
                                          have hnc145 := NB347_341.out
                                          have hnb146 := NB341_354.out
                                          have hnc146 := NB354_341.out
                                          have hcz147_0 : wc.cell? ⟨gb341, 0, none⟩ = some (.int .i64 t336) := (blk_cell BK341.out 0).trans rfl
                                          have hcz147_1 : wc.cell? ⟨gb341, 1, none⟩ = some (.int .i64 t337) := (blk_cell BK341.out 1).trans rfl
                                          have hcz147_2 : wc.cell? ⟨gb341, 2, none⟩ = some (.bool false) := (blk_cell BK341.out 2).trans rfl
                                          have hcz147_3 : wc.cell? ⟨gb341, 3, none⟩ = some (.bool false) := (blk_cell BK341.out 3).trans rfl
                                          have hfz147_0 := blk_frozen BK341.out 0
                                          have hfz147_1 := blk_frozen BK341.out 1
                                          have hfz147_2 := blk_frozen BK341.out 2
                                          have hfz147_3 := blk_frozen BK341.out 3
                                          have hnb148 := NB334_347.out
                                          have hnc148 := NB347_334.out
                                          have hnb149 := NB334_354.out
                                          have hnc149 := NB354_334.out
                                          have hcz150_0 : wc.cell? ⟨gb334, 0, none⟩ = some (.int .i64 a1_0) := (blk_cell BK334.out 0).trans rfl
                                          have hcz150_1 : wc.cell? ⟨gb334, 1, none⟩ = some (.int .i64 a1_1) := (blk_cell BK334.out 1).trans rfl
                                          have hcz150_2 : wc.cell? ⟨gb334, 2, none⟩ = some (.int .i64 a1_2) := (blk_cell BK334.out 2).trans rfl
                                          have hfz150_0 := blk_frozen BK334.out 0
                                          have hfz150_1 := blk_frozen BK334.out 1
                                          have hfz150_2 := blk_frozen BK334.out 2
                                          have p356 : 0 ≤ ((ji133) : Int) := of_decide_eq_true (by first | (with_reducible assumption) | assumption)
                                          have q356 : (ji133) < (l0.length : Int) := of_decide_eq_true (by first | (with_reducible assumption) | assumption)
                                          obtain ⟨ad356, e356, hx356_0⟩ := Kd.at_int HR0.out (ji133) p356 q356
                                          cases e356
                                          replace hx356_0 := (HB.out.cell (World.block_lt_of_cell? w _ hx356_0)).trans hx356_0
                                          replace p356 := eq_true p356
                                          replace q356 := eq_true q356
                                          go_wp2
                                          repeat (go_quiet (fail); try go_wp2)
                                          go_ret
                                          exact ⟨by first | rfl | (simp [errW_none, errW_some] <;> rfl) | (simp only [← hji35, ← hji36, ← hji133]; first | rfl | (simp [errW_none, errW_some] <;> rfl)) | (simp [*, errW_none, errW_some] <;> rfl), by repeat (first | (with_reducible first | exact HB.out | apply below_alloc | apply pw_below_drewN | apply below_drew1 | refine below_set ?_ GE334.out | refine below_set ?_ GE341.out | refine below_set ?_ GE347.out | refine below_set ?_ GE354.out) | exact HB.out)⟩
                                      · rw [if_neg c135] at H
                                        exact absurd H (by simp)
                                    · rw [if_neg c134] at H
                                      exact absurd H (by simp)
                                  · rw [if_neg c132] at H
                                    have c132b0 : (t337 == (wrap64 (ji36 - 1))) = false := beq_eq_false_iff_ne.mpr c132
                                    have c132b1 : (t337 != (wrap64 (ji36 - 1))) = true := bne_iff_ne.mpr c132
                                    obtain rfl := Option.some.inj H
                                    have hnb151 := NB341_334.out
                                    have hnc151 := NB334_341.out
                                    have hnb152 := NB341_347.out
                                    have hnc152 := NB347_341.out
                                    have hnb153 := NB341_354.out
                                    have hnc153 := NB354_341.out
                                    have hcz154_0 : wc.cell? ⟨gb341, 0, none⟩ = some (.int .i64 t336) := (blk_cell BK341.out 0).trans rfl
                                    have hcz154_1 : wc.cell? ⟨gb341, 1, none⟩ = some (.int .i64 t337) := (blk_cell BK341.out 1).trans rfl
                                    have hcz154_2 : wc.cell? ⟨gb341, 2, none⟩ = some (.bool false) := (blk_cell BK341.out 2).trans rfl
                                    have hcz154_3 : wc.cell? ⟨gb341, 3, none⟩ = some (.bool false) := (blk_cell BK341.out 3).trans rfl
                                    have hfz154_0 := blk_frozen BK341.out 0
                                    have hfz154_1 := blk_frozen BK341.out 1
                                    have hfz154_2 := blk_frozen BK341.out 2
                                    have hfz154_3 := blk_frozen BK341.out 3
                                    have hnb155 := NB334_347.out
                                    have hnc155 := NB347_334.out
                                    have hnb156 := NB334_354.out
                                    have hnc156 := NB354_334.out
                                    have hcz157_0 : wc.cell? ⟨gb334, 0, none⟩ = some (.int .i64 a1_0) := (blk_cell BK334.out 0).trans rfl
                                    have hcz157_1 : wc.cell? ⟨gb334, 1, none⟩ = some (.int .i64 a1_1) := (blk_cell BK334.out 1).trans rfl
                                    have hcz157_2 : wc.cell? ⟨gb334, 2, none⟩ = some (.int .i64 a1_2) := (blk_cell BK334.out 2).trans rfl
                                    have hfz157_0 := blk_frozen BK334.out 0
                                    have hfz157_1 := blk_frozen BK334.out 1
                                    have hfz157_2 := blk_frozen BK334.out 2
                                    go_wp2
                                    repeat (go_quiet (fail); try go_wp2)
                                    go_ret
                                    exact ⟨by first | rfl | (simp [errW_none, errW_some] <;> rfl) | (simp only [← hji35, ← hji36]; first | rfl | (simp [errW_none, errW_some] <;> rfl)) | (simp [*, errW_none, errW_some] <;> rfl), by repeat (first | (with_reducible first | exact HB.out | apply below_alloc | apply pw_below_drewN | apply below_drew1 | refine below_set ?_ GE334.out | refine below_set ?_ GE341.out | refine below_set ?_ GE347.out | refine below_set ?_ GE354.out) | exact HB.out)⟩
                              · rw [if_neg c123] at H
                                have c123b0 : decide (ji36 ≤ t337) = false := decide_eq_false c123
                                clear c123
                                by_cases c158 : t337 = (wrap64 (ji36 - 1))
                                · rw [if_pos c158] at H
                                  have c158b0 : (t337 == (wrap64 (ji36 - 1))) = true := beq_iff_eq.mpr c158
                                  have c158b1 : (t337 != (wrap64 (ji36 - 1))) = false := bne_eq_false_iff_eq.mpr c158
                                  clear c158
                                  obtain ⟨ji159, hji159⟩ : ∃ j_ : Int, (wrap64 (ji36 - 1)) = j_ := ⟨_, rfl⟩
                                  replace H : (if 0 ≤ (ji159) then (if (ji159) < (l0.length : Int) then (if (rd l0 (ji159)) = 10 then (some (a1_2 == 1)) else (some false)) else (none)) else (none)) = some r := by first | (rw [hji159] at H; exact H) | (simp only [hji159] at H ⊢; exact H)
                                  (try rw [hji159] at c158b0)
                                  (try rw [hji159] at c158b1)
                                  have hji159w : (IntKind.i64.wrap (ji36 - 1)) = ji159 := (i64_w _).trans hji159
                                  by_cases c160 : 0 ≤ (ji159)
                                  · rw [if_pos c160] at H
                                    have c160b0 : decide (0 ≤ (ji159)) = true := decide_eq_true c160
                                    clear c160
                                    by_cases c161 : (ji159) < (l0.length : Int)
                                    · rw [if_pos c161] at H
                                      have c161b0 : decide ((ji159) < (l0.length : Int)) = true := decide_eq_true c161
                                      clear c161
                                      by_cases c162 : (rd l0 (ji159)) = 10
                                      · rw [if_pos c162] at H
                                        have c162b0 : ((rd l0 (ji159)) == 10) = true := beq_iff_eq.mpr c162
                                        have c162b1 : ((rd l0 (ji159)) != 10) = false := bne_eq_false_iff_eq.mpr c162
                                        clear c162
                                        obtain rfl := Option.some.inj H
                                        have hnb163 := NB341_334.out
                                        have hnc163 := NB334_341.out
                                        have hnb164 := NB341_347.out
                                        have hnc164 := NB347_341.out
                                        have hnb165 := NB341_354.out
                                        have hnc165 := NB354_341.out
                                        have hcz166_0 : wc.cell? ⟨gb341, 0, none⟩ = some (.int .i64 t336) := (blk_cell BK341.out 0).trans rfl
                                        have hcz166_1 : wc.cell? ⟨gb341, 1, none⟩ = some (.int .i64 t337) := (blk_cell BK341.out 1).trans rfl
                                        have hcz166_2 : wc.cell? ⟨gb341, 2, none⟩ = some (.bool false) := (blk_cell BK341.out 2).trans rfl
                                        have hcz166_3 : wc.cell? ⟨gb341, 3, none⟩ = some (.bool false) := (blk_cell BK341.out 3).trans rfl
                                        have hfz166_0 := blk_frozen BK341.out 0
                                        have hfz166_1 := blk_frozen BK341.out 1
                                        have hfz166_2 := blk_frozen BK341.out 2
                                        have hfz166_3 := blk_frozen BK341.out 3
                                        have hnb167 := NB334_347.out
                                        have hnc167 := NB347_334.out
                                        have hnb168 := NB334_354.out
                                        have hnc168 := NB354_334.out
                                        have hcz169_0 : wc.cell? ⟨gb334, 0, none⟩ = some (.int .i64 a1_0) := (blk_cell BK334.out 0).trans rfl
                                        have hcz169_1 : wc.cell? ⟨gb334, 1, none⟩ = some (.int .i64 a1_1) := (blk_cell BK334.out 1).trans rfl
                                        have hcz169_2 : wc.cell? ⟨gb334, 2, none⟩ = some (.int .i64 a1_2) := (blk_cell BK334.out 2).trans rfl
                                        have hfz169_0 := blk_frozen BK334.out 0
                                        have hfz169_1 := blk_frozen BK334.out 1
                                        have hfz169_2 := blk_frozen BK334.out 2
                                        have p357 : 0 ≤ ((ji159) : Int) := of_decide_eq_true (by first | (with_reducible assumption) | assumption)
                                        have q357 : (ji159) < (l0.length : Int) := of_decide_eq_true (by first | (with_reducible assumption) | assumption)
                                        obtain ⟨ad357, e357, hx357_0⟩ := Kd.at_int HR0.out (ji159) p357 q357
                                        cases e357
                                        replace hx357_0 := (HB.out.cell (World.block_lt_of_cell? w _ hx357_0)).trans hx357_0
                                        replace p357 := eq_true p357
                                        replace q357 := eq_true q357
                                        go_wp2
                                        repeat (go_quiet (fail); try go_wp2)
                                        go_ret
                                        exact ⟨by first | rfl | (simp [errW_none, errW_some] <;> rfl) | (simp only [← hji35, ← hji36, ← hji159]; first | rfl | (simp [errW_none, errW_some] <;> rfl)) | (simp [*, errW_none, errW_some] <;> rfl), by repeat (first | (with_reducible first | exact HB.out | apply below_alloc | apply pw_below_drewN | apply below_drew1 | refine below_set ?_ GE334.out | refine below_set ?_ GE341.out | refine below_set ?_ GE347.out | refine below_set ?_ GE354.out) | exact HB.out)⟩
                                      · rw [if_neg c162] at H
                                        have c162b0 : ((rd l0 (ji159)) == 10) = false := beq_eq_false_iff_ne.mpr c162
                                        have c162b1 : ((rd l0 (ji159)) != 10) = true := bne_iff_ne.mpr c162
                                        obtain rfl := Option.some.inj H
                                        have hnb170 := NB341_334.out
                                        have hnc170 := NB334_341.out
                                        have hnb171 := NB341_347.out
                                        have hnc171 := NB347_341.out
                                        have hnb172 := NB341_354.out
                                        have hnc172 := NB354_341.out
                                        have hcz173_0 : wc.cell? ⟨gb341, 0, none⟩ = some (.int .i64 t336) := (blk_cell BK341.out 0).trans rfl
                                        have hcz173_1 : wc.cell? ⟨gb341, 1, none⟩ = some (.int .i64 t337) := (blk_cell BK341.out 1).trans rfl
                                        have hcz173_2 : wc.cell? ⟨gb341, 2, none⟩ = some (.bool false) := (blk_cell BK341.out 2).trans rfl
                                        have hcz173_3 : wc.cell? ⟨gb341, 3, none⟩ = some (.bool false) := (blk_cell BK341.out 3).trans rfl
                                        have hfz173_0 := blk_frozen BK341.out 0
                                        have hfz173_1 := blk_frozen BK341.out 1
                                        have hfz173_2 := blk_frozen BK341.out 2
                                        have hfz173_3 := blk_frozen BK341.out 3
                                        have hnb174 := NB334_347.out
                                        have hnc174 := NB347_334.out
                                        have hnb175 := NB334_354.out
                                        have hnc175 := NB354_334.out
                                        have hcz176_0 : wc.cell? ⟨gb334, 0, none⟩ = some (.int .i64 a1_0) := (blk_cell BK334.out 0).trans rfl
                                        have hcz176_1 : wc.cell? ⟨gb334, 1, none⟩ = some (.int .i64 a1_1) := (blk_cell BK334.out 1).trans rfl
                                        have hcz176_2 : wc.cell? ⟨gb334, 2, none⟩ = some (.int .i64 a1_2) := (blk_cell BK334.out 2).trans rfl
                                        have hfz176_0 := blk_frozen BK334.out 0
                                        have hfz176_1 := blk_frozen BK334.out 1
                                        have hfz176_2 := blk_frozen BK334.out 2
                                        have p357 : 0 ≤ ((ji159) : Int) := of_decide_eq_true (by first | (with_reducible assumption) | assumption)
                                        have q357 : (ji159) < (l0.length : Int) := of_decide_eq_true (by first | (with_reducible assumption) | assumption)
                                        obtain ⟨ad357, e357, hx357_0⟩ := Kd.at_int HR0.out (ji159) p357 q357
                                        cases e357
                                        replace hx357_0 := (HB.out.cell (World.block_lt_of_cell? w _ hx357_0)).trans hx357_0
                                        replace p357 := eq_true p357
                                        replace q357 := eq_true q357
                                        go_wp2
                                        repeat (go_quiet (fail); try go_wp2)
                                        go_ret
                                        exact ⟨by first | rfl | (simp [errW_none, errW_some] <;> rfl) | (simp only [← hji35, ← hji36, ← hji159]; first | rfl | (simp [errW_none, errW_some] <;> rfl)) | (simp [*, errW_none, errW_some] <;> rfl), by repeat (first | (with_reducible first | exact HB.out | apply below_alloc | apply pw_below_drewN | apply below_drew1 | refine below_set ?_ GE334.out | refine below_set ?_ GE341.out | refine below_set ?_ GE347.out | refine below_set ?_ GE354.out) | exact HB.out)⟩
                                    · rw [if_neg c161] at H
                                      exact absurd H (by simp)
                                  · rw [if_neg c160] at H
                                    exact absurd H (by simp)
                                · rw [if_neg c158] at H
                                  have c158b0 : (t337 == (wrap64 (ji36 - 1))) = false := beq_eq_false_iff_ne.mpr c158
                                  have c158b1 : (t337 != (wrap64 (ji36 - 1))) = true := bne_iff_ne.mpr c158
                                  obtain rfl := Option.some.inj H
                                  have hnb177 := NB341_334.out
                                  have hnc177 := NB334_341.out
                                  have hnb178 := NB341_347.out
                                  have hnc178 := NB347_341.out
                                  have hnb179 := NB341_354.out
                                  have hnc179 := NB354_341.out
                                  have hcz180_0 : wc.cell? ⟨gb341, 0, none⟩ = some (.int .i64 t336) := (blk_cell BK341.out 0).trans rfl
                                  have hcz180_1 : wc.cell? ⟨gb341, 1, none⟩ = some (.int .i64 t337) := (blk_cell BK341.out 1).trans rfl
                                  have hcz180_2 : wc.cell? ⟨gb341, 2, none⟩ = some (.bool false) := (blk_cell BK341.out 2).trans rfl
                                  have hcz180_3 : wc.cell? ⟨gb341, 3, none⟩ = some (.bool false) := (blk_cell BK341.out 3).trans rfl
                                  have hfz180_0 := blk_frozen BK341.out 0
                                  have hfz180_1 := blk_frozen BK341.out 1
                                  have hfz180_2 := blk_frozen BK341.out 2
                                  have hfz180_3 := blk_frozen BK341.out 3
                                  have hnb181 := NB334_347.out
                                  have hnc181 := NB347_334.out
                                  have hnb182 := NB334_354.out
                                  have hnc182 := NB354_334.out
                                  have hcz183_0 : wc.cell? ⟨gb334, 0, none⟩ = some (.int .i64 a1_0) := (blk_cell BK334.out 0).trans rfl
                                  have hcz183_1 : wc.cell? ⟨gb334, 1, none⟩ = some (.int .i64 a1_1) := (blk_cell BK334.out 1).trans rfl
                                  have hcz183_2 : wc.cell? ⟨gb334, 2, none⟩ = some (.int .i64 a1_2) := (blk_cell BK334.out 2).trans rfl
                                  have hfz183_0 := blk_frozen BK334.out 0
                                  have hfz183_1 := blk_frozen BK334.out 1
                                  have hfz183_2 := blk_frozen BK334.out 2
                                  go_wp2
                                  repeat (go_quiet (fail); try go_wp2)
                                  go_ret
                                  exact ⟨by first | rfl | (simp [errW_none, errW_some] <;> rfl) | (simp only [← hji35, ← hji36]; first | rfl | (simp [errW_none, errW_some] <;> rfl)) | (simp [*, errW_none, errW_some] <;> rfl), by repeat (first | (with_reducible first | exact HB.out | apply below_alloc | apply pw_below_drewN | apply below_drew1 | refine below_set ?_ GE334.out | refine below_set ?_ GE341.out | refine below_set ?_ GE347.out | refine below_set ?_ GE354.out) | exact HB.out)⟩
                          · rw [if_neg c114] at H
                            have c114b0 : (t336 == ji35) = false := beq_eq_false_iff_ne.mpr c114
                            have c114b1 : (t336 != ji35) = true := bne_iff_ne.mpr c114
                            obtain rfl := Option.some.inj H
                            have hnb184 := NB341_334.out
                            have hnc184 := NB334_341.out
                            have hnb185 := NB341_347.out
                            have hnc185 := NB347_341.out
                            have hnb186 := NB341_354.out
                            have hnc186 := NB354_341.out
                            have hcz187_0 : wc.cell? ⟨gb341, 0, none⟩ = some (.int .i64 t336) := (blk_cell BK341.out 0).trans rfl
                            have hcz187_1 : wc.cell? ⟨gb341, 1, none⟩ = some (.int .i64 t337) := (blk_cell BK341.out 1).trans rfl
                            have hcz187_2 : wc.cell? ⟨gb341, 2, none⟩ = some (.bool false) := (blk_cell BK341.out 2).trans rfl
                            have hcz187_3 : wc.cell? ⟨gb341, 3, none⟩ = some (.bool t339) := (blk_cell BK341.out 3).trans rfl
                            have hfz187_0 := blk_frozen BK341.out 0
                            have hfz187_1 := blk_frozen BK341.out 1
                            have hfz187_2 := blk_frozen BK341.out 2
                            have hfz187_3 := blk_frozen BK341.out 3
                            have hnb188 := NB334_347.out
                            have hnc188 := NB347_334.out
                            have hnb189 := NB334_354.out
                            have hnc189 := NB354_334.out
                            have hcz190_0 : wc.cell? ⟨gb334, 0, none⟩ = some (.int .i64 a1_0) := (blk_cell BK334.out 0).trans rfl
                            have hcz190_1 : wc.cell? ⟨gb334, 1, none⟩ = some (.int .i64 a1_1) := (blk_cell BK334.out 1).trans rfl
                            have hcz190_2 : wc.cell? ⟨gb334, 2, none⟩ = some (.int .i64 a1_2) := (blk_cell BK334.out 2).trans rfl
                            have hfz190_0 := blk_frozen BK334.out 0
                            have hfz190_1 := blk_frozen BK334.out 1
                            have hfz190_2 := blk_frozen BK334.out 2
                            go_wp2
                            repeat (go_quiet (fail); try go_wp2)
                            go_ret
                            exact ⟨by first | rfl | (simp [errW_none, errW_some] <;> rfl) | (simp only [← hji35, ← hji36]; first | rfl | (simp [errW_none, errW_some] <;> rfl)) | (simp [*, errW_none, errW_some] <;> rfl), by repeat (first | (with_reducible first | exact HB.out | apply below_alloc | apply pw_below_drewN | apply below_drew1 | refine below_set ?_ GE334.out | refine below_set ?_ GE341.out | refine below_set ?_ GE347.out | refine below_set ?_ GE354.out) | exact HB.out)⟩
          · rw [if_neg c34] at H
            have c34b0 : (t340 == 0) = false := beq_eq_false_iff_ne.mpr c34
            have c34b1 : (t340 != 0) = true := bne_iff_ne.mpr c34
            obtain rfl := Option.some.inj H
            have hnb191 := NB341_334.out
            have hnc191 := NB334_341.out
            have hnb192 := NB341_347.out
            have hnc192 := NB347_341.out
            have hcz193_0 : wc.cell? ⟨gb341, 0, none⟩ = some (.int .i64 t336) := (blk_cell BK341.out 0).trans rfl
            have hcz193_1 : wc.cell? ⟨gb341, 1, none⟩ = some (.int .i64 t337) := (blk_cell BK341.out 1).trans rfl
            have hcz193_2 : wc.cell? ⟨gb341, 2, none⟩ = some (.bool t338) := (blk_cell BK341.out 2).trans rfl
            have hcz193_3 : wc.cell? ⟨gb341, 3, none⟩ = some (.bool t339) := (blk_cell BK341.out 3).trans rfl
            have hfz193_0 := blk_frozen BK341.out 0
            have hfz193_1 := blk_frozen BK341.out 1
            have hfz193_2 := blk_frozen BK341.out 2
            have hfz193_3 := blk_frozen BK341.out 3
            go_wp2
            repeat (go_quiet (fail); try go_wp2)
            go_ret
            exact ⟨by first | rfl | (simp [errW_none, errW_some] <;> rfl) | (simp [*, errW_none, errW_some] <;> rfl), by repeat (first | (with_reducible first | exact HB.out | apply below_alloc | apply pw_below_drewN | apply below_drew1 | refine below_set ?_ GE334.out | refine below_set ?_ GE341.out | refine below_set ?_ GE347.out) | exact HB.out)⟩
  · replace c5 := Bool.eq_false_iff.mpr c5
    subst c5
    have H1 : (some false) = some r := by rw [if_neg (show ¬ (false = true) by decide)] at H; exact H
    clear H
    have H := H1
    clear H1
    obtain rfl := Option.some.inj H
    go_enter Try.func6, Try.ntmps6
    go_wp2_with (first | ((with_reducible refine gate_dst (N := 4) rfl ?_); (try (refine gate_guard (by rfl) ?_; dsimp only)); refine box_event ?hg (N := 4) ?hd (cs := #[.int .i64 a1_0, .int .i64 a1_1, .int .i64 a1_2]) (t := 24) ?hr ?_; (case hd => rfl); (case hg => rfl); (case hr => first | (go_simp; done) | (go_simp; rfl)); intro gb334 hg w194 hbox hb; have n0_ := Aside0.mk (below_step (by repeat (first | (with_reducible first | exact HB.out | apply below_alloc | apply pw_below_drewN | apply below_drew1) | exact HB.out)) hb); have n1_ := Aside0.mk (hbox); have n2_ := Aside0.mk ((by rw [hg]; exact (below_size (by repeat (first | (with_reducible first | exact HB.out | apply below_alloc | apply pw_below_drewN | apply below_drew1) | exact HB.out))) : w.heap.size ≤ gb334)); have n3_ := Aside0.mk ((by rw [hg]; exact (below_size (by repeat (first | (with_reducible first | exact HB.out | apply below_alloc | apply pw_below_drewN | apply below_drew1) | exact HB.out))) : w.heap.size ≤ gb334)); clear HB; have HB := n0_; have BK334 := n1_; have GW334 := n2_; have GE334 := n3_; clear n0_ n1_ n2_ n3_; clear hb hbox hg) | (go_at_call 7; (with_reducible refine (quoinlaw14_alive.calls k  false _ A4.out).mono ?_); rintro e w195 ⟨rfl, hb⟩; have n0_ := Aside0.mk (blk_below (g := gb334) (o := .cells #[.int .i64 a1_0, .int .i64 a1_1, .int .i64 a1_2] 24 (0, 0)) (by (with_reducible repeat (first | refine blk_drewN ?_ _ | refine blk_drew ?_ | refine blk_alloc ?_ _)); exact BK334.out) hb); have n1_ := Aside0.mk (below_step (by repeat (first | (with_reducible first | exact HB.out | apply below_alloc | apply pw_below_drewN | apply below_drew1 | refine below_set ?_ GE334.out) | exact HB.out)) hb); clear BK334; clear HB; have BK334 := n0_; have HB := n1_; clear n0_ n1_; (try clear hb); (try clear hb2); (try clear hk); (try clear hi)))
    repeat (go_quiet (first | ((with_reducible refine gate_dst (N := 4) rfl ?_); (try (refine gate_guard (by rfl) ?_; dsimp only)); refine box_event ?hg (N := 4) ?hd (cs := #[.int .i64 a1_0, .int .i64 a1_1, .int .i64 a1_2]) (t := 24) ?hr ?_; (case hd => rfl); (case hg => rfl); (case hr => first | (go_simp; done) | (go_simp; rfl)); intro gb334 hg w194 hbox hb; have n0_ := Aside0.mk (below_step (by repeat (first | (with_reducible first | exact HB.out | apply below_alloc | apply pw_below_drewN | apply below_drew1) | exact HB.out)) hb); have n1_ := Aside0.mk (hbox); have n2_ := Aside0.mk ((by rw [hg]; exact (below_size (by repeat (first | (with_reducible first | exact HB.out | apply below_alloc | apply pw_below_drewN | apply below_drew1) | exact HB.out))) : w.heap.size ≤ gb334)); have n3_ := Aside0.mk ((by rw [hg]; exact (below_size (by repeat (first | (with_reducible first | exact HB.out | apply below_alloc | apply pw_below_drewN | apply below_drew1) | exact HB.out))) : w.heap.size ≤ gb334)); clear HB; have HB := n0_; have BK334 := n1_; have GW334 := n2_; have GE334 := n3_; clear n0_ n1_ n2_ n3_; clear hb hbox hg) | (go_at_call 7; (with_reducible refine (quoinlaw14_alive.calls k  false _ A4.out).mono ?_); rintro e w195 ⟨rfl, hb⟩; have n0_ := Aside0.mk (blk_below (g := gb334) (o := .cells #[.int .i64 a1_0, .int .i64 a1_1, .int .i64 a1_2] 24 (0, 0)) (by (with_reducible repeat (first | refine blk_drewN ?_ _ | refine blk_drew ?_ | refine blk_alloc ?_ _)); exact BK334.out) hb); have n1_ := Aside0.mk (below_step (by repeat (first | (with_reducible first | exact HB.out | apply below_alloc | apply pw_below_drewN | apply below_drew1 | refine below_set ?_ GE334.out) | exact HB.out)) hb); clear BK334; clear HB; have BK334 := n0_; have HB := n1_; clear n0_ n1_; (try clear hb); (try clear hb2); (try clear hk); (try clear hi))); try go_wp2_with (first | ((with_reducible refine gate_dst (N := 4) rfl ?_); (try (refine gate_guard (by rfl) ?_; dsimp only)); refine box_event ?hg (N := 4) ?hd (cs := #[.int .i64 a1_0, .int .i64 a1_1, .int .i64 a1_2]) (t := 24) ?hr ?_; (case hd => rfl); (case hg => rfl); (case hr => first | (go_simp; done) | (go_simp; rfl)); intro gb334 hg w194 hbox hb; have n0_ := Aside0.mk (below_step (by repeat (first | (with_reducible first | exact HB.out | apply below_alloc | apply pw_below_drewN | apply below_drew1) | exact HB.out)) hb); have n1_ := Aside0.mk (hbox); have n2_ := Aside0.mk ((by rw [hg]; exact (below_size (by repeat (first | (with_reducible first | exact HB.out | apply below_alloc | apply pw_below_drewN | apply below_drew1) | exact HB.out))) : w.heap.size ≤ gb334)); have n3_ := Aside0.mk ((by rw [hg]; exact (below_size (by repeat (first | (with_reducible first | exact HB.out | apply below_alloc | apply pw_below_drewN | apply below_drew1) | exact HB.out))) : w.heap.size ≤ gb334)); clear HB; have HB := n0_; have BK334 := n1_; have GW334 := n2_; have GE334 := n3_; clear n0_ n1_ n2_ n3_; clear hb hbox hg) | (go_at_call 7; (with_reducible refine (quoinlaw14_alive.calls k  false _ A4.out).mono ?_); rintro e w195 ⟨rfl, hb⟩; have n0_ := Aside0.mk (blk_below (g := gb334) (o := .cells #[.int .i64 a1_0, .int .i64 a1_1, .int .i64 a1_2] 24 (0, 0)) (by (with_reducible repeat (first | refine blk_drewN ?_ _ | refine blk_drew ?_ | refine blk_alloc ?_ _)); exact BK334.out) hb); have n1_ := Aside0.mk (below_step (by repeat (first | (with_reducible first | exact HB.out | apply below_alloc | apply pw_below_drewN | apply below_drew1 | refine below_set ?_ GE334.out) | exact HB.out)) hb); clear BK334; clear HB; have BK334 := n0_; have HB := n1_; clear n0_ n1_; (try clear hb); (try clear hb2); (try clear hk); (try clear hi))))
    go_ret
    exact ⟨by first | rfl | (simp [errW_none, errW_some] <;> rfl) | (simp [*, errW_none, errW_some] <;> rfl), by repeat (first | (with_reducible first | exact HB.out | apply below_alloc | apply pw_below_drewN | apply below_drew1 | refine below_set ?_ GE334.out) | exact HB.out)⟩

end Go.Proofs.Ytlcdnpecoaamcaa.X
