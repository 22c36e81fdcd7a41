-- Written by wip/xprint.py over the kit's print.py: the Lean function of each Go function, and the proof that the Go text comes to it.
import Derived.Test.YtdhdngoeaneanaaDoorX0
import Derived.Test.YtdhdngoeaneanaaDoorX2
import Derived.Test.YtdhdngoeaneanaaDoorX6
namespace Go.Proofs.YtdhdngoeaneanaaDoor.X
open Go.RowKit Go.Proofs.YtdhdngoeaneanaaDoorW.PrintWords Go.Proofs.YtdhdngoeaneanaaDoorW.PrintLast Go.Proofs.YtdhdngoeaneanaaDoorW.PrintMore
attribute [local go_sem] max2_int min2_int max_two min_two max_three min_three max_four min_four   -- for this text's walks alone
set_option linter.unusedVariables false
set_option linter.unusedSimpArgs false

/-! ### address_Parse: function 12 -/
mutual
def address_Parse.l0 : Nat → List Int → Int → Int → Int → Int → List Int → Int → Bool → Option (Int × Int × Int × List Int × Int × Bool × Int × Int)
  | 0, _, _, _, _, _, _, _, _ => none
  | k + 1, x0, x6, x139000, x139001, x139002, x139003, x139004, x139005 => if x6 < (x0.length : Int) then (if 0 ≤ x6 then (if (rd x0 x6) = 43 then (address_Parse.j1 k x0 x6 true x139000 x139001 x139002 x139003 x139004 x139005) else (address_Parse.j1 k x0 x6 ((rd x0 x6) == 45) x139000 x139001 x139002 x139003 x139004 x139005)) else (none)) else (address_Parse.j1 k x0 x6 false x139000 x139001 x139002 x139003 x139004 x139005)
def address_Parse.j1 : Nat → List Int → Int → Bool → Int → Int → Int → List Int → Int → Bool → Option (Int × Int × Int × List Int × Int × Bool × Int × Int)
  | 0, _, _, _, _, _, _, _, _, _ => none
  | k + 1, x0, x6, x38, x139000, x139001, x139002, x139003, x139004, x139005 => if x38 = true then (if 0 ≤ (wrap64 (x6 + 1)) then (if (wrap64 (x6 + 1)) ≤ (x0.length : Int) then ((address_number.f k (x0.drop ((wrap64 (x6 + 1)) : Int).toNat)).bind fun bt142 => (if bt142.2.2 = true then (if bt142.2.1 = 0 then (if 0 ≤ x6 then (if x6 < (x0.length : Int) then (if (rd x0 x6) = 45 then (address_Parse.l0 k x0 (wrap64 (x6 + (wrap64 (1 + bt142.2.1)))) x139000 x139001 x139002 x139003 (wrap64 (x139004 + (-1))) true) else (address_Parse.l0 k x0 (wrap64 (x6 + (wrap64 (1 + bt142.2.1)))) x139000 x139001 x139002 x139003 (wrap64 (x139004 + 1)) true)) else (none)) else (none)) else (if 0 ≤ x6 then (if x6 < (x0.length : Int) then (if (rd x0 x6) = 45 then (address_Parse.l0 k x0 (wrap64 (x6 + (wrap64 (1 + bt142.2.1)))) x139000 x139001 x139002 x139003 (wrap64 (x139004 + (wrap64 (-bt142.1)))) true) else (address_Parse.l0 k x0 (wrap64 (x6 + (wrap64 (1 + bt142.2.1)))) x139000 x139001 x139002 x139003 (wrap64 (x139004 + bt142.1)) true)) else (none)) else (none))) else (some (0, 0, 0, ([] : List Int), 0, false, 0, 230)))) else (none)) else (none)) else (if x139004 < (-999999999) then (some (0, 0, 0, ([] : List Int), 0, false, 0, 230)) else (if x139004 > 999999999 then (some (0, 0, 0, ([] : List Int), 0, false, 0, 230)) else (some (x139000, x139001, x139002, x139003, x139004, x139005, x6, 0))))
end
def address_Parse.f (k : Nat) (l0 : List Int) : Option (Int × Int × Int × List Int × Int × Bool × Int × Int) := (address_base.f k l0).bind fun bt128 => (if bt128.2.2.2.2.2.2.2 = 0 then (address_Parse.l0 k l0 bt128.2.2.2.2.2.2.1 bt128.1 bt128.2.1 bt128.2.2.1 bt128.2.2.2.1 bt128.2.2.2.2.1 bt128.2.2.2.2.2.1) else (some (0, 0, 0, ([] : List Int), 0, false, 0, bt128.2.2.2.2.2.2.2)))
theorem address_Parse.mono_l : ∀ k, (∀ y0 y1 y2 y3 y4 y5 y6 y7, LeO (address_Parse.l0 k y0 y1 y2 y3 y4 y5 y6 y7) (address_Parse.l0 (k + 1) y0 y1 y2 y3 y4 y5 y6 y7)) ∧ (∀ y0 y1 y2 y3 y4 y5 y6 y7 y8, LeO (address_Parse.j1 k y0 y1 y2 y3 y4 y5 y6 y7 y8) (address_Parse.j1 (k + 1) y0 y1 y2 y3 y4 y5 y6 y7 y8))
  | 0 => ⟨fun _ _ _ _ _ _ _ _ r h => by simp [address_Parse.l0] at h, fun _ _ _ _ _ _ _ _ _ r h => by simp [address_Parse.j1] at h⟩
  | k + 1 => by
    obtain ⟨ih0, ih1⟩ := address_Parse.mono_l k
    refine ⟨?_, ?_⟩
    · intro y0 y1 y2 y3 y4 y5 y6 y7
      unfold address_Parse.l0
      repeat' first
      | (with_reducible exact ih0 _ _ _ _ _ _ _ _)
      | (with_reducible exact ih1 _ _ _ _ _ _ _ _ _)
      | (with_reducible exact address_base.mono _ _)
      | (with_reducible exact address_number.mono _ _)
      | (with_reducible exact LeO.refl _)
      | (with_reducible exact LeO.none _)
      | (with_reducible refine LeO.ite ?_ ?_)
      | (with_reducible refine LeO.bind ?_ (fun _ => ?_))
      | exact ih0 _ _ _ _ _ _ _ _
      | exact ih1 _ _ _ _ _ _ _ _ _
      | exact address_base.mono _ _
      | exact address_number.mono _ _
      | exact LeO.none _
      | refine LeO.ite ?_ ?_
      | refine LeO.bind ?_ (fun _ => ?_)
    · intro y0 y1 y2 y3 y4 y5 y6 y7 y8
      unfold address_Parse.j1
      repeat' first
      | (with_reducible exact ih0 _ _ _ _ _ _ _ _)
      | (with_reducible exact ih1 _ _ _ _ _ _ _ _ _)
      | (with_reducible exact address_base.mono _ _)
      | (with_reducible exact address_number.mono _ _)
      | (with_reducible exact LeO.refl _)
      | (with_reducible exact LeO.none _)
      | (with_reducible refine LeO.ite ?_ ?_)
      | (with_reducible refine LeO.bind ?_ (fun _ => ?_))
      | exact ih0 _ _ _ _ _ _ _ _
      | exact ih1 _ _ _ _ _ _ _ _ _
      | exact address_base.mono _ _
      | exact address_number.mono _ _
      | exact LeO.none _
      | refine LeO.ite ?_ ?_
      | refine LeO.bind ?_ (fun _ => ?_)
theorem address_Parse.mono : ∀ a0 k, LeO (address_Parse.f k a0) (address_Parse.f (k + 1) a0) := by
  intro a0 k
  obtain ⟨ih0, ih1⟩ := address_Parse.mono_l k
  unfold address_Parse.f
  repeat' first
      | (with_reducible exact ih0 _ _ _ _ _ _ _ _)
      | (with_reducible exact ih1 _ _ _ _ _ _ _ _ _)
      | (with_reducible exact address_base.mono _ _)
      | (with_reducible exact address_number.mono _ _)
      | (with_reducible exact LeO.refl _)
      | (with_reducible exact LeO.none _)
      | (with_reducible refine LeO.ite ?_ ?_)
      | (with_reducible refine LeO.bind ?_ (fun _ => ?_))
      | exact ih0 _ _ _ _ _ _ _ _
      | exact ih1 _ _ _ _ _ _ _ _ _
      | exact address_base.mono _ _
      | exact address_number.mono _ _
      | exact LeO.none _
      | refine LeO.ite ?_ ?_
      | refine LeO.bind ?_ (fun _ => ?_)
set_option maxHeartbeats 8000000 in
set_option maxRecDepth 100000 in
theorem address_Parse.calls (k : Nat) (A0 : Option Addr) (c0 : Nat) (l0 : List Int) (r1 : Int) (r2 : Int) (r3 : Int) (r4 : List Int) (r5 : Int) (r6 : Bool) (r7 : Int) (r8 : Int) (w : World) (hr0 : Kd.C (Kd.int .u8) w A0 l0.length l0) (hc0 : l0.length ≤ c0) (h : address_Parse.f k l0 = some (r1, r2, r3, r4, r5, r6, r7, r8)) :
    Calls Tryd.prog 12 #[.slice A0 l0.length c0] w fun e w' => ∃ v3_ : Value, e = .returned (.tuple #[.agg #[.int .u8 r1, .int .i64 r2, .int .u8 r3, v3_, .int .i64 r5, .bool r6], .int .i64 r7, .int .i64 r8]) ∧ Kd.R (Kd.int .u8) 5 w' w.heap.size (fun _ => True) v3_ r4 ∧ Below w.heap.size w w' := by
  have hu25 := Tryd.underlying25
  have HR0 := Aside0.mk hr0
  have HC0 := Aside0.mk hc0
  clear hr0 hc0
  have HB := Aside0.mk (Below.refl w.heap.size w)
  have H : ((address_base.f k l0).bind fun bt128 => (if bt128.2.2.2.2.2.2.2 = 0 then (address_Parse.l0 k l0 bt128.2.2.2.2.2.2.1 bt128.1 bt128.2.1 bt128.2.2.1 bt128.2.2.2.1 bt128.2.2.2.2.1 bt128.2.2.2.2.2.1) else (some (0, 0, 0, ([] : List Int), 0, false, 0, bt128.2.2.2.2.2.2.2)))) = some (r1, r2, r3, r4, r5, r6, r7, r8) := h
  clear h
  replace H := Option.bind_eq_some_iff.mp H
  obtain ⟨⟨t128, t129, t130, t131, t134, t135, t136, t137⟩, A20, H⟩ := H
  replace H : (if t137 = 0 then (address_Parse.l0 k l0 t136 t128 t129 t130 t131 t134 t135) else (some (0, 0, 0, ([] : List Int), 0, false, 0, t137))) = some (r1, r2, r3, r4, r5, r6, r7, r8) := H
  have A2 := Aside0.mk A20
  clear A20
  by_cases c3 : t137 = 0
  · rw [if_pos c3] at H
    have c3b0 : (t137 == 0) = true := beq_iff_eq.mpr c3
    have c3b1 : (t137 != 0) = false := bne_eq_false_iff_eq.mpr c3
    clear c3
    have H' := Aside0.mk H
    clear H
    go_enter Tryd.func12, Tryd.ntmps12
    go_wp2_with (first | ((with_reducible refine gate_dst (N := 2) rfl ?_); refine box_event ?hg (N := 2) ?hd (cs := #[.int .u8 0, .int .i64 0, .int .u8 0, .slice none 0 0, .int .i64 0, .bool false]) (t := 25) ?hr ?_; (case hd => rfl); (case hg => rfl); (case hr => first | (go_simp; done) | (go_simp; rfl)); intro gb127 hg w4 hbox hb; have n0_ := Aside0.mk (below_step (by repeat (first | (with_reducible first | exact HB.out | apply below_alloc | apply pw_below_drewN | apply below_drew1) | exact HB.out)) hb); have n1_ := Aside0.mk (hbox); have n2_ := Aside0.mk ((by rw [hg]; exact (below_size (by repeat (first | (with_reducible first | exact HB.out | apply below_alloc | apply pw_below_drewN | apply below_drew1) | exact HB.out))) : w.heap.size ≤ gb127)); have n3_ := Aside0.mk ((by rw [hg]; exact (below_size (by repeat (first | (with_reducible first | exact HB.out | apply below_alloc | apply pw_below_drewN | apply below_drew1) | exact HB.out))) : w.heap.size ≤ gb127)); clear HB; have HB := n0_; have BK127 := n1_; have GW127 := n2_; have GE127 := n3_; clear n0_ n1_ n2_ n3_; clear hb hbox hg) | ((with_reducible refine gate_callee (f := 25) rfl ?_); refine goesL_ (some 13) rfl rfl Tryd.func25 (by kernel_rfl) rfl #[.slice A0 l0.length c0] rfl (by (try simp only [List.map_toArray, List.map_cons, List.map_nil]); first | done | rfl | (simp only [List.length_drop, List.length_take]; rfl)) ?_; (with_reducible refine (address_base.calls k _ _ l0 t128 t129 t130 t131 t134 t135 t136 t137 _ ?side1 ?side2 A2.out).mono ?_); (case side1 => repeat (first | exact (Kd.C_below HR0.out HB.out) | (with_reducible refine Kd.C_alloc ?_ _) | (with_reducible refine Kd.C_drewN ?_ _) | (with_reducible refine Kd.C_drew ?_))); (case side2 => exact HC0.out); rintro e w5 ⟨v132, rfl, ho0, hb⟩; refine ⟨_, rfl, ?_⟩; have n0_ := Aside0.mk (Kd.R_lower ho0 (below_size (by repeat (first | (with_reducible first | exact HB.out | apply below_alloc | apply pw_below_drewN | apply below_drew1 | refine below_set ?_ GE127.out) | exact HB.out)))); have n1_ := Aside0.mk (blk_below (g := gb127) (o := .cells #[.int .u8 0, .int .i64 0, .int .u8 0, .slice none 0 0, .int .i64 0, .bool false] 25 (0, 0)) (by (with_reducible repeat (first | refine blk_drewN ?_ _ | refine blk_drew ?_ | refine blk_alloc ?_ _)); exact BK127.out) hb); have n2_ := Aside0.mk (below_step (by repeat (first | (with_reducible first | exact HB.out | apply below_alloc | apply pw_below_drewN | apply below_drew1 | refine below_set ?_ GE127.out) | exact HB.out)) hb); clear BK127; clear HB; have HO133 := n0_; have BK127 := n1_; have HB := n2_; clear n0_ n1_ n2_; (try clear hb); (try clear hb2); (try clear hk); (try clear hi); (try clear ho0)) | ((with_reducible refine gate_dst (N := 5) rfl ?_); refine box_event ?hg (N := 5) ?hd (cs := #[.int .u8 0, .int .i64 0, .int .u8 0, .slice none 0 0, .int .i64 0, .bool false]) (t := 25) ?hr ?_; (case hd => rfl); (case hg => rfl); (case hr => first | (go_simp; done) | (go_simp; rfl)); intro gb138 hg w6 hbox hb; have n0_ := Aside0.mk (Kd.R_below (by (with_reducible repeat (first | apply Kd.R_alloc | apply Kd.R_drewN | apply Kd.R_drew)); exact HO133.out) hb); have n1_ := Aside0.mk (blk_below (g := gb127) (o := .cells #[.int .u8 0, .int .i64 0, .int .u8 0, .slice none 0 0, .int .i64 0, .bool false] 25 (0, 0)) (by (with_reducible repeat (first | refine blk_drewN ?_ _ | refine blk_drew ?_ | refine blk_alloc ?_ _)); exact BK127.out) hb); have n2_ := Aside0.mk (below_step (by repeat (first | (with_reducible first | exact HB.out | apply below_alloc | apply pw_below_drewN | apply below_drew1 | refine below_set ?_ GE127.out) | exact HB.out)) hb); have n3_ := Aside0.mk (hbox); have n4_ := Aside0.mk ((by rw [hg]; exact (below_size (by repeat (first | (with_reducible first | exact HB.out | apply below_alloc | apply pw_below_drewN | apply below_drew1 | refine below_set ?_ GE127.out) | exact HB.out))) : w.heap.size ≤ gb138)); have n5_ := Aside0.mk ((by rw [hg]; exact (below_size (by repeat (first | (with_reducible first | exact HB.out | apply below_alloc | apply pw_below_drewN | apply below_drew1 | refine below_set ?_ GE127.out) | exact HB.out))) : w.heap.size ≤ gb138)); have n6_ := Aside0.mk ((by rw [hg]; exact Nat.ne_of_lt (blk_lt (g := gb127) (o := .cells #[.int .u8 0, .int .i64 0, .int .u8 0, .slice none 0 0, .int .i64 0, .bool false] 25 (0, 0)) (by (with_reducible repeat (first | refine blk_drewN ?_ _ | refine blk_drew ?_ | refine blk_alloc ?_ _)); exact BK127.out)) : gb127 ≠ gb138)); have n7_ := Aside0.mk ((by rw [hg]; exact Nat.ne_of_gt (blk_lt (g := gb127) (o := .cells #[.int .u8 0, .int .i64 0, .int .u8 0, .slice none 0 0, .int .i64 0, .bool false] 25 (0, 0)) (by (with_reducible repeat (first | refine blk_drewN ?_ _ | refine blk_drew ?_ | refine blk_alloc ?_ _)); exact BK127.out)) : gb138 ≠ gb127)); clear HO133; clear BK127; clear HB; have HO133 := n0_; have BK127 := n1_; have HB := n2_; have BK138 := n3_; have GW138 := n4_; have GE138 := n5_; have NB127_138 := n6_; have NB138_127 := n7_; clear n0_ n1_ n2_ n3_ n4_ n5_ n6_ n7_; clear hb hbox hg; have hnb7 := NB138_127.out; have hnc7 := NB127_138.out; have hcz8_0 : w6.cell? ⟨gb138, 0, none⟩ = some (.int .u8 0) := (blk_cell BK138.out 0).trans rfl; have hcz8_1 : w6.cell? ⟨gb138, 1, none⟩ = some (.int .i64 0) := (blk_cell BK138.out 1).trans rfl; have hcz8_2 : w6.cell? ⟨gb138, 2, none⟩ = some (.int .u8 0) := (blk_cell BK138.out 2).trans rfl; have hcz8_3 : w6.cell? ⟨gb138, 3, none⟩ = some (.slice none 0 0) := (blk_cell BK138.out 3).trans rfl; have hcz8_4 : w6.cell? ⟨gb138, 4, none⟩ = some (.int .i64 0) := (blk_cell BK138.out 4).trans rfl; have hcz8_5 : w6.cell? ⟨gb138, 5, none⟩ = some (.bool false) := (blk_cell BK138.out 5).trans rfl; have hfz8_0 := blk_frozen BK138.out 0; have hfz8_1 := blk_frozen BK138.out 1; have hfz8_2 := blk_frozen BK138.out 2; have hfz8_3 := blk_frozen BK138.out 3; have hfz8_4 := blk_frozen BK138.out 4; have hfz8_5 := blk_frozen BK138.out 5; obtain ⟨Ao9, co9, eo9⟩ := Kd.R_slice HO133.out; subst eo9))
    go_loopg [6] k (fun kq v6 w' => ∃ (x6_1 : Int) (x128000_1 : Int) (x128001_1 : Int) (x128002_1 : Int) (x128004_1 : Int) (x128005_1 : Bool) (x139004_1 : Int) (x139005_1 : Bool), v6 = .int .i64 x6_1 ∧ Aside0 (address_Parse.l0 kq l0 x6_1 t128 t129 t130 t131 x139004_1 x139005_1 = some (r1, r2, r3, r4, r5, r6, r7, r8)) ∧ Aside0 (kq ≤ k) ∧ Aside0 (Kd.R (Kd.int .u8) 5 w' w.heap.size (fun _ => True) (.slice Ao9 t131.length co9) t131) ∧ Aside0 (w'.heap[gb127]? = some (.cells #[.int .u8 x128000_1, .int .i64 x128001_1, .int .u8 x128002_1, (.slice none 0 0), .int .i64 x128004_1, .bool x128005_1] 25 (0, 0))) ∧ Aside0 (w'.heap[gb138]? = some (.cells #[.int .u8 t128, .int .i64 t129, .int .u8 t130, (.slice Ao9 t131.length co9), .int .i64 x139004_1, .bool x139005_1] 25 (0, 0))) ∧ Aside0 (Below w.heap.size w w'))
    case atStart => exact ⟨(t136), (0), (0), (0), (0), (false), (t134), (t135), (by first | rfl | (simp; done) | (simp [*]; done)), H', ⟨Nat.le_refl _⟩, ⟨by (with_reducible repeat (first | apply Kd.R_alloc | apply Kd.R_drewN | apply Kd.R_drew)); exact Kd.R_mono (Kd.R_far (p := ⟨gb138, 5, none⟩) (Kd.R_far (p := ⟨gb138, 4, none⟩) (Kd.R_far (p := ⟨gb138, 3, none⟩) (Kd.R_far (p := ⟨gb138, 2, none⟩) (Kd.R_far (p := ⟨gb138, 1, none⟩) (Kd.R_far (p := ⟨gb138, 0, none⟩) (Kd.R_types HO133.out BK138.out (by decide)) (fun _ hk => hk.2) (.int .u8 t128)) (fun _ hk => hk.2) (.int .i64 t129)) (fun _ hk => hk.2) (.int .u8 t130)) (fun _ hk => hk.2) (.slice Ao9 t131.length co9)) (fun _ hk => hk.2) (.int .i64 t134)) (fun _ hk => hk.2) (.bool t135)) (fun _ hk => trivial)⟩, ⟨by (with_reducible repeat (first | refine blk_drewN ?_ _ | refine blk_drew ?_ | refine blk_alloc ?_ _)); refine blk_far ?_ NB127_138.out _; (with_reducible repeat (first | refine blk_drewN ?_ _ | refine blk_drew ?_ | refine blk_alloc ?_ _)); refine blk_far ?_ NB127_138.out _; (with_reducible repeat (first | refine blk_drewN ?_ _ | refine blk_drew ?_ | refine blk_alloc ?_ _)); refine blk_far ?_ NB127_138.out _; (with_reducible repeat (first | refine blk_drewN ?_ _ | refine blk_drew ?_ | refine blk_alloc ?_ _)); refine blk_far ?_ NB127_138.out _; (with_reducible repeat (first | refine blk_drewN ?_ _ | refine blk_drew ?_ | refine blk_alloc ?_ _)); refine blk_far ?_ NB127_138.out _; (with_reducible repeat (first | refine blk_drewN ?_ _ | refine blk_drew ?_ | refine blk_alloc ?_ _)); refine blk_far ?_ NB127_138.out _; (with_reducible repeat (first | refine blk_drewN ?_ _ | refine blk_drew ?_ | refine blk_alloc ?_ _)); exact BK127.out⟩, ⟨by (with_reducible repeat (first | refine blk_drewN ?_ _ | refine blk_drew ?_ | refine blk_alloc ?_ _)); refine blk_put (cs := #[.int .u8 t128, .int .i64 t129, .int .u8 t130, .slice Ao9 t131.length co9, .int .i64 t134, .bool false]) ?_ 5 _ rfl; (with_reducible repeat (first | refine blk_drewN ?_ _ | refine blk_drew ?_ | refine blk_alloc ?_ _)); refine blk_put (cs := #[.int .u8 t128, .int .i64 t129, .int .u8 t130, .slice Ao9 t131.length co9, .int .i64 0, .bool false]) ?_ 4 _ rfl; (with_reducible repeat (first | refine blk_drewN ?_ _ | refine blk_drew ?_ | refine blk_alloc ?_ _)); refine blk_put (cs := #[.int .u8 t128, .int .i64 t129, .int .u8 t130, .slice none 0 0, .int .i64 0, .bool false]) ?_ 3 _ rfl; (with_reducible repeat (first | refine blk_drewN ?_ _ | refine blk_drew ?_ | refine blk_alloc ?_ _)); refine blk_put (cs := #[.int .u8 t128, .int .i64 t129, .int .u8 0, .slice none 0 0, .int .i64 0, .bool false]) ?_ 2 _ rfl; (with_reducible repeat (first | refine blk_drewN ?_ _ | refine blk_drew ?_ | refine blk_alloc ?_ _)); refine blk_put (cs := #[.int .u8 t128, .int .i64 0, .int .u8 0, .slice none 0 0, .int .i64 0, .bool false]) ?_ 1 _ rfl; (with_reducible repeat (first | refine blk_drewN ?_ _ | refine blk_drew ?_ | refine blk_alloc ?_ _)); refine blk_put (cs := #[.int .u8 0, .int .i64 0, .int .u8 0, .slice none 0 0, .int .i64 0, .bool false]) ?_ 0 _ rfl; (with_reducible repeat (first | refine blk_drewN ?_ _ | refine blk_drew ?_ | refine blk_alloc ?_ _)); exact BK138.out⟩, ⟨by repeat (first | (with_reducible first | exact HB.out | apply below_alloc | apply pw_below_drewN | apply below_drew1 | refine below_set ?_ GE127.out | refine below_set ?_ GE138.out) | exact HB.out)⟩⟩
    case round =>
      clear H'
      try clear c1
      try clear c2
      try clear p2
      try clear c3
      try clear c3b0
      try clear c3b1
      try clear c7
      try clear hcz8_0
      try clear hcz8_1
      try clear hcz8_2
      try clear hcz8_3
      try clear hcz8_4
      try clear hcz8_5
      try clear hfz8_0
      try clear hfz8_1
      try clear hfz8_2
      try clear hfz8_3
      try clear hfz8_4
      try clear hfz8_5
      obtain ⟨x6_1, x128000_1, x128001_1, x128002_1, x128004_1, x128005_1, x139004_1, x139005_1, rfl, HA, HK1, HO_139003, BK127, BK138, HB⟩ := hrel
      cases gk with
      | zero => exact absurd HA.out (by simp [address_Parse.l0])
      | succ k1 =>
        have H := HA.out
        clear HA
        simp only [address_Parse.l0] at H
        have HC10 := Aside0.mk H
        clear H
        go_upto_region 4 with (fail)
        go_cut [38] (fun v38 wc => ∃ (kq : Nat) (x38_9 : Bool), v38 = .bool x38_9 ∧ Aside0 (address_Parse.j1 kq l0 x6_1 x38_9 t128 t129 t130 t131 x139004_1 x139005_1 = some (r1, r2, r3, r4, r5, r6, r7, r8)) ∧ Aside0 (kq ≤ k1) ∧ Aside0 (Kd.R (Kd.int .u8) 5 wc w.heap.size (fun _ => True) (.slice Ao9 t131.length co9) t131) ∧ Aside0 (wc.heap[gb127]? = some (.cells #[.int .u8 x128000_1, .int .i64 x128001_1, .int .u8 x128002_1, (.slice none 0 0), .int .i64 x128004_1, .bool x128005_1] 25 (0, 0))) ∧ Aside0 (wc.heap[gb138]? = some (.cells #[.int .u8 t128, .int .i64 t129, .int .u8 t130, (.slice Ao9 t131.length co9), .int .i64 x139004_1, .bool x139005_1] 25 (0, 0))) ∧ Aside0 (Below w.heap.size w wc))
        case first =>
          have H := HC10.out
          clear HC10
          by_cases c11 : x6_1 < (l0.length : Int)
          · rw [if_pos c11] at H
            have c11b0 : decide (x6_1 < (l0.length : Int)) = true := decide_eq_true c11
            clear c11
            (first | rw [c11b0] | (simp only [i64_w, i32_w]; rw [c11b0]) | skip)
            by_cases c12 : 0 ≤ x6_1
            · rw [if_pos c12] at H
              have c12b0 : decide (0 ≤ x6_1) = true := decide_eq_true c12
              clear c12
              by_cases c13 : (rd l0 x6_1) = 43
              · rw [if_pos c13] at H
                have c13b0 : ((rd l0 x6_1) == 43) = true := beq_iff_eq.mpr c13
                have c13b1 : ((rd l0 x6_1) != 43) = false := bne_eq_false_iff_eq.mpr c13
                clear c13
                have H' := Aside0.mk H
                clear H
                have p139 : 0 ≤ (x6_1 : Int) := of_decide_eq_true (by first | (with_reducible assumption) | assumption)
                have q139 : x6_1 < (l0.length : Int) := of_decide_eq_true (by first | (with_reducible assumption) | assumption)
                obtain ⟨ad139, e139, hx139_0⟩ := Kd.at_int HR0.out x6_1 p139 q139
                cases e139
                replace hx139_0 := (HB.out.cell (World.block_lt_of_cell? w _ hx139_0)).trans hx139_0
                replace p139 := eq_true p139
                replace q139 := eq_true q139
                go_wp2
                go_meet
                case rel => exact ⟨_, (true), (by first | rfl | (simp; done) | (simp [*]; done)), H', ⟨by have := HK1.out; first | omega | exact Nat.le_refl _⟩, ⟨by (with_reducible repeat (first | apply Kd.R_alloc | apply Kd.R_drewN | apply Kd.R_drew)); exact HO_139003.out⟩, ⟨by (with_reducible repeat (first | refine blk_drewN ?_ _ | refine blk_drew ?_ | refine blk_alloc ?_ _)); exact BK127.out⟩, ⟨by (with_reducible repeat (first | refine blk_drewN ?_ _ | refine blk_drew ?_ | refine blk_alloc ?_ _)); exact BK138.out⟩, ⟨by repeat (first | (with_reducible first | exact HB.out | apply below_alloc | apply pw_below_drewN | apply below_drew1 | refine below_set ?_ GE127.out | refine below_set ?_ GE138.out) | exact HB.out)⟩⟩
              · rw [if_neg c13] at H
                have c13b0 : ((rd l0 x6_1) == 43) = false := beq_eq_false_iff_ne.mpr c13
                have c13b1 : ((rd l0 x6_1) != 43) = true := bne_iff_ne.mpr c13
                have H' := Aside0.mk H
                clear H
                have p139 : 0 ≤ (x6_1 : Int) := of_decide_eq_true (by first | (with_reducible assumption) | assumption)
                have q139 : x6_1 < (l0.length : Int) := of_decide_eq_true (by first | (with_reducible assumption) | assumption)
                obtain ⟨ad139, e139, hx139_0⟩ := Kd.at_int HR0.out x6_1 p139 q139
                cases e139
                replace hx139_0 := (HB.out.cell (World.block_lt_of_cell? w _ hx139_0)).trans hx139_0
                replace p139 := eq_true p139
                replace q139 := eq_true q139
                have p140 : 0 ≤ (x6_1 : Int) := of_decide_eq_true (by first | (with_reducible assumption) | assumption)
                have q140 : x6_1 < (l0.length : Int) := of_decide_eq_true (by first | (with_reducible assumption) | assumption)
                obtain ⟨ad140, e140, hx140_0⟩ := Kd.at_int HR0.out x6_1 p140 q140
                obtain rfl : ad139 = ad140 := (by injection e140)
                replace hx140_0 := (HB.out.cell (World.block_lt_of_cell? w _ hx140_0)).trans hx140_0
                replace p140 := eq_true p140
                replace q140 := eq_true q140
                go_wp2
                go_meet
                case rel => exact ⟨_, (((rd l0 x6_1) == 45)), (by first | rfl | (simp; done) | (simp [*]; done)), H', ⟨by have := HK1.out; first | omega | exact Nat.le_refl _⟩, ⟨by (with_reducible repeat (first | apply Kd.R_alloc | apply Kd.R_drewN | apply Kd.R_drew)); exact HO_139003.out⟩, ⟨by (with_reducible repeat (first | refine blk_drewN ?_ _ | refine blk_drew ?_ | refine blk_alloc ?_ _)); exact BK127.out⟩, ⟨by (with_reducible repeat (first | refine blk_drewN ?_ _ | refine blk_drew ?_ | refine blk_alloc ?_ _)); exact BK138.out⟩, ⟨by repeat (first | (with_reducible first | exact HB.out | apply below_alloc | apply pw_below_drewN | apply below_drew1 | refine below_set ?_ GE127.out | refine below_set ?_ GE138.out) | exact HB.out)⟩⟩
            · rw [if_neg c12] at H
              exact absurd H (by simp)
          · rw [if_neg c11] at H
            have c11b0 : decide (x6_1 < (l0.length : Int)) = false := decide_eq_false c11
            clear c11
            (first | rw [c11b0] | (simp only [i64_w, i32_w]; rw [c11b0]) | skip)
            have H' := Aside0.mk H
            clear H
            go_wp2
            go_meet
            case rel => exact ⟨_, (false), (by first | rfl | (simp; done) | (simp [*]; done)), H', ⟨by have := HK1.out; first | omega | exact Nat.le_refl _⟩, ⟨by (with_reducible repeat (first | apply Kd.R_alloc | apply Kd.R_drewN | apply Kd.R_drew)); exact HO_139003.out⟩, ⟨by (with_reducible repeat (first | refine blk_drewN ?_ _ | refine blk_drew ?_ | refine blk_alloc ?_ _)); exact BK127.out⟩, ⟨by (with_reducible repeat (first | refine blk_drewN ?_ _ | refine blk_drew ?_ | refine blk_alloc ?_ _)); exact BK138.out⟩, ⟨by repeat (first | (with_reducible first | exact HB.out | apply below_alloc | apply pw_below_drewN | apply below_drew1 | refine below_set ?_ GE127.out | refine below_set ?_ GE138.out) | exact HB.out)⟩⟩
        case rest =>
          clear HC10
          try clear c1
          try clear p1
          try clear q1
          try clear hx1
          try clear c2
          try clear p2
          try clear c3
          try clear c3b0
          try clear c3b1
          try clear c7
          try clear c11
          try clear c11b0
          try clear c12
          try clear c12b0
          try clear c13
          try clear c13b0
          try clear c13b1
          try clear p13
          try clear q13
          try clear hx13
          try clear hcz8_0
          try clear hcz8_1
          try clear hcz8_2
          try clear hcz8_3
          try clear hcz8_4
          try clear hcz8_5
          try clear hfz8_0
          try clear hfz8_1
          try clear hfz8_2
          try clear hfz8_3
          try clear hfz8_4
          try clear hfz8_5
          try clear hx139_0
          try clear hx140_0
          try clear p139
          try clear p140
          try clear p2
          try clear q139
          try clear q140
          obtain ⟨kq, x38_9, rfl, HA, HJ9, HO_139003, BK127, BK138, HB⟩ := hcut
          cases kq with
          | zero => exact absurd HA.out (by simp [address_Parse.j1])
          | succ kj9 =>
            have H := HA.out
            clear HA
            simp only [address_Parse.j1] at H
            by_cases c14 : x38_9 = true
            · subst c14
              have H1 : (if 0 ≤ (wrap64 (x6_1 + 1)) then (if (wrap64 (x6_1 + 1)) ≤ (l0.length : Int) then ((address_number.f kj9 (l0.drop ((wrap64 (x6_1 + 1)) : Int).toNat)).bind fun bt142 => (if bt142.2.2 = true then (if bt142.2.1 = 0 then (if 0 ≤ x6_1 then (if x6_1 < (l0.length : Int) then (if (rd l0 x6_1) = 45 then (address_Parse.l0 kj9 l0 (wrap64 (x6_1 + (wrap64 (1 + bt142.2.1)))) t128 t129 t130 t131 (wrap64 (x139004_1 + (-1))) true) else (address_Parse.l0 kj9 l0 (wrap64 (x6_1 + (wrap64 (1 + bt142.2.1)))) t128 t129 t130 t131 (wrap64 (x139004_1 + 1)) true)) else (none)) else (none)) else (if 0 ≤ x6_1 then (if x6_1 < (l0.length : Int) then (if (rd l0 x6_1) = 45 then (address_Parse.l0 kj9 l0 (wrap64 (x6_1 + (wrap64 (1 + bt142.2.1)))) t128 t129 t130 t131 (wrap64 (x139004_1 + (wrap64 (-bt142.1)))) true) else (address_Parse.l0 kj9 l0 (wrap64 (x6_1 + (wrap64 (1 + bt142.2.1)))) t128 t129 t130 t131 (wrap64 (x139004_1 + bt142.1)) true)) else (none)) else (none))) else (some (0, 0, 0, ([] : List Int), 0, false, 0, 230)))) else (none)) else (none)) = some (r1, r2, r3, r4, r5, r6, r7, r8) := by rw [if_pos rfl] at H; exact H
              clear H
              have H := H1
              clear H1
              obtain ⟨ji15, hji15⟩ : ∃ j_ : Int, (wrap64 (x6_1 + 1)) = j_ := ⟨_, rfl⟩
              replace H : (if 0 ≤ (ji15) then (if (ji15) ≤ (l0.length : Int) then ((address_number.f kj9 (l0.drop ((ji15) : Int).toNat)).bind fun bt142 => (if bt142.2.2 = true then (if bt142.2.1 = 0 then (if 0 ≤ x6_1 then (if x6_1 < (l0.length : Int) then (if (rd l0 x6_1) = 45 then (address_Parse.l0 kj9 l0 (wrap64 (x6_1 + (wrap64 (1 + bt142.2.1)))) t128 t129 t130 t131 (wrap64 (x139004_1 + (-1))) true) else (address_Parse.l0 kj9 l0 (wrap64 (x6_1 + (wrap64 (1 + bt142.2.1)))) t128 t129 t130 t131 (wrap64 (x139004_1 + 1)) true)) else (none)) else (none)) else (if 0 ≤ x6_1 then (if x6_1 < (l0.length : Int) then (if (rd l0 x6_1) = 45 then (address_Parse.l0 kj9 l0 (wrap64 (x6_1 + (wrap64 (1 + bt142.2.1)))) t128 t129 t130 t131 (wrap64 (x139004_1 + (wrap64 (-bt142.1)))) true) else (address_Parse.l0 kj9 l0 (wrap64 (x6_1 + (wrap64 (1 + bt142.2.1)))) t128 t129 t130 t131 (wrap64 (x139004_1 + bt142.1)) true)) else (none)) else (none))) else (some (0, 0, 0, ([] : List Int), 0, false, 0, 230)))) else (none)) else (none)) = some (r1, r2, r3, r4, r5, r6, r7, r8) := by first | (rw [hji15] at H; exact H) | (simp only [hji15] at H ⊢; exact H)
              have hji15w : (IntKind.i64.wrap (x6_1 + 1)) = ji15 := (i64_w _).trans hji15
              by_cases c16 : 0 ≤ (ji15)
              · rw [if_pos c16] at H
                have c16b0 := eq_true c16
                have c16b1 : decide (0 ≤ (ji15)) = true := decide_eq_true c16
                clear c16
                by_cases c17 : (ji15) ≤ (l0.length : Int)
                · rw [if_pos c17] at H
                  have c17b0 := eq_true c17
                  have c17b1 : decide ((ji15) ≤ (l0.length : Int)) = true := decide_eq_true c17
                  clear c17
                  replace H := Option.bind_eq_some_iff.mp H
                  obtain ⟨⟨t142, t143, t144⟩, A180, H⟩ := H
                  replace H : (if t144 = true then (if t143 = 0 then (if 0 ≤ x6_1 then (if x6_1 < (l0.length : Int) then (if (rd l0 x6_1) = 45 then (address_Parse.l0 kj9 l0 (wrap64 (x6_1 + (wrap64 (1 + t143)))) t128 t129 t130 t131 (wrap64 (x139004_1 + (-1))) true) else (address_Parse.l0 kj9 l0 (wrap64 (x6_1 + (wrap64 (1 + t143)))) t128 t129 t130 t131 (wrap64 (x139004_1 + 1)) true)) else (none)) else (none)) else (if 0 ≤ x6_1 then (if x6_1 < (l0.length : Int) then (if (rd l0 x6_1) = 45 then (address_Parse.l0 kj9 l0 (wrap64 (x6_1 + (wrap64 (1 + t143)))) t128 t129 t130 t131 (wrap64 (x139004_1 + (wrap64 (-t142)))) true) else (address_Parse.l0 kj9 l0 (wrap64 (x6_1 + (wrap64 (1 + t143)))) t128 t129 t130 t131 (wrap64 (x139004_1 + t142)) true)) else (none)) else (none))) else (some (0, 0, 0, ([] : List Int), 0, false, 0, 230))) = some (r1, r2, r3, r4, r5, r6, r7, r8) := H
                  have A18 := Aside0.mk A180
                  clear A180
                  by_cases c19 : t144 = true
                  · subst c19
                    have H1 : (if t143 = 0 then (if 0 ≤ x6_1 then (if x6_1 < (l0.length : Int) then (if (rd l0 x6_1) = 45 then (address_Parse.l0 kj9 l0 (wrap64 (x6_1 + (wrap64 (1 + t143)))) t128 t129 t130 t131 (wrap64 (x139004_1 + (-1))) true) else (address_Parse.l0 kj9 l0 (wrap64 (x6_1 + (wrap64 (1 + t143)))) t128 t129 t130 t131 (wrap64 (x139004_1 + 1)) true)) else (none)) else (none)) else (if 0 ≤ x6_1 then (if x6_1 < (l0.length : Int) then (if (rd l0 x6_1) = 45 then (address_Parse.l0 kj9 l0 (wrap64 (x6_1 + (wrap64 (1 + t143)))) t128 t129 t130 t131 (wrap64 (x139004_1 + (wrap64 (-t142)))) true) else (address_Parse.l0 kj9 l0 (wrap64 (x6_1 + (wrap64 (1 + t143)))) t128 t129 t130 t131 (wrap64 (x139004_1 + t142)) true)) else (none)) else (none))) = some (r1, r2, r3, r4, r5, r6, r7, r8) := by rw [if_pos rfl] at H; exact H
                    clear H
                    have H := H1
                    clear H1
                    by_cases c20 : t143 = 0
                    · rw [if_pos c20] at H
                      have c20b0 : (t143 == 0) = true := beq_iff_eq.mpr c20
                      have c20b1 : (t143 != 0) = false := bne_eq_false_iff_eq.mpr c20
                      clear c20
                      by_cases c21 : 0 ≤ x6_1
                      · rw [if_pos c21] at H
                        have c21b0 : decide (0 ≤ x6_1) = true := decide_eq_true c21
                        clear c21
                        by_cases c22 : x6_1 < (l0.length : Int)
                        · rw [if_pos c22] at H
                          have c22b0 : decide (x6_1 < (l0.length : Int)) = true := decide_eq_true c22
                          clear c22
                          by_cases c23 : (rd l0 x6_1) = 45
                          · rw [if_pos c23] at H
                            have c23b0 : ((rd l0 x6_1) == 45) = true := beq_iff_eq.mpr c23
                            have c23b1 : ((rd l0 x6_1) != 45) = false := bne_eq_false_iff_eq.mpr c23
                            clear c23
                            have H' := Aside0.mk H
                            clear H
                            obtain ⟨i024, hi024, _, hsz24, _⟩ := info_parts info5
                            obtain ⟨A24, hcut24, hA24, hC24⟩ := print_drop_of (P := Tryd.prog) (Value.int .u8) 0 22 5 .i64 Tryd.underlying22 hi024 hsz24 A0 c0 l0 (ji15) (of_decide_eq_true (by first | (with_reducible assumption) | assumption)) (of_decide_eq_true (by first | (with_reducible assumption) | assumption)) HC0.out
                            have HR141 := Aside0.mk (Kd.C_of_reads (h1 := fun _ => rfl) (hA24 _ (Kd.reads_of_C HR0.out)))
                            have HC141 := Aside0.mk hC24
                            clear hA24 hC24 hi024 hsz24
                            go_wp2_with (first | ((with_reducible refine gate_callee (f := 26) rfl ?_); refine goesL_ (some 44) rfl rfl Tryd.func26 (by kernel_rfl) rfl #[.slice A24 (l0.drop ((ji15) : Int).toNat).length (c0 - (ji15).toNat)] rfl (by (try simp only [List.map_toArray, List.map_cons, List.map_nil]); first | done | (rw [show (l0.drop ((ji15) : Int).toNat).length = (l0.length - (ji15).toNat) from List.length_drop] <;> rfl) | (simp only [hji15]; rfl) | rfl | (simp only [List.length_drop, List.length_take]; rfl)) ?_; (with_reducible refine (address_number.calls kj9 _ _ (l0.drop ((ji15) : Int).toNat) t142 t143 true _ ?side1 ?side2 A18.out).mono ?_); (case side1 => repeat (first | exact (Kd.C_below HR141.out HB.out) | (with_reducible refine Kd.C_alloc ?_ _) | (with_reducible refine Kd.C_drewN ?_ _) | (with_reducible refine Kd.C_drew ?_))); (case side2 => exact HC141.out); rintro e w' ⟨rfl, ⟨nd, rfl⟩⟩; refine ⟨_, rfl, ?_⟩; (try (rw [drewN_self wc]; generalize hq_ : World.drewN wc _ = wc; have n0_ : Aside0 (Kd.R (Kd.int .u8) 5 wc w.heap.size (fun _ => True) (.slice Ao9 t131.length co9) t131) := ⟨by rw [← hq_]; exact (by (with_reducible repeat (first | apply Kd.R_alloc | apply Kd.R_drewN | apply Kd.R_drew)); exact HO_139003.out)⟩; have n1_ : Aside0 (wc.heap[gb127]? = some (.cells #[.int .u8 x128000_1, .int .i64 x128001_1, .int .u8 x128002_1, .slice none 0 0, .int .i64 x128004_1, .bool x128005_1] 25 (0, 0))) := ⟨by rw [← hq_]; exact (by (with_reducible repeat (first | refine blk_drewN ?_ _ | refine blk_drew ?_ | refine blk_alloc ?_ _)); exact BK127.out)⟩; have n2_ : Aside0 (wc.heap[gb138]? = some (.cells #[.int .u8 t128, .int .i64 t129, .int .u8 t130, .slice Ao9 t131.length co9, .int .i64 x139004_1, .bool x139005_1] 25 (0, 0))) := ⟨by rw [← hq_]; exact (by (with_reducible repeat (first | refine blk_drewN ?_ _ | refine blk_drew ?_ | refine blk_alloc ?_ _)); exact BK138.out)⟩; have n3_ : Aside0 (Below w.heap.size w wc) := ⟨by rw [← hq_]; exact (by repeat (first | (with_reducible first | exact HB.out | apply below_alloc | apply pw_below_drewN | apply below_drew1 | refine below_set ?_ GE127.out | refine below_set ?_ GE138.out) | exact HB.out))⟩; clear HO_139003 BK127 BK138 HB hq_; have HO_139003 := n0_; have BK127 := n1_; have BK138 := n2_; have HB := n3_; clear n0_ n1_ n2_ n3_)); (try have hcy127_0 : wc.cell? ⟨gb127, 0, none⟩ = some (.int .u8 x128000_1) := (blk_cell BK127.out 0).trans rfl); (try have hfy127_0 := blk_frozen BK127.out 0); (try have hcy127_1 : wc.cell? ⟨gb127, 1, none⟩ = some (.int .i64 x128001_1) := (blk_cell BK127.out 1).trans rfl); (try have hfy127_1 := blk_frozen BK127.out 1); (try have hcy127_2 : wc.cell? ⟨gb127, 2, none⟩ = some (.int .u8 x128002_1) := (blk_cell BK127.out 2).trans rfl); (try have hfy127_2 := blk_frozen BK127.out 2); (try have hcy127_3 : wc.cell? ⟨gb127, 3, none⟩ = some (.slice none 0 0) := (blk_cell BK127.out 3).trans rfl); (try have hfy127_3 := blk_frozen BK127.out 3); (try have hcy127_4 : wc.cell? ⟨gb127, 4, none⟩ = some (.int .i64 x128004_1) := (blk_cell BK127.out 4).trans rfl); (try have hfy127_4 := blk_frozen BK127.out 4); (try have hcy127_5 : wc.cell? ⟨gb127, 5, none⟩ = some (.bool x128005_1) := (blk_cell BK127.out 5).trans rfl); (try have hfy127_5 := blk_frozen BK127.out 5); (try have hcy138_0 : wc.cell? ⟨gb138, 0, none⟩ = some (.int .u8 t128) := (blk_cell BK138.out 0).trans rfl); (try have hfy138_0 := blk_frozen BK138.out 0); (try have hcy138_1 : wc.cell? ⟨gb138, 1, none⟩ = some (.int .i64 t129) := (blk_cell BK138.out 1).trans rfl); (try have hfy138_1 := blk_frozen BK138.out 1); (try have hcy138_2 : wc.cell? ⟨gb138, 2, none⟩ = some (.int .u8 t130) := (blk_cell BK138.out 2).trans rfl); (try have hfy138_2 := blk_frozen BK138.out 2); (try have hcy138_3 : wc.cell? ⟨gb138, 3, none⟩ = some (.slice Ao9 t131.length co9) := (blk_cell BK138.out 3).trans rfl); (try have hfy138_3 := blk_frozen BK138.out 3); (try have hcy138_4 : wc.cell? ⟨gb138, 4, none⟩ = some (.int .i64 x139004_1) := (blk_cell BK138.out 4).trans rfl); (try have hfy138_4 := blk_frozen BK138.out 4); (try have hcy138_5 : wc.cell? ⟨gb138, 5, none⟩ = some (.bool x139005_1) := (blk_cell BK138.out 5).trans rfl); (try have hfy138_5 := blk_frozen BK138.out 5); have p145 : 0 ≤ (x6_1 : Int) := of_decide_eq_true (by first | (with_reducible assumption) | assumption); have q145 : x6_1 < (l0.length : Int) := of_decide_eq_true (by first | (with_reducible assumption) | assumption); obtain ⟨ad145, e145, hx145_0⟩ := Kd.at_int HR0.out x6_1 p145 q145; cases e145; replace hx145_0 := (HB.out.cell (World.block_lt_of_cell? w _ hx145_0)).trans hx145_0; replace p145 := eq_true p145; replace q145 := eq_true q145; have hnb25 := NB138_127.out; have hnc25 := NB127_138.out; have hcz26_0 : wc.cell? ⟨gb138, 0, none⟩ = some (.int .u8 t128) := (blk_cell BK138.out 0).trans rfl; have hcz26_1 : wc.cell? ⟨gb138, 1, none⟩ = some (.int .i64 t129) := (blk_cell BK138.out 1).trans rfl; have hcz26_2 : wc.cell? ⟨gb138, 2, none⟩ = some (.int .u8 t130) := (blk_cell BK138.out 2).trans rfl; have hcz26_3 : wc.cell? ⟨gb138, 3, none⟩ = some (.slice Ao9 t131.length co9) := (blk_cell BK138.out 3).trans rfl; have hcz26_4 : wc.cell? ⟨gb138, 4, none⟩ = some (.int .i64 x139004_1) := (blk_cell BK138.out 4).trans rfl; have hcz26_5 : wc.cell? ⟨gb138, 5, none⟩ = some (.bool x139005_1) := (blk_cell BK138.out 5).trans rfl; have hfz26_0 := blk_frozen BK138.out 0; have hfz26_1 := blk_frozen BK138.out 1; have hfz26_2 := blk_frozen BK138.out 2; have hfz26_3 := blk_frozen BK138.out 3; have hfz26_4 := blk_frozen BK138.out 4; have hfz26_5 := blk_frozen BK138.out 5))
                            go_roundg kj9
                            case measure => have := HK1.out; have := HJ9.out; omega
                            case rel => exact ⟨(wrap64 (x6_1 + (wrap64 (1 + t143)))), (x128000_1), (x128001_1), (x128002_1), (x128004_1), (x128005_1), (wrap64 (x139004_1 + (-1))), (true), (by first | rfl | (simp; done) | (simp [*]; done)), H', ⟨by have := HK1.out; have := HJ9.out; omega⟩, ⟨by (with_reducible repeat (first | apply Kd.R_alloc | apply Kd.R_drewN | apply Kd.R_drew)); exact Kd.R_mono (Kd.R_far (p := ⟨gb138, 5, none⟩) (Kd.R_far (p := ⟨gb138, 4, none⟩) (Kd.R_types HO_139003.out BK138.out (by decide)) (fun _ hk => hk.2) (.int .i64 (wrap64 (x139004_1 + (-1))))) (fun _ hk => hk.2) (.bool true)) (fun _ hk => trivial)⟩, ⟨by (with_reducible repeat (first | refine blk_drewN ?_ _ | refine blk_drew ?_ | refine blk_alloc ?_ _)); refine blk_far ?_ NB127_138.out _; (with_reducible repeat (first | refine blk_drewN ?_ _ | refine blk_drew ?_ | refine blk_alloc ?_ _)); refine blk_far ?_ NB127_138.out _; (with_reducible repeat (first | refine blk_drewN ?_ _ | refine blk_drew ?_ | refine blk_alloc ?_ _)); exact BK127.out⟩, ⟨by (with_reducible repeat (first | refine blk_drewN ?_ _ | refine blk_drew ?_ | refine blk_alloc ?_ _)); refine blk_put (cs := #[.int .u8 t128, .int .i64 t129, .int .u8 t130, .slice Ao9 t131.length co9, .int .i64 (wrap64 (x139004_1 + (-1))), .bool x139005_1]) ?_ 5 _ rfl; (with_reducible repeat (first | refine blk_drewN ?_ _ | refine blk_drew ?_ | refine blk_alloc ?_ _)); refine blk_put (cs := #[.int .u8 t128, .int .i64 t129, .int .u8 t130, .slice Ao9 t131.length co9, .int .i64 x139004_1, .bool x139005_1]) ?_ 4 _ rfl; (with_reducible repeat (first | refine blk_drewN ?_ _ | refine blk_drew ?_ | refine blk_alloc ?_ _)); exact BK138.out⟩, ⟨by repeat (first | (with_reducible first | exact HB.out | apply below_alloc | apply pw_below_drewN | apply below_drew1 | refine below_set ?_ GE127.out | refine below_set ?_ GE138.out) | exact HB.out)⟩⟩
                          · rw [if_neg c23] at H
                            have c23b0 : ((rd l0 x6_1) == 45) = false := beq_eq_false_iff_ne.mpr c23
                            have c23b1 : ((rd l0 x6_1) != 45) = true := bne_iff_ne.mpr c23
                            have H' := Aside0.mk H
                            clear H
                            obtain ⟨i027, hi027, _, hsz27, _⟩ := info_parts info5
                            obtain ⟨A27, hcut27, hA27, hC27⟩ := print_drop_of (P := Tryd.prog) (Value.int .u8) 0 22 5 .i64 Tryd.underlying22 hi027 hsz27 A0 c0 l0 (ji15) (of_decide_eq_true (by first | (with_reducible assumption) | assumption)) (of_decide_eq_true (by first | (with_reducible assumption) | assumption)) HC0.out
                            have HR141 := Aside0.mk (Kd.C_of_reads (h1 := fun _ => rfl) (hA27 _ (Kd.reads_of_C HR0.out)))
                            have HC141 := Aside0.mk hC27
                            clear hA27 hC27 hi027 hsz27
                            go_wp2_with (first | ((with_reducible refine gate_callee (f := 26) rfl ?_); refine goesL_ (some 44) rfl rfl Tryd.func26 (by kernel_rfl) rfl #[.slice A27 (l0.drop ((ji15) : Int).toNat).length (c0 - (ji15).toNat)] rfl (by (try simp only [List.map_toArray, List.map_cons, List.map_nil]); first | done | (rw [show (l0.drop ((ji15) : Int).toNat).length = (l0.length - (ji15).toNat) from List.length_drop] <;> rfl) | (simp only [hji15]; rfl) | rfl | (simp only [List.length_drop, List.length_take]; rfl)) ?_; (with_reducible refine (address_number.calls kj9 _ _ (l0.drop ((ji15) : Int).toNat) t142 t143 true _ ?side1 ?side2 A18.out).mono ?_); (case side1 => repeat (first | exact (Kd.C_below HR141.out HB.out) | (with_reducible refine Kd.C_alloc ?_ _) | (with_reducible refine Kd.C_drewN ?_ _) | (with_reducible refine Kd.C_drew ?_))); (case side2 => exact HC141.out); rintro e w' ⟨rfl, ⟨nd, rfl⟩⟩; refine ⟨_, rfl, ?_⟩; (try (rw [drewN_self wc]; generalize hq_ : World.drewN wc _ = wc; have n0_ : Aside0 (Kd.R (Kd.int .u8) 5 wc w.heap.size (fun _ => True) (.slice Ao9 t131.length co9) t131) := ⟨by rw [← hq_]; exact (by (with_reducible repeat (first | apply Kd.R_alloc | apply Kd.R_drewN | apply Kd.R_drew)); exact HO_139003.out)⟩; have n1_ : Aside0 (wc.heap[gb127]? = some (.cells #[.int .u8 x128000_1, .int .i64 x128001_1, .int .u8 x128002_1, .slice none 0 0, .int .i64 x128004_1, .bool x128005_1] 25 (0, 0))) := ⟨by rw [← hq_]; exact (by (with_reducible repeat (first | refine blk_drewN ?_ _ | refine blk_drew ?_ | refine blk_alloc ?_ _)); exact BK127.out)⟩; have n2_ : Aside0 (wc.heap[gb138]? = some (.cells #[.int .u8 t128, .int .i64 t129, .int .u8 t130, .slice Ao9 t131.length co9, .int .i64 x139004_1, .bool x139005_1] 25 (0, 0))) := ⟨by rw [← hq_]; exact (by (with_reducible repeat (first | refine blk_drewN ?_ _ | refine blk_drew ?_ | refine blk_alloc ?_ _)); exact BK138.out)⟩; have n3_ : Aside0 (Below w.heap.size w wc) := ⟨by rw [← hq_]; exact (by repeat (first | (with_reducible first | exact HB.out | apply below_alloc | apply pw_below_drewN | apply below_drew1 | refine below_set ?_ GE127.out | refine below_set ?_ GE138.out) | exact HB.out))⟩; clear HO_139003 BK127 BK138 HB hq_; have HO_139003 := n0_; have BK127 := n1_; have BK138 := n2_; have HB := n3_; clear n0_ n1_ n2_ n3_)); (try have hcy127_0 : wc.cell? ⟨gb127, 0, none⟩ = some (.int .u8 x128000_1) := (blk_cell BK127.out 0).trans rfl); (try have hfy127_0 := blk_frozen BK127.out 0); (try have hcy127_1 : wc.cell? ⟨gb127, 1, none⟩ = some (.int .i64 x128001_1) := (blk_cell BK127.out 1).trans rfl); (try have hfy127_1 := blk_frozen BK127.out 1); (try have hcy127_2 : wc.cell? ⟨gb127, 2, none⟩ = some (.int .u8 x128002_1) := (blk_cell BK127.out 2).trans rfl); (try have hfy127_2 := blk_frozen BK127.out 2); (try have hcy127_3 : wc.cell? ⟨gb127, 3, none⟩ = some (.slice none 0 0) := (blk_cell BK127.out 3).trans rfl); (try have hfy127_3 := blk_frozen BK127.out 3); (try have hcy127_4 : wc.cell? ⟨gb127, 4, none⟩ = some (.int .i64 x128004_1) := (blk_cell BK127.out 4).trans rfl); (try have hfy127_4 := blk_frozen BK127.out 4); (try have hcy127_5 : wc.cell? ⟨gb127, 5, none⟩ = some (.bool x128005_1) := (blk_cell BK127.out 5).trans rfl); (try have hfy127_5 := blk_frozen BK127.out 5); (try have hcy138_0 : wc.cell? ⟨gb138, 0, none⟩ = some (.int .u8 t128) := (blk_cell BK138.out 0).trans rfl); (try have hfy138_0 := blk_frozen BK138.out 0); (try have hcy138_1 : wc.cell? ⟨gb138, 1, none⟩ = some (.int .i64 t129) := (blk_cell BK138.out 1).trans rfl); (try have hfy138_1 := blk_frozen BK138.out 1); (try have hcy138_2 : wc.cell? ⟨gb138, 2, none⟩ = some (.int .u8 t130) := (blk_cell BK138.out 2).trans rfl); (try have hfy138_2 := blk_frozen BK138.out 2); (try have hcy138_3 : wc.cell? ⟨gb138, 3, none⟩ = some (.slice Ao9 t131.length co9) := (blk_cell BK138.out 3).trans rfl); (try have hfy138_3 := blk_frozen BK138.out 3); (try have hcy138_4 : wc.cell? ⟨gb138, 4, none⟩ = some (.int .i64 x139004_1) := (blk_cell BK138.out 4).trans rfl); (try have hfy138_4 := blk_frozen BK138.out 4); (try have hcy138_5 : wc.cell? ⟨gb138, 5, none⟩ = some (.bool x139005_1) := (blk_cell BK138.out 5).trans rfl); (try have hfy138_5 := blk_frozen BK138.out 5); have p145 : 0 ≤ (x6_1 : Int) := of_decide_eq_true (by first | (with_reducible assumption) | assumption); have q145 : x6_1 < (l0.length : Int) := of_decide_eq_true (by first | (with_reducible assumption) | assumption); obtain ⟨ad145, e145, hx145_0⟩ := Kd.at_int HR0.out x6_1 p145 q145; cases e145; replace hx145_0 := (HB.out.cell (World.block_lt_of_cell? w _ hx145_0)).trans hx145_0; replace p145 := eq_true p145; replace q145 := eq_true q145; have hnb28 := NB138_127.out; have hnc28 := NB127_138.out; have hcz29_0 : wc.cell? ⟨gb138, 0, none⟩ = some (.int .u8 t128) := (blk_cell BK138.out 0).trans rfl; have hcz29_1 : wc.cell? ⟨gb138, 1, none⟩ = some (.int .i64 t129) := (blk_cell BK138.out 1).trans rfl; have hcz29_2 : wc.cell? ⟨gb138, 2, none⟩ = some (.int .u8 t130) := (blk_cell BK138.out 2).trans rfl; have hcz29_3 : wc.cell? ⟨gb138, 3, none⟩ = some (.slice Ao9 t131.length co9) := (blk_cell BK138.out 3).trans rfl; have hcz29_4 : wc.cell? ⟨gb138, 4, none⟩ = some (.int .i64 x139004_1) := (blk_cell BK138.out 4).trans rfl; have hcz29_5 : wc.cell? ⟨gb138, 5, none⟩ = some (.bool x139005_1) := (blk_cell BK138.out 5).trans rfl; have hfz29_0 := blk_frozen BK138.out 0; have hfz29_1 := blk_frozen BK138.out 1; have hfz29_2 := blk_frozen BK138.out 2; have hfz29_3 := blk_frozen BK138.out 3; have hfz29_4 := blk_frozen BK138.out 4; have hfz29_5 := blk_frozen BK138.out 5))
                            go_roundg kj9
                            case measure => have := HK1.out; have := HJ9.out; omega
                            case rel => exact ⟨(wrap64 (x6_1 + (wrap64 (1 + t143)))), (x128000_1), (x128001_1), (x128002_1), (x128004_1), (x128005_1), (wrap64 (x139004_1 + 1)), (true), (by first | rfl | (simp; done) | (simp [*]; done)), H', ⟨by have := HK1.out; have := HJ9.out; omega⟩, ⟨by (with_reducible repeat (first | apply Kd.R_alloc | apply Kd.R_drewN | apply Kd.R_drew)); exact Kd.R_mono (Kd.R_far (p := ⟨gb138, 5, none⟩) (Kd.R_far (p := ⟨gb138, 4, none⟩) (Kd.R_types HO_139003.out BK138.out (by decide)) (fun _ hk => hk.2) (.int .i64 (wrap64 (x139004_1 + 1)))) (fun _ hk => hk.2) (.bool true)) (fun _ hk => trivial)⟩, ⟨by (with_reducible repeat (first | refine blk_drewN ?_ _ | refine blk_drew ?_ | refine blk_alloc ?_ _)); refine blk_far ?_ NB127_138.out _; (with_reducible repeat (first | refine blk_drewN ?_ _ | refine blk_drew ?_ | refine blk_alloc ?_ _)); refine blk_far ?_ NB127_138.out _; (with_reducible repeat (first | refine blk_drewN ?_ _ | refine blk_drew ?_ | refine blk_alloc ?_ _)); exact BK127.out⟩, ⟨by (with_reducible repeat (first | refine blk_drewN ?_ _ | refine blk_drew ?_ | refine blk_alloc ?_ _)); refine blk_put (cs := #[.int .u8 t128, .int .i64 t129, .int .u8 t130, .slice Ao9 t131.length co9, .int .i64 (wrap64 (x139004_1 + 1)), .bool x139005_1]) ?_ 5 _ rfl; (with_reducible repeat (first | refine blk_drewN ?_ _ | refine blk_drew ?_ | refine blk_alloc ?_ _)); refine blk_put (cs := #[.int .u8 t128, .int .i64 t129, .int .u8 t130, .slice Ao9 t131.length co9, .int .i64 x139004_1, .bool x139005_1]) ?_ 4 _ rfl; (with_reducible repeat (first | refine blk_drewN ?_ _ | refine blk_drew ?_ | refine blk_alloc ?_ _)); exact BK138.out⟩, ⟨by repeat (first | (with_reducible first | exact HB.out | apply below_alloc | apply pw_below_drewN | apply below_drew1 | refine below_set ?_ GE127.out | refine below_set ?_ GE138.out) | exact HB.out)⟩⟩
                        · rw [if_neg c22] at H
                          exact absurd H (by simp)
                      · rw [if_neg c21] at H
                        exact absurd H (by simp)
                    · rw [if_neg c20] at H
                      have c20b0 : (t143 == 0) = false := beq_eq_false_iff_ne.mpr c20
                      have c20b1 : (t143 != 0) = true := bne_iff_ne.mpr c20
                      by_cases c30 : 0 ≤ x6_1
                      · rw [if_pos c30] at H
                        have c30b0 : decide (0 ≤ x6_1) = true := decide_eq_true c30
                        clear c30
                        by_cases c31 : x6_1 < (l0.length : Int)
                        · rw [if_pos c31] at H
                          have c31b0 : decide (x6_1 < (l0.length : Int)) = true := decide_eq_true c31
                          clear c31
                          by_cases c32 : (rd l0 x6_1) = 45
                          · rw [if_pos c32] at H
                            have c32b0 : ((rd l0 x6_1) == 45) = true := beq_iff_eq.mpr c32
                            have c32b1 : ((rd l0 x6_1) != 45) = false := bne_eq_false_iff_eq.mpr c32
                            clear c32
                            have H' := Aside0.mk H
                            clear H
                            obtain ⟨i033, hi033, _, hsz33, _⟩ := info_parts info5
                            obtain ⟨A33, hcut33, hA33, hC33⟩ := print_drop_of (P := Tryd.prog) (Value.int .u8) 0 22 5 .i64 Tryd.underlying22 hi033 hsz33 A0 c0 l0 (ji15) (of_decide_eq_true (by first | (with_reducible assumption) | assumption)) (of_decide_eq_true (by first | (with_reducible assumption) | assumption)) HC0.out
                            have HR141 := Aside0.mk (Kd.C_of_reads (h1 := fun _ => rfl) (hA33 _ (Kd.reads_of_C HR0.out)))
                            have HC141 := Aside0.mk hC33
                            clear hA33 hC33 hi033 hsz33
                            go_wp2_with (first | ((with_reducible refine gate_callee (f := 26) rfl ?_); refine goesL_ (some 44) rfl rfl Tryd.func26 (by kernel_rfl) rfl #[.slice A33 (l0.drop ((ji15) : Int).toNat).length (c0 - (ji15).toNat)] rfl (by (try simp only [List.map_toArray, List.map_cons, List.map_nil]); first | done | (rw [show (l0.drop ((ji15) : Int).toNat).length = (l0.length - (ji15).toNat) from List.length_drop] <;> rfl) | (simp only [hji15]; rfl) | rfl | (simp only [List.length_drop, List.length_take]; rfl)) ?_; (with_reducible refine (address_number.calls kj9 _ _ (l0.drop ((ji15) : Int).toNat) t142 t143 true _ ?side1 ?side2 A18.out).mono ?_); (case side1 => repeat (first | exact (Kd.C_below HR141.out HB.out) | (with_reducible refine Kd.C_alloc ?_ _) | (with_reducible refine Kd.C_drewN ?_ _) | (with_reducible refine Kd.C_drew ?_))); (case side2 => exact HC141.out); rintro e w' ⟨rfl, ⟨nd, rfl⟩⟩; refine ⟨_, rfl, ?_⟩; (try (rw [drewN_self wc]; generalize hq_ : World.drewN wc _ = wc; have n0_ : Aside0 (Kd.R (Kd.int .u8) 5 wc w.heap.size (fun _ => True) (.slice Ao9 t131.length co9) t131) := ⟨by rw [← hq_]; exact (by (with_reducible repeat (first | apply Kd.R_alloc | apply Kd.R_drewN | apply Kd.R_drew)); exact HO_139003.out)⟩; have n1_ : Aside0 (wc.heap[gb127]? = some (.cells #[.int .u8 x128000_1, .int .i64 x128001_1, .int .u8 x128002_1, .slice none 0 0, .int .i64 x128004_1, .bool x128005_1] 25 (0, 0))) := ⟨by rw [← hq_]; exact (by (with_reducible repeat (first | refine blk_drewN ?_ _ | refine blk_drew ?_ | refine blk_alloc ?_ _)); exact BK127.out)⟩; have n2_ : Aside0 (wc.heap[gb138]? = some (.cells #[.int .u8 t128, .int .i64 t129, .int .u8 t130, .slice Ao9 t131.length co9, .int .i64 x139004_1, .bool x139005_1] 25 (0, 0))) := ⟨by rw [← hq_]; exact (by (with_reducible repeat (first | refine blk_drewN ?_ _ | refine blk_drew ?_ | refine blk_alloc ?_ _)); exact BK138.out)⟩; have n3_ : Aside0 (Below w.heap.size w wc) := ⟨by rw [← hq_]; exact (by repeat (first | (with_reducible first | exact HB.out | apply below_alloc | apply pw_below_drewN | apply below_drew1 | refine below_set ?_ GE127.out | refine below_set ?_ GE138.out) | exact HB.out))⟩; clear HO_139003 BK127 BK138 HB hq_; have HO_139003 := n0_; have BK127 := n1_; have BK138 := n2_; have HB := n3_; clear n0_ n1_ n2_ n3_)); (try have hcy127_0 : wc.cell? ⟨gb127, 0, none⟩ = some (.int .u8 x128000_1) := (blk_cell BK127.out 0).trans rfl); (try have hfy127_0 := blk_frozen BK127.out 0); (try have hcy127_1 : wc.cell? ⟨gb127, 1, none⟩ = some (.int .i64 x128001_1) := (blk_cell BK127.out 1).trans rfl); (try have hfy127_1 := blk_frozen BK127.out 1); (try have hcy127_2 : wc.cell? ⟨gb127, 2, none⟩ = some (.int .u8 x128002_1) := (blk_cell BK127.out 2).trans rfl); (try have hfy127_2 := blk_frozen BK127.out 2); (try have hcy127_3 : wc.cell? ⟨gb127, 3, none⟩ = some (.slice none 0 0) := (blk_cell BK127.out 3).trans rfl); (try have hfy127_3 := blk_frozen BK127.out 3); (try have hcy127_4 : wc.cell? ⟨gb127, 4, none⟩ = some (.int .i64 x128004_1) := (blk_cell BK127.out 4).trans rfl); (try have hfy127_4 := blk_frozen BK127.out 4); (try have hcy127_5 : wc.cell? ⟨gb127, 5, none⟩ = some (.bool x128005_1) := (blk_cell BK127.out 5).trans rfl); (try have hfy127_5 := blk_frozen BK127.out 5); (try have hcy138_0 : wc.cell? ⟨gb138, 0, none⟩ = some (.int .u8 t128) := (blk_cell BK138.out 0).trans rfl); (try have hfy138_0 := blk_frozen BK138.out 0); (try have hcy138_1 : wc.cell? ⟨gb138, 1, none⟩ = some (.int .i64 t129) := (blk_cell BK138.out 1).trans rfl); (try have hfy138_1 := blk_frozen BK138.out 1); (try have hcy138_2 : wc.cell? ⟨gb138, 2, none⟩ = some (.int .u8 t130) := (blk_cell BK138.out 2).trans rfl); (try have hfy138_2 := blk_frozen BK138.out 2); (try have hcy138_3 : wc.cell? ⟨gb138, 3, none⟩ = some (.slice Ao9 t131.length co9) := (blk_cell BK138.out 3).trans rfl); (try have hfy138_3 := blk_frozen BK138.out 3); (try have hcy138_4 : wc.cell? ⟨gb138, 4, none⟩ = some (.int .i64 x139004_1) := (blk_cell BK138.out 4).trans rfl); (try have hfy138_4 := blk_frozen BK138.out 4); (try have hcy138_5 : wc.cell? ⟨gb138, 5, none⟩ = some (.bool x139005_1) := (blk_cell BK138.out 5).trans rfl); (try have hfy138_5 := blk_frozen BK138.out 5); have p146 : 0 ≤ (x6_1 : Int) := of_decide_eq_true (by first | (with_reducible assumption) | assumption); have q146 : x6_1 < (l0.length : Int) := of_decide_eq_true (by first | (with_reducible assumption) | assumption); obtain ⟨ad146, e146, hx146_0⟩ := Kd.at_int HR0.out x6_1 p146 q146; cases e146; replace hx146_0 := (HB.out.cell (World.block_lt_of_cell? w _ hx146_0)).trans hx146_0; replace p146 := eq_true p146; replace q146 := eq_true q146; have hnb34 := NB138_127.out; have hnc34 := NB127_138.out; have hcz35_0 : wc.cell? ⟨gb138, 0, none⟩ = some (.int .u8 t128) := (blk_cell BK138.out 0).trans rfl; have hcz35_1 : wc.cell? ⟨gb138, 1, none⟩ = some (.int .i64 t129) := (blk_cell BK138.out 1).trans rfl; have hcz35_2 : wc.cell? ⟨gb138, 2, none⟩ = some (.int .u8 t130) := (blk_cell BK138.out 2).trans rfl; have hcz35_3 : wc.cell? ⟨gb138, 3, none⟩ = some (.slice Ao9 t131.length co9) := (blk_cell BK138.out 3).trans rfl; have hcz35_4 : wc.cell? ⟨gb138, 4, none⟩ = some (.int .i64 x139004_1) := (blk_cell BK138.out 4).trans rfl; have hcz35_5 : wc.cell? ⟨gb138, 5, none⟩ = some (.bool x139005_1) := (blk_cell BK138.out 5).trans rfl; have hfz35_0 := blk_frozen BK138.out 0; have hfz35_1 := blk_frozen BK138.out 1; have hfz35_2 := blk_frozen BK138.out 2; have hfz35_3 := blk_frozen BK138.out 3; have hfz35_4 := blk_frozen BK138.out 4; have hfz35_5 := blk_frozen BK138.out 5))
                            go_roundg kj9
                            case measure => have := HK1.out; have := HJ9.out; omega
                            case rel => exact ⟨(wrap64 (x6_1 + (wrap64 (1 + t143)))), (x128000_1), (x128001_1), (x128002_1), (x128004_1), (x128005_1), (wrap64 (x139004_1 + (wrap64 (-t142)))), (true), (by first | rfl | (simp; done) | (simp [*]; done)), H', ⟨by have := HK1.out; have := HJ9.out; omega⟩, ⟨by (with_reducible repeat (first | apply Kd.R_alloc | apply Kd.R_drewN | apply Kd.R_drew)); exact Kd.R_mono (Kd.R_far (p := ⟨gb138, 5, none⟩) (Kd.R_far (p := ⟨gb138, 4, none⟩) (Kd.R_types HO_139003.out BK138.out (by decide)) (fun _ hk => hk.2) (.int .i64 (wrap64 (x139004_1 + (wrap64 (-t142)))))) (fun _ hk => hk.2) (.bool true)) (fun _ hk => trivial)⟩, ⟨by (with_reducible repeat (first | refine blk_drewN ?_ _ | refine blk_drew ?_ | refine blk_alloc ?_ _)); refine blk_far ?_ NB127_138.out _; (with_reducible repeat (first | refine blk_drewN ?_ _ | refine blk_drew ?_ | refine blk_alloc ?_ _)); refine blk_far ?_ NB127_138.out _; (with_reducible repeat (first | refine blk_drewN ?_ _ | refine blk_drew ?_ | refine blk_alloc ?_ _)); exact BK127.out⟩, ⟨by (with_reducible repeat (first | refine blk_drewN ?_ _ | refine blk_drew ?_ | refine blk_alloc ?_ _)); refine blk_put (cs := #[.int .u8 t128, .int .i64 t129, .int .u8 t130, .slice Ao9 t131.length co9, .int .i64 (wrap64 (x139004_1 + (wrap64 (-t142)))), .bool x139005_1]) ?_ 5 _ rfl; (with_reducible repeat (first | refine blk_drewN ?_ _ | refine blk_drew ?_ | refine blk_alloc ?_ _)); refine blk_put (cs := #[.int .u8 t128, .int .i64 t129, .int .u8 t130, .slice Ao9 t131.length co9, .int .i64 x139004_1, .bool x139005_1]) ?_ 4 _ rfl; (with_reducible repeat (first | refine blk_drewN ?_ _ | refine blk_drew ?_ | refine blk_alloc ?_ _)); exact BK138.out⟩, ⟨by repeat (first | (with_reducible first | exact HB.out | apply below_alloc | apply pw_below_drewN | apply below_drew1 | refine below_set ?_ GE127.out | refine below_set ?_ GE138.out) | exact HB.out)⟩⟩
                          · rw [if_neg c32] at H
                            have c32b0 : ((rd l0 x6_1) == 45) = false := beq_eq_false_iff_ne.mpr c32
                            have c32b1 : ((rd l0 x6_1) != 45) = true := bne_iff_ne.mpr c32
                            have H' := Aside0.mk H
                            clear H
                            obtain ⟨i036, hi036, _, hsz36, _⟩ := info_parts info5
                            obtain ⟨A36, hcut36, hA36, hC36⟩ := print_drop_of (P := Tryd.prog) (Value.int .u8) 0 22 5 .i64 Tryd.underlying22 hi036 hsz36 A0 c0 l0 (ji15) (of_decide_eq_true (by first | (with_reducible assumption) | assumption)) (of_decide_eq_true (by first | (with_reducible assumption) | assumption)) HC0.out
                            have HR141 := Aside0.mk (Kd.C_of_reads (h1 := fun _ => rfl) (hA36 _ (Kd.reads_of_C HR0.out)))
                            have HC141 := Aside0.mk hC36
                            clear hA36 hC36 hi036 hsz36
                            go_wp2_with (first | ((with_reducible refine gate_callee (f := 26) rfl ?_); refine goesL_ (some 44) rfl rfl Tryd.func26 (by kernel_rfl) rfl #[.slice A36 (l0.drop ((ji15) : Int).toNat).length (c0 - (ji15).toNat)] rfl (by (try simp only [List.map_toArray, List.map_cons, List.map_nil]); first | done | (rw [show (l0.drop ((ji15) : Int).toNat).length = (l0.length - (ji15).toNat) from List.length_drop] <;> rfl) | (simp only [hji15]; rfl) | rfl | (simp only [List.length_drop, List.length_take]; rfl)) ?_; (with_reducible refine (address_number.calls kj9 _ _ (l0.drop ((ji15) : Int).toNat) t142 t143 true _ ?side1 ?side2 A18.out).mono ?_); (case side1 => repeat (first | exact (Kd.C_below HR141.out HB.out) | (with_reducible refine Kd.C_alloc ?_ _) | (with_reducible refine Kd.C_drewN ?_ _) | (with_reducible refine Kd.C_drew ?_))); (case side2 => exact HC141.out); rintro e w' ⟨rfl, ⟨nd, rfl⟩⟩; refine ⟨_, rfl, ?_⟩; (try (rw [drewN_self wc]; generalize hq_ : World.drewN wc _ = wc; have n0_ : Aside0 (Kd.R (Kd.int .u8) 5 wc w.heap.size (fun _ => True) (.slice Ao9 t131.length co9) t131) := ⟨by rw [← hq_]; exact (by (with_reducible repeat (first | apply Kd.R_alloc | apply Kd.R_drewN | apply Kd.R_drew)); exact HO_139003.out)⟩; have n1_ : Aside0 (wc.heap[gb127]? = some (.cells #[.int .u8 x128000_1, .int .i64 x128001_1, .int .u8 x128002_1, .slice none 0 0, .int .i64 x128004_1, .bool x128005_1] 25 (0, 0))) := ⟨by rw [← hq_]; exact (by (with_reducible repeat (first | refine blk_drewN ?_ _ | refine blk_drew ?_ | refine blk_alloc ?_ _)); exact BK127.out)⟩; have n2_ : Aside0 (wc.heap[gb138]? = some (.cells #[.int .u8 t128, .int .i64 t129, .int .u8 t130, .slice Ao9 t131.length co9, .int .i64 x139004_1, .bool x139005_1] 25 (0, 0))) := ⟨by rw [← hq_]; exact (by (with_reducible repeat (first | refine blk_drewN ?_ _ | refine blk_drew ?_ | refine blk_alloc ?_ _)); exact BK138.out)⟩; have n3_ : Aside0 (Below w.heap.size w wc) := ⟨by rw [← hq_]; exact (by repeat (first | (with_reducible first | exact HB.out | apply below_alloc | apply pw_below_drewN | apply below_drew1 | refine below_set ?_ GE127.out | refine below_set ?_ GE138.out) | exact HB.out))⟩; clear HO_139003 BK127 BK138 HB hq_; have HO_139003 := n0_; have BK127 := n1_; have BK138 := n2_; have HB := n3_; clear n0_ n1_ n2_ n3_)); (try have hcy127_0 : wc.cell? ⟨gb127, 0, none⟩ = some (.int .u8 x128000_1) := (blk_cell BK127.out 0).trans rfl); (try have hfy127_0 := blk_frozen BK127.out 0); (try have hcy127_1 : wc.cell? ⟨gb127, 1, none⟩ = some (.int .i64 x128001_1) := (blk_cell BK127.out 1).trans rfl); (try have hfy127_1 := blk_frozen BK127.out 1); (try have hcy127_2 : wc.cell? ⟨gb127, 2, none⟩ = some (.int .u8 x128002_1) := (blk_cell BK127.out 2).trans rfl); (try have hfy127_2 := blk_frozen BK127.out 2); (try have hcy127_3 : wc.cell? ⟨gb127, 3, none⟩ = some (.slice none 0 0) := (blk_cell BK127.out 3).trans rfl); (try have hfy127_3 := blk_frozen BK127.out 3); (try have hcy127_4 : wc.cell? ⟨gb127, 4, none⟩ = some (.int .i64 x128004_1) := (blk_cell BK127.out 4).trans rfl); (try have hfy127_4 := blk_frozen BK127.out 4); (try have hcy127_5 : wc.cell? ⟨gb127, 5, none⟩ = some (.bool x128005_1) := (blk_cell BK127.out 5).trans rfl); (try have hfy127_5 := blk_frozen BK127.out 5); (try have hcy138_0 : wc.cell? ⟨gb138, 0, none⟩ = some (.int .u8 t128) := (blk_cell BK138.out 0).trans rfl); (try have hfy138_0 := blk_frozen BK138.out 0); (try have hcy138_1 : wc.cell? ⟨gb138, 1, none⟩ = some (.int .i64 t129) := (blk_cell BK138.out 1).trans rfl); (try have hfy138_1 := blk_frozen BK138.out 1); (try have hcy138_2 : wc.cell? ⟨gb138, 2, none⟩ = some (.int .u8 t130) := (blk_cell BK138.out 2).trans rfl); (try have hfy138_2 := blk_frozen BK138.out 2); (try have hcy138_3 : wc.cell? ⟨gb138, 3, none⟩ = some (.slice Ao9 t131.length co9) := (blk_cell BK138.out 3).trans rfl); (try have hfy138_3 := blk_frozen BK138.out 3); (try have hcy138_4 : wc.cell? ⟨gb138, 4, none⟩ = some (.int .i64 x139004_1) := (blk_cell BK138.out 4).trans rfl); (try have hfy138_4 := blk_frozen BK138.out 4); (try have hcy138_5 : wc.cell? ⟨gb138, 5, none⟩ = some (.bool x139005_1) := (blk_cell BK138.out 5).trans rfl); (try have hfy138_5 := blk_frozen BK138.out 5); have p146 : 0 ≤ (x6_1 : Int) := of_decide_eq_true (by first | (with_reducible assumption) | assumption); have q146 : x6_1 < (l0.length : Int) := of_decide_eq_true (by first | (with_reducible assumption) | assumption); obtain ⟨ad146, e146, hx146_0⟩ := Kd.at_int HR0.out x6_1 p146 q146; cases e146; replace hx146_0 := (HB.out.cell (World.block_lt_of_cell? w _ hx146_0)).trans hx146_0; replace p146 := eq_true p146; replace q146 := eq_true q146; have hnb37 := NB138_127.out; have hnc37 := NB127_138.out; have hcz38_0 : wc.cell? ⟨gb138, 0, none⟩ = some (.int .u8 t128) := (blk_cell BK138.out 0).trans rfl; have hcz38_1 : wc.cell? ⟨gb138, 1, none⟩ = some (.int .i64 t129) := (blk_cell BK138.out 1).trans rfl; have hcz38_2 : wc.cell? ⟨gb138, 2, none⟩ = some (.int .u8 t130) := (blk_cell BK138.out 2).trans rfl; have hcz38_3 : wc.cell? ⟨gb138, 3, none⟩ = some (.slice Ao9 t131.length co9) := (blk_cell BK138.out 3).trans rfl; have hcz38_4 : wc.cell? ⟨gb138, 4, none⟩ = some (.int .i64 x139004_1) := (blk_cell BK138.out 4).trans rfl; have hcz38_5 : wc.cell? ⟨gb138, 5, none⟩ = some (.bool x139005_1) := (blk_cell BK138.out 5).trans rfl; have hfz38_0 := blk_frozen BK138.out 0; have hfz38_1 := blk_frozen BK138.out 1; have hfz38_2 := blk_frozen BK138.out 2; have hfz38_3 := blk_frozen BK138.out 3; have hfz38_4 := blk_frozen BK138.out 4; have hfz38_5 := blk_frozen BK138.out 5))
                            go_roundg kj9
                            case measure => have := HK1.out; have := HJ9.out; omega
                            case rel => exact ⟨(wrap64 (x6_1 + (wrap64 (1 + t143)))), (x128000_1), (x128001_1), (x128002_1), (x128004_1), (x128005_1), (wrap64 (x139004_1 + t142)), (true), (by first | rfl | (simp; done) | (simp [*]; done)), H', ⟨by have := HK1.out; have := HJ9.out; omega⟩, ⟨by (with_reducible repeat (first | apply Kd.R_alloc | apply Kd.R_drewN | apply Kd.R_drew)); exact Kd.R_mono (Kd.R_far (p := ⟨gb138, 5, none⟩) (Kd.R_far (p := ⟨gb138, 4, none⟩) (Kd.R_types HO_139003.out BK138.out (by decide)) (fun _ hk => hk.2) (.int .i64 (wrap64 (x139004_1 + t142)))) (fun _ hk => hk.2) (.bool true)) (fun _ hk => trivial)⟩, ⟨by (with_reducible repeat (first | refine blk_drewN ?_ _ | refine blk_drew ?_ | refine blk_alloc ?_ _)); refine blk_far ?_ NB127_138.out _; (with_reducible repeat (first | refine blk_drewN ?_ _ | refine blk_drew ?_ | refine blk_alloc ?_ _)); refine blk_far ?_ NB127_138.out _; (with_reducible repeat (first | refine blk_drewN ?_ _ | refine blk_drew ?_ | refine blk_alloc ?_ _)); exact BK127.out⟩, ⟨by (with_reducible repeat (first | refine blk_drewN ?_ _ | refine blk_drew ?_ | refine blk_alloc ?_ _)); refine blk_put (cs := #[.int .u8 t128, .int .i64 t129, .int .u8 t130, .slice Ao9 t131.length co9, .int .i64 (wrap64 (x139004_1 + t142)), .bool x139005_1]) ?_ 5 _ rfl; (with_reducible repeat (first | refine blk_drewN ?_ _ | refine blk_drew ?_ | refine blk_alloc ?_ _)); refine blk_put (cs := #[.int .u8 t128, .int .i64 t129, .int .u8 t130, .slice Ao9 t131.length co9, .int .i64 x139004_1, .bool x139005_1]) ?_ 4 _ rfl; (with_reducible repeat (first | refine blk_drewN ?_ _ | refine blk_drew ?_ | refine blk_alloc ?_ _)); exact BK138.out⟩, ⟨by repeat (first | (with_reducible first | exact HB.out | apply below_alloc | apply pw_below_drewN | apply below_drew1 | refine below_set ?_ GE127.out | refine below_set ?_ GE138.out) | exact HB.out)⟩⟩
                        · rw [if_neg c31] at H
                          exact absurd H (by simp)
                      · rw [if_neg c30] at H
                        exact absurd H (by simp)
                  · replace c19 := Bool.eq_false_iff.mpr c19
                    subst c19
                    have H1 : (some (0, 0, 0, ([] : List Int), 0, false, 0, 230)) = some (r1, r2, r3, r4, r5, r6, r7, r8) := by rw [if_neg (show ¬ (false = true) by decide)] at H; exact H
                    clear H
                    have H := H1
                    clear H1
                    simp only [Option.some.injEq, Prod.mk.injEq] at H
                    obtain ⟨rfl, rfl, rfl, rfl, rfl, rfl, rfl, rfl⟩ := H
                    obtain ⟨i039, hi039, _, hsz39, _⟩ := info_parts info5
                    obtain ⟨A39, hcut39, hA39, hC39⟩ := print_drop_of (P := Tryd.prog) (Value.int .u8) 0 22 5 .i64 Tryd.underlying22 hi039 hsz39 A0 c0 l0 (ji15) (of_decide_eq_true (by first | (with_reducible assumption) | assumption)) (of_decide_eq_true (by first | (with_reducible assumption) | assumption)) HC0.out
                    have HR141 := Aside0.mk (Kd.C_of_reads (h1 := fun _ => rfl) (hA39 _ (Kd.reads_of_C HR0.out)))
                    have HC141 := Aside0.mk hC39
                    clear hA39 hC39 hi039 hsz39
                    go_wp2_with (first | ((with_reducible refine gate_callee (f := 26) rfl ?_); refine goesL_ (some 44) rfl rfl Tryd.func26 (by kernel_rfl) rfl #[.slice A39 (l0.drop ((ji15) : Int).toNat).length (c0 - (ji15).toNat)] rfl (by (try simp only [List.map_toArray, List.map_cons, List.map_nil]); first | done | (rw [show (l0.drop ((ji15) : Int).toNat).length = (l0.length - (ji15).toNat) from List.length_drop] <;> rfl) | (simp only [hji15]; rfl) | rfl | (simp only [List.length_drop, List.length_take]; rfl)) ?_; (with_reducible refine (address_number.calls kj9 _ _ (l0.drop ((ji15) : Int).toNat) t142 t143 false _ ?side1 ?side2 A18.out).mono ?_); (case side1 => repeat (first | exact (Kd.C_below HR141.out HB.out) | (with_reducible refine Kd.C_alloc ?_ _) | (with_reducible refine Kd.C_drewN ?_ _) | (with_reducible refine Kd.C_drew ?_))); (case side2 => exact HC141.out); rintro e w' ⟨rfl, ⟨nd, rfl⟩⟩; refine ⟨_, rfl, ?_⟩; (try (rw [drewN_self wc]; generalize hq_ : World.drewN wc _ = wc; have n0_ : Aside0 (Kd.R (Kd.int .u8) 5 wc w.heap.size (fun _ => True) (.slice Ao9 t131.length co9) t131) := ⟨by rw [← hq_]; exact (by (with_reducible repeat (first | apply Kd.R_alloc | apply Kd.R_drewN | apply Kd.R_drew)); exact HO_139003.out)⟩; have n1_ : Aside0 (wc.heap[gb127]? = some (.cells #[.int .u8 x128000_1, .int .i64 x128001_1, .int .u8 x128002_1, .slice none 0 0, .int .i64 x128004_1, .bool x128005_1] 25 (0, 0))) := ⟨by rw [← hq_]; exact (by (with_reducible repeat (first | refine blk_drewN ?_ _ | refine blk_drew ?_ | refine blk_alloc ?_ _)); exact BK127.out)⟩; have n2_ : Aside0 (wc.heap[gb138]? = some (.cells #[.int .u8 t128, .int .i64 t129, .int .u8 t130, .slice Ao9 t131.length co9, .int .i64 x139004_1, .bool x139005_1] 25 (0, 0))) := ⟨by rw [← hq_]; exact (by (with_reducible repeat (first | refine blk_drewN ?_ _ | refine blk_drew ?_ | refine blk_alloc ?_ _)); exact BK138.out)⟩; have n3_ : Aside0 (Below w.heap.size w wc) := ⟨by rw [← hq_]; exact (by repeat (first | (with_reducible first | exact HB.out | apply below_alloc | apply pw_below_drewN | apply below_drew1 | refine below_set ?_ GE127.out | refine below_set ?_ GE138.out) | exact HB.out))⟩; clear HO_139003 BK127 BK138 HB hq_; have HO_139003 := n0_; have BK127 := n1_; have BK138 := n2_; have HB := n3_; clear n0_ n1_ n2_ n3_)); (try have hcy127_0 : wc.cell? ⟨gb127, 0, none⟩ = some (.int .u8 x128000_1) := (blk_cell BK127.out 0).trans rfl); (try have hfy127_0 := blk_frozen BK127.out 0); (try have hcy127_1 : wc.cell? ⟨gb127, 1, none⟩ = some (.int .i64 x128001_1) := (blk_cell BK127.out 1).trans rfl); (try have hfy127_1 := blk_frozen BK127.out 1); (try have hcy127_2 : wc.cell? ⟨gb127, 2, none⟩ = some (.int .u8 x128002_1) := (blk_cell BK127.out 2).trans rfl); (try have hfy127_2 := blk_frozen BK127.out 2); (try have hcy127_3 : wc.cell? ⟨gb127, 3, none⟩ = some (.slice none 0 0) := (blk_cell BK127.out 3).trans rfl); (try have hfy127_3 := blk_frozen BK127.out 3); (try have hcy127_4 : wc.cell? ⟨gb127, 4, none⟩ = some (.int .i64 x128004_1) := (blk_cell BK127.out 4).trans rfl); (try have hfy127_4 := blk_frozen BK127.out 4); (try have hcy127_5 : wc.cell? ⟨gb127, 5, none⟩ = some (.bool x128005_1) := (blk_cell BK127.out 5).trans rfl); (try have hfy127_5 := blk_frozen BK127.out 5); (try have hcy138_0 : wc.cell? ⟨gb138, 0, none⟩ = some (.int .u8 t128) := (blk_cell BK138.out 0).trans rfl); (try have hfy138_0 := blk_frozen BK138.out 0); (try have hcy138_1 : wc.cell? ⟨gb138, 1, none⟩ = some (.int .i64 t129) := (blk_cell BK138.out 1).trans rfl); (try have hfy138_1 := blk_frozen BK138.out 1); (try have hcy138_2 : wc.cell? ⟨gb138, 2, none⟩ = some (.int .u8 t130) := (blk_cell BK138.out 2).trans rfl); (try have hfy138_2 := blk_frozen BK138.out 2); (try have hcy138_3 : wc.cell? ⟨gb138, 3, none⟩ = some (.slice Ao9 t131.length co9) := (blk_cell BK138.out 3).trans rfl); (try have hfy138_3 := blk_frozen BK138.out 3); (try have hcy138_4 : wc.cell? ⟨gb138, 4, none⟩ = some (.int .i64 x139004_1) := (blk_cell BK138.out 4).trans rfl); (try have hfy138_4 := blk_frozen BK138.out 4); (try have hcy138_5 : wc.cell? ⟨gb138, 5, none⟩ = some (.bool x139005_1) := (blk_cell BK138.out 5).trans rfl); (try have hfy138_5 := blk_frozen BK138.out 5); have hnb40 := NB127_138.out; have hnc40 := NB138_127.out; have hcz41_0 : wc.cell? ⟨gb127, 0, none⟩ = some (.int .u8 x128000_1) := (blk_cell BK127.out 0).trans rfl; have hcz41_1 : wc.cell? ⟨gb127, 1, none⟩ = some (.int .i64 x128001_1) := (blk_cell BK127.out 1).trans rfl; have hcz41_2 : wc.cell? ⟨gb127, 2, none⟩ = some (.int .u8 x128002_1) := (blk_cell BK127.out 2).trans rfl; have hcz41_3 : wc.cell? ⟨gb127, 3, none⟩ = some (.slice none 0 0) := (blk_cell BK127.out 3).trans rfl; have hcz41_4 : wc.cell? ⟨gb127, 4, none⟩ = some (.int .i64 x128004_1) := (blk_cell BK127.out 4).trans rfl; have hcz41_5 : wc.cell? ⟨gb127, 5, none⟩ = some (.bool x128005_1) := (blk_cell BK127.out 5).trans rfl; have hfz41_0 := blk_frozen BK127.out 0; have hfz41_1 := blk_frozen BK127.out 1; have hfz41_2 := blk_frozen BK127.out 2; have hfz41_3 := blk_frozen BK127.out 3; have hfz41_4 := blk_frozen BK127.out 4; have hfz41_5 := blk_frozen BK127.out 5))
                    refine bodyPost_ret (results_ctt rfl _ _ gb127 25 #[.int .u8 0, .int .i64 0, .int .u8 0, .slice none 0 0, .int .i64 0, .bool false] (0, 0) _ rfl (by (with_reducible repeat (first | refine blk_drewN ?_ _ | refine blk_drew ?_ | refine blk_alloc ?_ _)); refine blk_put (cs := #[.int .u8 0, .int .i64 0, .int .u8 0, .slice none 0 0, .int .i64 0, .bool x128005_1]) ?_ 5 _ rfl; (with_reducible repeat (first | refine blk_drewN ?_ _ | refine blk_drew ?_ | refine blk_alloc ?_ _)); refine blk_put (cs := #[.int .u8 0, .int .i64 0, .int .u8 0, .slice none 0 0, .int .i64 x128004_1, .bool x128005_1]) ?_ 4 _ rfl; (with_reducible repeat (first | refine blk_drewN ?_ _ | refine blk_drew ?_ | refine blk_alloc ?_ _)); refine blk_put (cs := #[.int .u8 0, .int .i64 0, .int .u8 0, .slice none 0 0, .int .i64 x128004_1, .bool x128005_1]) ?_ 3 _ rfl; (with_reducible repeat (first | refine blk_drewN ?_ _ | refine blk_drew ?_ | refine blk_alloc ?_ _)); refine blk_put (cs := #[.int .u8 0, .int .i64 0, .int .u8 x128002_1, .slice none 0 0, .int .i64 x128004_1, .bool x128005_1]) ?_ 2 _ rfl; (with_reducible repeat (first | refine blk_drewN ?_ _ | refine blk_drew ?_ | refine blk_alloc ?_ _)); refine blk_put (cs := #[.int .u8 0, .int .i64 x128001_1, .int .u8 x128002_1, .slice none 0 0, .int .i64 x128004_1, .bool x128005_1]) ?_ 1 _ rfl; (with_reducible repeat (first | refine blk_drewN ?_ _ | refine blk_drew ?_ | refine blk_alloc ?_ _)); refine blk_put (cs := #[.int .u8 x128000_1, .int .i64 x128001_1, .int .u8 x128002_1, .slice none 0 0, .int .i64 x128004_1, .bool x128005_1]) ?_ 0 _ rfl; (with_reducible repeat (first | refine blk_drewN ?_ _ | refine blk_drew ?_ | refine blk_alloc ?_ _)); exact BK127.out) Tryd.underlying25 rfl (by kernel_rfl)) rfl ?_
                    exact ⟨_, by first | rfl | (simp [errW_none, errW_some] <;> rfl) | (simp only [← hji15]; first | rfl | (simp [errW_none, errW_some] <;> rfl)) | (simp [*, errW_none, errW_some] <;> rfl), by first | exact Kd.R_nil _ _ _ _ _ | exact Kd.N_nil _ _ _ _ _ | exact Kd.V_nil _ _ _ _ _ | exact Kd.Q_nil _ _ _ _ _ | exact Kd.S_nil _ _ _ _ _, by repeat (first | (with_reducible first | exact HB.out | apply below_alloc | apply pw_below_drewN | apply below_drew1 | refine below_set ?_ GE127.out | refine below_set ?_ GE138.out) | exact HB.out)⟩
                · rw [if_neg c17] at H
                  exact absurd H (by simp)
              · rw [if_neg c16] at H
                exact absurd H (by simp)
            · replace c14 := Bool.eq_false_iff.mpr c14
              subst c14
              have H1 : (if x139004_1 < (-999999999) then (some (0, 0, 0, ([] : List Int), 0, false, 0, 230)) else (if x139004_1 > 999999999 then (some (0, 0, 0, ([] : List Int), 0, false, 0, 230)) else (some (t128, t129, t130, t131, x139004_1, x139005_1, x6_1, 0)))) = some (r1, r2, r3, r4, r5, r6, r7, r8) := by rw [if_neg (show ¬ (false = true) by decide)] at H; exact H
              clear H
              have H := H1
              clear H1
              by_cases c42 : x139004_1 < (-999999999)
              · rw [if_pos c42] at H
                have c42b0 : decide (x139004_1 < (-999999999)) = true := decide_eq_true c42
                clear c42
                simp only [Option.some.injEq, Prod.mk.injEq] at H
                obtain ⟨rfl, rfl, rfl, rfl, rfl, rfl, rfl, rfl⟩ := H
                have hnb43 := NB138_127.out
                have hnc43 := NB127_138.out
                have hcz44_0 : wc.cell? ⟨gb138, 0, none⟩ = some (.int .u8 t128) := (blk_cell BK138.out 0).trans rfl
                have hcz44_1 : wc.cell? ⟨gb138, 1, none⟩ = some (.int .i64 t129) := (blk_cell BK138.out 1).trans rfl
                have hcz44_2 : wc.cell? ⟨gb138, 2, none⟩ = some (.int .u8 t130) := (blk_cell BK138.out 2).trans rfl
                have hcz44_3 : wc.cell? ⟨gb138, 3, none⟩ = some (.slice Ao9 t131.length co9) := (blk_cell BK138.out 3).trans rfl
                have hcz44_4 : wc.cell? ⟨gb138, 4, none⟩ = some (.int .i64 x139004_1) := (blk_cell BK138.out 4).trans rfl
                have hcz44_5 : wc.cell? ⟨gb138, 5, none⟩ = some (.bool x139005_1) := (blk_cell BK138.out 5).trans rfl
                have hfz44_0 := blk_frozen BK138.out 0
                have hfz44_1 := blk_frozen BK138.out 1
                have hfz44_2 := blk_frozen BK138.out 2
                have hfz44_3 := blk_frozen BK138.out 3
                have hfz44_4 := blk_frozen BK138.out 4
                have hfz44_5 := blk_frozen BK138.out 5
                have hcz45_0 : wc.cell? ⟨gb127, 0, none⟩ = some (.int .u8 x128000_1) := (blk_cell BK127.out 0).trans rfl
                have hcz45_1 : wc.cell? ⟨gb127, 1, none⟩ = some (.int .i64 x128001_1) := (blk_cell BK127.out 1).trans rfl
                have hcz45_2 : wc.cell? ⟨gb127, 2, none⟩ = some (.int .u8 x128002_1) := (blk_cell BK127.out 2).trans rfl
                have hcz45_3 : wc.cell? ⟨gb127, 3, none⟩ = some (.slice none 0 0) := (blk_cell BK127.out 3).trans rfl
                have hcz45_4 : wc.cell? ⟨gb127, 4, none⟩ = some (.int .i64 x128004_1) := (blk_cell BK127.out 4).trans rfl
                have hcz45_5 : wc.cell? ⟨gb127, 5, none⟩ = some (.bool x128005_1) := (blk_cell BK127.out 5).trans rfl
                have hfz45_0 := blk_frozen BK127.out 0
                have hfz45_1 := blk_frozen BK127.out 1
                have hfz45_2 := blk_frozen BK127.out 2
                have hfz45_3 := blk_frozen BK127.out 3
                have hfz45_4 := blk_frozen BK127.out 4
                have hfz45_5 := blk_frozen BK127.out 5
                go_wp2
                refine bodyPost_ret (results_ctt rfl _ _ gb127 25 #[.int .u8 0, .int .i64 0, .int .u8 0, .slice none 0 0, .int .i64 0, .bool false] (0, 0) _ rfl (by (with_reducible repeat (first | refine blk_drewN ?_ _ | refine blk_drew ?_ | refine blk_alloc ?_ _)); refine blk_put (cs := #[.int .u8 0, .int .i64 0, .int .u8 0, .slice none 0 0, .int .i64 0, .bool x128005_1]) ?_ 5 _ rfl; (with_reducible repeat (first | refine blk_drewN ?_ _ | refine blk_drew ?_ | refine blk_alloc ?_ _)); refine blk_put (cs := #[.int .u8 0, .int .i64 0, .int .u8 0, .slice none 0 0, .int .i64 x128004_1, .bool x128005_1]) ?_ 4 _ rfl; (with_reducible repeat (first | refine blk_drewN ?_ _ | refine blk_drew ?_ | refine blk_alloc ?_ _)); refine blk_put (cs := #[.int .u8 0, .int .i64 0, .int .u8 0, .slice none 0 0, .int .i64 x128004_1, .bool x128005_1]) ?_ 3 _ rfl; (with_reducible repeat (first | refine blk_drewN ?_ _ | refine blk_drew ?_ | refine blk_alloc ?_ _)); refine blk_put (cs := #[.int .u8 0, .int .i64 0, .int .u8 x128002_1, .slice none 0 0, .int .i64 x128004_1, .bool x128005_1]) ?_ 2 _ rfl; (with_reducible repeat (first | refine blk_drewN ?_ _ | refine blk_drew ?_ | refine blk_alloc ?_ _)); refine blk_put (cs := #[.int .u8 0, .int .i64 x128001_1, .int .u8 x128002_1, .slice none 0 0, .int .i64 x128004_1, .bool x128005_1]) ?_ 1 _ rfl; (with_reducible repeat (first | refine blk_drewN ?_ _ | refine blk_drew ?_ | refine blk_alloc ?_ _)); refine blk_put (cs := #[.int .u8 x128000_1, .int .i64 x128001_1, .int .u8 x128002_1, .slice none 0 0, .int .i64 x128004_1, .bool x128005_1]) ?_ 0 _ rfl; (with_reducible repeat (first | refine blk_drewN ?_ _ | refine blk_drew ?_ | refine blk_alloc ?_ _)); exact BK127.out) Tryd.underlying25 rfl (by kernel_rfl)) rfl ?_
                exact ⟨_, by first | rfl | (simp [errW_none, errW_some] <;> rfl) | (simp [*, errW_none, errW_some] <;> rfl), by first | exact Kd.R_nil _ _ _ _ _ | exact Kd.N_nil _ _ _ _ _ | exact Kd.V_nil _ _ _ _ _ | exact Kd.Q_nil _ _ _ _ _ | exact Kd.S_nil _ _ _ _ _, by repeat (first | (with_reducible first | exact HB.out | apply below_alloc | apply pw_below_drewN | apply below_drew1 | refine below_set ?_ GE127.out | refine below_set ?_ GE138.out) | exact HB.out)⟩
              · rw [if_neg c42] at H
                have c42b0 : decide (x139004_1 < (-999999999)) = false := decide_eq_false c42
                clear c42
                by_cases c46 : x139004_1 > 999999999
                · rw [if_pos c46] at H
                  have c46b0 : decide (999999999 < x139004_1) = true := decide_eq_true c46
                  clear c46
                  simp only [Option.some.injEq, Prod.mk.injEq] at H
                  obtain ⟨rfl, rfl, rfl, rfl, rfl, rfl, rfl, rfl⟩ := H
                  have hnb47 := NB138_127.out
                  have hnc47 := NB127_138.out
                  have hcz48_0 : wc.cell? ⟨gb138, 0, none⟩ = some (.int .u8 t128) := (blk_cell BK138.out 0).trans rfl
                  have hcz48_1 : wc.cell? ⟨gb138, 1, none⟩ = some (.int .i64 t129) := (blk_cell BK138.out 1).trans rfl
                  have hcz48_2 : wc.cell? ⟨gb138, 2, none⟩ = some (.int .u8 t130) := (blk_cell BK138.out 2).trans rfl
                  have hcz48_3 : wc.cell? ⟨gb138, 3, none⟩ = some (.slice Ao9 t131.length co9) := (blk_cell BK138.out 3).trans rfl
                  have hcz48_4 : wc.cell? ⟨gb138, 4, none⟩ = some (.int .i64 x139004_1) := (blk_cell BK138.out 4).trans rfl
                  have hcz48_5 : wc.cell? ⟨gb138, 5, none⟩ = some (.bool x139005_1) := (blk_cell BK138.out 5).trans rfl
                  have hfz48_0 := blk_frozen BK138.out 0
                  have hfz48_1 := blk_frozen BK138.out 1
                  have hfz48_2 := blk_frozen BK138.out 2
                  have hfz48_3 := blk_frozen BK138.out 3
                  have hfz48_4 := blk_frozen BK138.out 4
                  have hfz48_5 := blk_frozen BK138.out 5
                  have hcz49_0 : wc.cell? ⟨gb127, 0, none⟩ = some (.int .u8 x128000_1) := (blk_cell BK127.out 0).trans rfl
                  have hcz49_1 : wc.cell? ⟨gb127, 1, none⟩ = some (.int .i64 x128001_1) := (blk_cell BK127.out 1).trans rfl
                  have hcz49_2 : wc.cell? ⟨gb127, 2, none⟩ = some (.int .u8 x128002_1) := (blk_cell BK127.out 2).trans rfl
                  have hcz49_3 : wc.cell? ⟨gb127, 3, none⟩ = some (.slice none 0 0) := (blk_cell BK127.out 3).trans rfl
                  have hcz49_4 : wc.cell? ⟨gb127, 4, none⟩ = some (.int .i64 x128004_1) := (blk_cell BK127.out 4).trans rfl
                  have hcz49_5 : wc.cell? ⟨gb127, 5, none⟩ = some (.bool x128005_1) := (blk_cell BK127.out 5).trans rfl
                  have hfz49_0 := blk_frozen BK127.out 0
                  have hfz49_1 := blk_frozen BK127.out 1
                  have hfz49_2 := blk_frozen BK127.out 2
                  have hfz49_3 := blk_frozen BK127.out 3
                  have hfz49_4 := blk_frozen BK127.out 4
                  have hfz49_5 := blk_frozen BK127.out 5
                  go_wp2
                  refine bodyPost_ret (results_ctt rfl _ _ gb127 25 #[.int .u8 0, .int .i64 0, .int .u8 0, .slice none 0 0, .int .i64 0, .bool false] (0, 0) _ rfl (by (with_reducible repeat (first | refine blk_drewN ?_ _ | refine blk_drew ?_ | refine blk_alloc ?_ _)); refine blk_put (cs := #[.int .u8 0, .int .i64 0, .int .u8 0, .slice none 0 0, .int .i64 0, .bool x128005_1]) ?_ 5 _ rfl; (with_reducible repeat (first | refine blk_drewN ?_ _ | refine blk_drew ?_ | refine blk_alloc ?_ _)); refine blk_put (cs := #[.int .u8 0, .int .i64 0, .int .u8 0, .slice none 0 0, .int .i64 x128004_1, .bool x128005_1]) ?_ 4 _ rfl; (with_reducible repeat (first | refine blk_drewN ?_ _ | refine blk_drew ?_ | refine blk_alloc ?_ _)); refine blk_put (cs := #[.int .u8 0, .int .i64 0, .int .u8 0, .slice none 0 0, .int .i64 x128004_1, .bool x128005_1]) ?_ 3 _ rfl; (with_reducible repeat (first | refine blk_drewN ?_ _ | refine blk_drew ?_ | refine blk_alloc ?_ _)); refine blk_put (cs := #[.int .u8 0, .int .i64 0, .int .u8 x128002_1, .slice none 0 0, .int .i64 x128004_1, .bool x128005_1]) ?_ 2 _ rfl; (with_reducible repeat (first | refine blk_drewN ?_ _ | refine blk_drew ?_ | refine blk_alloc ?_ _)); refine blk_put (cs := #[.int .u8 0, .int .i64 x128001_1, .int .u8 x128002_1, .slice none 0 0, .int .i64 x128004_1, .bool x128005_1]) ?_ 1 _ rfl; (with_reducible repeat (first | refine blk_drewN ?_ _ | refine blk_drew ?_ | refine blk_alloc ?_ _)); refine blk_put (cs := #[.int .u8 x128000_1, .int .i64 x128001_1, .int .u8 x128002_1, .slice none 0 0, .int .i64 x128004_1, .bool x128005_1]) ?_ 0 _ rfl; (with_reducible repeat (first | refine blk_drewN ?_ _ | refine blk_drew ?_ | refine blk_alloc ?_ _)); exact BK127.out) Tryd.underlying25 rfl (by kernel_rfl)) rfl ?_
                  exact ⟨_, by first | rfl | (simp [errW_none, errW_some] <;> rfl) | (simp [*, errW_none, errW_some] <;> rfl), by first | exact Kd.R_nil _ _ _ _ _ | exact Kd.N_nil _ _ _ _ _ | exact Kd.V_nil _ _ _ _ _ | exact Kd.Q_nil _ _ _ _ _ | exact Kd.S_nil _ _ _ _ _, by repeat (first | (with_reducible first | exact HB.out | apply below_alloc | apply pw_below_drewN | apply below_drew1 | refine below_set ?_ GE127.out | refine below_set ?_ GE138.out) | exact HB.out)⟩
                · rw [if_neg c46] at H
                  have c46b0 : decide (999999999 < x139004_1) = false := decide_eq_false c46
                  clear c46
                  simp only [Option.some.injEq, Prod.mk.injEq] at H
                  obtain ⟨rfl, rfl, rfl, rfl, rfl, rfl, rfl, rfl⟩ := H
                  have hnb50 := NB138_127.out
                  have hnc50 := NB127_138.out
                  have hcz51_0 : wc.cell? ⟨gb138, 0, none⟩ = some (.int .u8 t128) := (blk_cell BK138.out 0).trans rfl
                  have hcz51_1 : wc.cell? ⟨gb138, 1, none⟩ = some (.int .i64 t129) := (blk_cell BK138.out 1).trans rfl
                  have hcz51_2 : wc.cell? ⟨gb138, 2, none⟩ = some (.int .u8 t130) := (blk_cell BK138.out 2).trans rfl
                  have hcz51_3 : wc.cell? ⟨gb138, 3, none⟩ = some (.slice Ao9 t131.length co9) := (blk_cell BK138.out 3).trans rfl
                  have hcz51_4 : wc.cell? ⟨gb138, 4, none⟩ = some (.int .i64 x139004_1) := (blk_cell BK138.out 4).trans rfl
                  have hcz51_5 : wc.cell? ⟨gb138, 5, none⟩ = some (.bool x139005_1) := (blk_cell BK138.out 5).trans rfl
                  have hfz51_0 := blk_frozen BK138.out 0
                  have hfz51_1 := blk_frozen BK138.out 1
                  have hfz51_2 := blk_frozen BK138.out 2
                  have hfz51_3 := blk_frozen BK138.out 3
                  have hfz51_4 := blk_frozen BK138.out 4
                  have hfz51_5 := blk_frozen BK138.out 5
                  have hcz52_0 : wc.cell? ⟨gb127, 0, none⟩ = some (.int .u8 x128000_1) := (blk_cell BK127.out 0).trans rfl
                  have hcz52_1 : wc.cell? ⟨gb127, 1, none⟩ = some (.int .i64 x128001_1) := (blk_cell BK127.out 1).trans rfl
                  have hcz52_2 : wc.cell? ⟨gb127, 2, none⟩ = some (.int .u8 x128002_1) := (blk_cell BK127.out 2).trans rfl
                  have hcz52_3 : wc.cell? ⟨gb127, 3, none⟩ = some (.slice none 0 0) := (blk_cell BK127.out 3).trans rfl
                  have hcz52_4 : wc.cell? ⟨gb127, 4, none⟩ = some (.int .i64 x128004_1) := (blk_cell BK127.out 4).trans rfl
                  have hcz52_5 : wc.cell? ⟨gb127, 5, none⟩ = some (.bool x128005_1) := (blk_cell BK127.out 5).trans rfl
                  have hfz52_0 := blk_frozen BK127.out 0
                  have hfz52_1 := blk_frozen BK127.out 1
                  have hfz52_2 := blk_frozen BK127.out 2
                  have hfz52_3 := blk_frozen BK127.out 3
                  have hfz52_4 := blk_frozen BK127.out 4
                  have hfz52_5 := blk_frozen BK127.out 5
                  go_wp2
                  refine bodyPost_ret (results_ctt rfl _ _ gb127 25 #[.int .u8 t128, .int .i64 t129, .int .u8 t130, .slice Ao9 t131.length co9, .int .i64 x139004_1, .bool x139005_1] (0, 0) _ rfl (by (with_reducible repeat (first | refine blk_drewN ?_ _ | refine blk_drew ?_ | refine blk_alloc ?_ _)); refine blk_put (cs := #[.int .u8 t128, .int .i64 t129, .int .u8 t130, .slice Ao9 t131.length co9, .int .i64 x139004_1, .bool x128005_1]) ?_ 5 _ rfl; (with_reducible repeat (first | refine blk_drewN ?_ _ | refine blk_drew ?_ | refine blk_alloc ?_ _)); refine blk_put (cs := #[.int .u8 t128, .int .i64 t129, .int .u8 t130, .slice Ao9 t131.length co9, .int .i64 x128004_1, .bool x128005_1]) ?_ 4 _ rfl; (with_reducible repeat (first | refine blk_drewN ?_ _ | refine blk_drew ?_ | refine blk_alloc ?_ _)); refine blk_put (cs := #[.int .u8 t128, .int .i64 t129, .int .u8 t130, .slice none 0 0, .int .i64 x128004_1, .bool x128005_1]) ?_ 3 _ rfl; (with_reducible repeat (first | refine blk_drewN ?_ _ | refine blk_drew ?_ | refine blk_alloc ?_ _)); refine blk_put (cs := #[.int .u8 t128, .int .i64 t129, .int .u8 x128002_1, .slice none 0 0, .int .i64 x128004_1, .bool x128005_1]) ?_ 2 _ rfl; (with_reducible repeat (first | refine blk_drewN ?_ _ | refine blk_drew ?_ | refine blk_alloc ?_ _)); refine blk_put (cs := #[.int .u8 t128, .int .i64 x128001_1, .int .u8 x128002_1, .slice none 0 0, .int .i64 x128004_1, .bool x128005_1]) ?_ 1 _ rfl; (with_reducible repeat (first | refine blk_drewN ?_ _ | refine blk_drew ?_ | refine blk_alloc ?_ _)); refine blk_put (cs := #[.int .u8 x128000_1, .int .i64 x128001_1, .int .u8 x128002_1, .slice none 0 0, .int .i64 x128004_1, .bool x128005_1]) ?_ 0 _ rfl; (with_reducible repeat (first | refine blk_drewN ?_ _ | refine blk_drew ?_ | refine blk_alloc ?_ _)); exact BK127.out) Tryd.underlying25 rfl (by kernel_rfl)) rfl ?_
                  exact ⟨_, by first | rfl | (simp [errW_none, errW_some] <;> rfl) | (simp [*, errW_none, errW_some] <;> rfl), by (with_reducible repeat (first | apply Kd.R_alloc | apply Kd.R_drewN | apply Kd.R_drew)); exact Kd.R_mono (Kd.R_far (p := ⟨gb127, 5, none⟩) (Kd.R_far (p := ⟨gb127, 4, none⟩) (Kd.R_far (p := ⟨gb127, 3, none⟩) (Kd.R_far (p := ⟨gb127, 2, none⟩) (Kd.R_far (p := ⟨gb127, 1, none⟩) (Kd.R_far (p := ⟨gb127, 0, none⟩) (Kd.R_types HO_139003.out BK127.out (by decide)) (fun _ hk => hk.2) (.int .u8 t128)) (fun _ hk => hk.2) (.int .i64 t129)) (fun _ hk => hk.2) (.int .u8 t130)) (fun _ hk => hk.2) (.slice Ao9 t131.length co9)) (fun _ hk => hk.2) (.int .i64 x139004_1)) (fun _ hk => hk.2) (.bool x139005_1)) (fun _ hk => trivial), by repeat (first | (with_reducible first | exact HB.out | apply below_alloc | apply pw_below_drewN | apply below_drew1 | refine below_set ?_ GE127.out | refine below_set ?_ GE138.out) | exact HB.out)⟩
  · rw [if_neg c3] at H
    have c3b0 : (t137 == 0) = false := beq_eq_false_iff_ne.mpr c3
    have c3b1 : (t137 != 0) = true := bne_iff_ne.mpr c3
    simp only [Option.some.injEq, Prod.mk.injEq] at H
    obtain ⟨rfl, rfl, rfl, rfl, rfl, rfl, rfl, rfl⟩ := H
    go_enter Tryd.func12, Tryd.ntmps12
    go_wp2_with (first | ((with_reducible refine gate_dst (N := 2) rfl ?_); refine box_event ?hg (N := 2) ?hd (cs := #[.int .u8 0, .int .i64 0, .int .u8 0, .slice none 0 0, .int .i64 0, .bool false]) (t := 25) ?hr ?_; (case hd => rfl); (case hg => rfl); (case hr => first | (go_simp; done) | (go_simp; rfl)); intro gb127 hg w53 hbox hb; have n0_ := Aside0.mk (below_step (by repeat (first | (with_reducible first | exact HB.out | apply below_alloc | apply pw_below_drewN | apply below_drew1) | exact HB.out)) hb); have n1_ := Aside0.mk (hbox); have n2_ := Aside0.mk ((by rw [hg]; exact (below_size (by repeat (first | (with_reducible first | exact HB.out | apply below_alloc | apply pw_below_drewN | apply below_drew1) | exact HB.out))) : w.heap.size ≤ gb127)); have n3_ := Aside0.mk ((by rw [hg]; exact (below_size (by repeat (first | (with_reducible first | exact HB.out | apply below_alloc | apply pw_below_drewN | apply below_drew1) | exact HB.out))) : w.heap.size ≤ gb127)); clear HB; have HB := n0_; have BK127 := n1_; have GW127 := n2_; have GE127 := n3_; clear n0_ n1_ n2_ n3_; clear hb hbox hg) | ((with_reducible refine gate_callee (f := 25) rfl ?_); refine goesL_ (some 13) rfl rfl Tryd.func25 (by kernel_rfl) rfl #[.slice A0 l0.length c0] rfl (by (try simp only [List.map_toArray, List.map_cons, List.map_nil]); first | done | rfl | (simp only [List.length_drop, List.length_take]; rfl)) ?_; (with_reducible refine (address_base.calls k _ _ l0 t128 t129 t130 t131 t134 t135 t136 t137 _ ?side1 ?side2 A2.out).mono ?_); (case side1 => repeat (first | exact (Kd.C_below HR0.out HB.out) | (with_reducible refine Kd.C_alloc ?_ _) | (with_reducible refine Kd.C_drewN ?_ _) | (with_reducible refine Kd.C_drew ?_))); (case side2 => exact HC0.out); rintro e w54 ⟨v132, rfl, ho0, hb⟩; refine ⟨_, rfl, ?_⟩; have n0_ := Aside0.mk (Kd.R_lower ho0 (below_size (by repeat (first | (with_reducible first | exact HB.out | apply below_alloc | apply pw_below_drewN | apply below_drew1 | refine below_set ?_ GE127.out) | exact HB.out)))); have n1_ := Aside0.mk (blk_below (g := gb127) (o := .cells #[.int .u8 0, .int .i64 0, .int .u8 0, .slice none 0 0, .int .i64 0, .bool false] 25 (0, 0)) (by (with_reducible repeat (first | refine blk_drewN ?_ _ | refine blk_drew ?_ | refine blk_alloc ?_ _)); exact BK127.out) hb); have n2_ := Aside0.mk (below_step (by repeat (first | (with_reducible first | exact HB.out | apply below_alloc | apply pw_below_drewN | apply below_drew1 | refine below_set ?_ GE127.out) | exact HB.out)) hb); clear BK127; clear HB; have HO133 := n0_; have BK127 := n1_; have HB := n2_; clear n0_ n1_ n2_; (try clear hb); (try clear hb2); (try clear hk); (try clear hi); (try clear ho0)) | ((with_reducible refine gate_dst (N := 5) rfl ?_); refine box_event ?hg (N := 5) ?hd (cs := #[.int .u8 0, .int .i64 0, .int .u8 0, .slice none 0 0, .int .i64 0, .bool false]) (t := 25) ?hr ?_; (case hd => rfl); (case hg => rfl); (case hr => first | (go_simp; done) | (go_simp; rfl)); intro gb138 hg w55 hbox hb; have n0_ := Aside0.mk (Kd.R_below (by (with_reducible repeat (first | apply Kd.R_alloc | apply Kd.R_drewN | apply Kd.R_drew)); exact HO133.out) hb); have n1_ := Aside0.mk (blk_below (g := gb127) (o := .cells #[.int .u8 0, .int .i64 0, .int .u8 0, .slice none 0 0, .int .i64 0, .bool false] 25 (0, 0)) (by (with_reducible repeat (first | refine blk_drewN ?_ _ | refine blk_drew ?_ | refine blk_alloc ?_ _)); exact BK127.out) hb); have n2_ := Aside0.mk (below_step (by repeat (first | (with_reducible first | exact HB.out | apply below_alloc | apply pw_below_drewN | apply below_drew1 | refine below_set ?_ GE127.out) | exact HB.out)) hb); have n3_ := Aside0.mk (hbox); have n4_ := Aside0.mk ((by rw [hg]; exact (below_size (by repeat (first | (with_reducible first | exact HB.out | apply below_alloc | apply pw_below_drewN | apply below_drew1 | refine below_set ?_ GE127.out) | exact HB.out))) : w.heap.size ≤ gb138)); have n5_ := Aside0.mk ((by rw [hg]; exact (below_size (by repeat (first | (with_reducible first | exact HB.out | apply below_alloc | apply pw_below_drewN | apply below_drew1 | refine below_set ?_ GE127.out) | exact HB.out))) : w.heap.size ≤ gb138)); have n6_ := Aside0.mk ((by rw [hg]; exact Nat.ne_of_lt (blk_lt (g := gb127) (o := .cells #[.int .u8 0, .int .i64 0, .int .u8 0, .slice none 0 0, .int .i64 0, .bool false] 25 (0, 0)) (by (with_reducible repeat (first | refine blk_drewN ?_ _ | refine blk_drew ?_ | refine blk_alloc ?_ _)); exact BK127.out)) : gb127 ≠ gb138)); have n7_ := Aside0.mk ((by rw [hg]; exact Nat.ne_of_gt (blk_lt (g := gb127) (o := .cells #[.int .u8 0, .int .i64 0, .int .u8 0, .slice none 0 0, .int .i64 0, .bool false] 25 (0, 0)) (by (with_reducible repeat (first | refine blk_drewN ?_ _ | refine blk_drew ?_ | refine blk_alloc ?_ _)); exact BK127.out)) : gb138 ≠ gb127)); clear HO133; clear BK127; clear HB; have HO133 := n0_; have BK127 := n1_; have HB := n2_; have BK138 := n3_; have GW138 := n4_; have GE138 := n5_; have NB127_138 := n6_; have NB138_127 := n7_; clear n0_ n1_ n2_ n3_ n4_ n5_ n6_ n7_; clear hb hbox hg; have hnb56 := NB138_127.out; have hnc56 := NB127_138.out; have hcz57_0 : w55.cell? ⟨gb138, 0, none⟩ = some (.int .u8 0) := (blk_cell BK138.out 0).trans rfl; have hcz57_1 : w55.cell? ⟨gb138, 1, none⟩ = some (.int .i64 0) := (blk_cell BK138.out 1).trans rfl; have hcz57_2 : w55.cell? ⟨gb138, 2, none⟩ = some (.int .u8 0) := (blk_cell BK138.out 2).trans rfl; have hcz57_3 : w55.cell? ⟨gb138, 3, none⟩ = some (.slice none 0 0) := (blk_cell BK138.out 3).trans rfl; have hcz57_4 : w55.cell? ⟨gb138, 4, none⟩ = some (.int .i64 0) := (blk_cell BK138.out 4).trans rfl; have hcz57_5 : w55.cell? ⟨gb138, 5, none⟩ = some (.bool false) := (blk_cell BK138.out 5).trans rfl; have hfz57_0 := blk_frozen BK138.out 0; have hfz57_1 := blk_frozen BK138.out 1; have hfz57_2 := blk_frozen BK138.out 2; have hfz57_3 := blk_frozen BK138.out 3; have hfz57_4 := blk_frozen BK138.out 4; have hfz57_5 := blk_frozen BK138.out 5; obtain ⟨Ao58, co58, eo58⟩ := Kd.R_slice HO133.out; subst eo58; have hcz59_0 : w55.cell? ⟨gb127, 0, none⟩ = some (.int .u8 0) := (blk_cell BK127.out 0).trans rfl; have hcz59_1 : w55.cell? ⟨gb127, 1, none⟩ = some (.int .i64 0) := (blk_cell BK127.out 1).trans rfl; have hcz59_2 : w55.cell? ⟨gb127, 2, none⟩ = some (.int .u8 0) := (blk_cell BK127.out 2).trans rfl; have hcz59_3 : w55.cell? ⟨gb127, 3, none⟩ = some (.slice none 0 0) := (blk_cell BK127.out 3).trans rfl; have hcz59_4 : w55.cell? ⟨gb127, 4, none⟩ = some (.int .i64 0) := (blk_cell BK127.out 4).trans rfl; have hcz59_5 : w55.cell? ⟨gb127, 5, none⟩ = some (.bool false) := (blk_cell BK127.out 5).trans rfl; have hfz59_0 := blk_frozen BK127.out 0; have hfz59_1 := blk_frozen BK127.out 1; have hfz59_2 := blk_frozen BK127.out 2; have hfz59_3 := blk_frozen BK127.out 3; have hfz59_4 := blk_frozen BK127.out 4; have hfz59_5 := blk_frozen BK127.out 5))
    refine bodyPost_ret (results_ctt rfl _ _ gb127 25 #[.int .u8 0, .int .i64 0, .int .u8 0, .slice none 0 0, .int .i64 0, .bool false] (0, 0) _ rfl (by (with_reducible repeat (first | refine blk_drewN ?_ _ | refine blk_drew ?_ | refine blk_alloc ?_ _)); refine blk_put (cs := #[.int .u8 0, .int .i64 0, .int .u8 0, .slice none 0 0, .int .i64 0, .bool false]) ?_ 5 _ rfl; (with_reducible repeat (first | refine blk_drewN ?_ _ | refine blk_drew ?_ | refine blk_alloc ?_ _)); refine blk_put (cs := #[.int .u8 0, .int .i64 0, .int .u8 0, .slice none 0 0, .int .i64 0, .bool false]) ?_ 4 _ rfl; (with_reducible repeat (first | refine blk_drewN ?_ _ | refine blk_drew ?_ | refine blk_alloc ?_ _)); refine blk_put (cs := #[.int .u8 0, .int .i64 0, .int .u8 0, .slice none 0 0, .int .i64 0, .bool false]) ?_ 3 _ rfl; (with_reducible repeat (first | refine blk_drewN ?_ _ | refine blk_drew ?_ | refine blk_alloc ?_ _)); refine blk_put (cs := #[.int .u8 0, .int .i64 0, .int .u8 0, .slice none 0 0, .int .i64 0, .bool false]) ?_ 2 _ rfl; (with_reducible repeat (first | refine blk_drewN ?_ _ | refine blk_drew ?_ | refine blk_alloc ?_ _)); refine blk_put (cs := #[.int .u8 0, .int .i64 0, .int .u8 0, .slice none 0 0, .int .i64 0, .bool false]) ?_ 1 _ rfl; (with_reducible repeat (first | refine blk_drewN ?_ _ | refine blk_drew ?_ | refine blk_alloc ?_ _)); refine blk_put (cs := #[.int .u8 0, .int .i64 0, .int .u8 0, .slice none 0 0, .int .i64 0, .bool false]) ?_ 0 _ rfl; (with_reducible repeat (first | refine blk_drewN ?_ _ | refine blk_drew ?_ | refine blk_alloc ?_ _)); refine blk_far ?_ NB127_138.out _; (with_reducible repeat (first | refine blk_drewN ?_ _ | refine blk_drew ?_ | refine blk_alloc ?_ _)); refine blk_far ?_ NB127_138.out _; (with_reducible repeat (first | refine blk_drewN ?_ _ | refine blk_drew ?_ | refine blk_alloc ?_ _)); refine blk_far ?_ NB127_138.out _; (with_reducible repeat (first | refine blk_drewN ?_ _ | refine blk_drew ?_ | refine blk_alloc ?_ _)); refine blk_far ?_ NB127_138.out _; (with_reducible repeat (first | refine blk_drewN ?_ _ | refine blk_drew ?_ | refine blk_alloc ?_ _)); refine blk_far ?_ NB127_138.out _; (with_reducible repeat (first | refine blk_drewN ?_ _ | refine blk_drew ?_ | refine blk_alloc ?_ _)); refine blk_far ?_ NB127_138.out _; (with_reducible repeat (first | refine blk_drewN ?_ _ | refine blk_drew ?_ | refine blk_alloc ?_ _)); exact BK127.out) Tryd.underlying25 rfl (by kernel_rfl)) rfl ?_
    exact ⟨_, by first | rfl | (simp [errW_none, errW_some] <;> rfl) | (simp [*, errW_none, errW_some] <;> rfl), by first | exact Kd.R_nil _ _ _ _ _ | exact Kd.N_nil _ _ _ _ _ | exact Kd.V_nil _ _ _ _ _ | exact Kd.Q_nil _ _ _ _ _ | exact Kd.S_nil _ _ _ _ _, by repeat (first | (with_reducible first | exact HB.out | apply below_alloc | apply pw_below_drewN | apply below_drew1 | refine below_set ?_ GE127.out | refine below_set ?_ GE138.out) | exact HB.out)⟩

end Go.Proofs.YtdhdngoeaneanaaDoor.X
