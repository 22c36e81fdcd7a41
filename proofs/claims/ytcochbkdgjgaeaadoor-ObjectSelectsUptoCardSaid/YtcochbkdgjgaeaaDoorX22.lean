-- Written by wip/xprint.py over the kit's print.py: the Lean function of each Go function, and the proof that the Go text comes to it.
import Derived.Test.YtcochbkdgjgaeaaDoorX0
import Derived.Test.YtcochbkdgjgaeaaDoorX21
namespace Go.Proofs.YtcochbkdgjgaeaaDoor.X
open Go.RowKit Go.Proofs.YtcochbkdgjgaeaaDoorW.PrintWords Go.Proofs.YtcochbkdgjgaeaaDoorW.PrintLast Go.Proofs.YtcochbkdgjgaeaaDoorW.PrintMore
attribute [local go_sem] max2_int min2_int max_two min_two max_three min_three max_four min_four   -- for this text's walks alone
set_option linter.unusedVariables false
set_option linter.unusedSimpArgs false

/-! ### object_bracketed: function 31 -/
mutual
def object_bracketed.l0 : Nat → Int → Int → Int → Bool → Int → List Int → List Int → Int → Int → Option (Int × Int × Bool)
 | 0, _, _, _, _, _, _, _, _, _ => none
 | k + 1, x1, x2, x3, x4, x13, x16, x26, x27, x28 => if x28 < x27 then (if 0 ≤ x28 then (if x28 < (x26.length : Int) then (if (rd x26 x28) = x3 then (if x16.length < 17592186044416 then (object_bracketed.j1 k x1 x2 x3 x4 x13 (x16 ++ [x28]) x28 (rd x26 x28) x26 x27 x28) else (none)) else (object_bracketed.j1 k x1 x2 x3 x4 x13 x16 x28 (rd x26 x28) x26 x27 x28)) else (none)) else (none)) else (some (0, 0, false))
def object_bracketed.j1 : Nat → Int → Int → Int → Bool → Int → List Int → Int → Int → List Int → Int → Int → Option (Int × Int × Bool)
 | 0, _, _, _, _, _, _, _, _, _, _, _ => none
 | k + 1, x1, x2, x3, x4, x13, x16, x17, x18, x26, x27, x28 => if x18 = x13 then (object_bracketed.j2 k x1 x2 x3 x4 x13 x16 x17 x26 x27 x28 ((x16.length : Int) == 0)) else (object_bracketed.j2 k x1 x2 x3 x4 x13 x16 x17 x26 x27 x28 true)
def object_bracketed.j2 : Nat → Int → Int → Int → Bool → Int → List Int → Int → List Int → Int → Int → Bool → Option (Int × Int × Bool)
 | 0, _, _, _, _, _, _, _, _, _, _, _ => none
 | k + 1, x1, x2, x3, x4, x13, x16, x17, x26, x27, x28, x47 => if x47 = true then (object_bracketed.l0 k x1 x2 x3 x4 x13 x16 x26 x27 (wrap64 (x28 + 1))) else (if 0 ≤ (wrap64 ((x16.length : Int) - 1)) then (if (wrap64 ((x16.length : Int) - 1)) < (x16.length : Int) then (if (wrap64 ((x16.length : Int) - 1)) ≤ (x16.length : Int) then ((some (x16.take ((wrap64 ((x16.length : Int) - 1)) : Int).toNat : List Int)).bind fun y202 => (if (rd x16 (wrap64 ((x16.length : Int) - 1))) > x1 then (object_bracketed.j3 k x1 x2 x3 x4 x13 y202 x17 (rd x16 (wrap64 ((x16.length : Int) - 1))) x26 x27 x28 true) else (object_bracketed.j3 k x1 x2 x3 x4 x13 y202 x17 (rd x16 (wrap64 ((x16.length : Int) - 1))) x26 x27 x28 (decide (x17 < x1))))) else (none)) else (none)) else (none))
def object_bracketed.j3 : Nat → Int → Int → Int → Bool → Int → List Int → Int → Int → List Int → Int → Int → Bool → Option (Int × Int × Bool)
 | 0, _, _, _, _, _, _, _, _, _, _, _, _ => none
 | k + 1, x1, x2, x3, x4, x13, x16, x17, x19, x26, x27, x28, x66 => if x66 = true then (object_bracketed.l0 k x1 x2 x3 x4 x13 x16 x26 x27 (wrap64 (x28 + 1))) else (if (wrap64 (x2 - 1)) > 0 then (object_bracketed.l0 k x1 (wrap64 (x2 - 1)) x3 x4 x13 x16 x26 x27 (wrap64 (x28 + 1))) else (if x4 = true then (some (x19, wrap64 (x17 + 1), true)) else (some (wrap64 (x19 + 1), x17, true))))
end
def object_bracketed.f (k : Nat) (l0 : List Int) (a1 : Int) (a2 : Int) (a3 : Int) (a4 : Bool) : Option (Int × Int × Bool) := (class_Partner.f a3).bind fun bt194 => (object_bracketed.l0 k a1 a2 a3 a4 bt194.1 ([] : List Int) l0 (l0.length : Int) 0)
theorem object_bracketed.mono_l : ∀ k, (∀ y0 y1 y2 y3 y4 y5 y6 y7 y8, LeO (object_bracketed.l0 k y0 y1 y2 y3 y4 y5 y6 y7 y8) (object_bracketed.l0 (k + 1) y0 y1 y2 y3 y4 y5 y6 y7 y8)) ∧ (∀ y0 y1 y2 y3 y4 y5 y6 y7 y8 y9 y10, LeO (object_bracketed.j1 k y0 y1 y2 y3 y4 y5 y6 y7 y8 y9 y10) (object_bracketed.j1 (k + 1) y0 y1 y2 y3 y4 y5 y6 y7 y8 y9 y10)) ∧ (∀ y0 y1 y2 y3 y4 y5 y6 y7 y8 y9 y10, LeO (object_bracketed.j2 k y0 y1 y2 y3 y4 y5 y6 y7 y8 y9 y10) (object_bracketed.j2 (k + 1) y0 y1 y2 y3 y4 y5 y6 y7 y8 y9 y10)) ∧ (∀ y0 y1 y2 y3 y4 y5 y6 y7 y8 y9 y10 y11, LeO (object_bracketed.j3 k y0 y1 y2 y3 y4 y5 y6 y7 y8 y9 y10 y11) (object_bracketed.j3 (k + 1) y0 y1 y2 y3 y4 y5 y6 y7 y8 y9 y10 y11))
 | 0 => ⟨fun _ _ _ _ _ _ _ _ _ r h => by simp [object_bracketed.l0] at h, fun _ _ _ _ _ _ _ _ _ _ _ r h => by simp [object_bracketed.j1] at h, fun _ _ _ _ _ _ _ _ _ _ _ r h => by simp [object_bracketed.j2] at h, fun _ _ _ _ _ _ _ _ _ _ _ _ r h => by simp [object_bracketed.j3] at h⟩
 | k + 1 => by
  obtain ⟨ih0, ih1, ih2, ih3⟩ := object_bracketed.mono_l k
  refine ⟨?_, ?_, ?_, ?_⟩
  ·intro y0 y1 y2 y3 y4 y5 y6 y7 y8
   unfold object_bracketed.l0
   repeat' first
   | (with_reducible exact ih0 _ _ _ _ _ _ _ _ _)
   | (with_reducible exact ih1 _ _ _ _ _ _ _ _ _ _ _)
   | (with_reducible exact ih2 _ _ _ _ _ _ _ _ _ _ _)
   | (with_reducible exact ih3 _ _ _ _ _ _ _ _ _ _ _ _)
   | (with_reducible exact LeO.refl _)
   | (with_reducible exact LeO.none _)
   | (with_reducible refine LeO.ite ?_ ?_)
   | (with_reducible refine LeO.bind ?_ (fun _ => ?_))
   | exact ih0 _ _ _ _ _ _ _ _ _
   | exact ih1 _ _ _ _ _ _ _ _ _ _ _
   | exact ih2 _ _ _ _ _ _ _ _ _ _ _
   | exact ih3 _ _ _ _ _ _ _ _ _ _ _ _
   | exact LeO.none _
   | refine LeO.ite ?_ ?_
   | refine LeO.bind ?_ (fun _ => ?_)
  ·intro y0 y1 y2 y3 y4 y5 y6 y7 y8 y9 y10
   unfold object_bracketed.j1
   repeat' first
   | (with_reducible exact ih0 _ _ _ _ _ _ _ _ _)
   | (with_reducible exact ih1 _ _ _ _ _ _ _ _ _ _ _)
   | (with_reducible exact ih2 _ _ _ _ _ _ _ _ _ _ _)
   | (with_reducible exact ih3 _ _ _ _ _ _ _ _ _ _ _ _)
   | (with_reducible exact LeO.refl _)
   | (with_reducible exact LeO.none _)
   | (with_reducible refine LeO.ite ?_ ?_)
   | (with_reducible refine LeO.bind ?_ (fun _ => ?_))
   | exact ih0 _ _ _ _ _ _ _ _ _
   | exact ih1 _ _ _ _ _ _ _ _ _ _ _
   | exact ih2 _ _ _ _ _ _ _ _ _ _ _
   | exact ih3 _ _ _ _ _ _ _ _ _ _ _ _
   | exact LeO.none _
   | refine LeO.ite ?_ ?_
   | refine LeO.bind ?_ (fun _ => ?_)
  ·intro y0 y1 y2 y3 y4 y5 y6 y7 y8 y9 y10
   unfold object_bracketed.j2
   repeat' first
   | (with_reducible exact ih0 _ _ _ _ _ _ _ _ _)
   | (with_reducible exact ih1 _ _ _ _ _ _ _ _ _ _ _)
   | (with_reducible exact ih2 _ _ _ _ _ _ _ _ _ _ _)
   | (with_reducible exact ih3 _ _ _ _ _ _ _ _ _ _ _ _)
   | (with_reducible exact LeO.refl _)
   | (with_reducible exact LeO.none _)
   | (with_reducible refine LeO.ite ?_ ?_)
   | (with_reducible refine LeO.bind ?_ (fun _ => ?_))
   | exact ih0 _ _ _ _ _ _ _ _ _
   | exact ih1 _ _ _ _ _ _ _ _ _ _ _
   | exact ih2 _ _ _ _ _ _ _ _ _ _ _
   | exact ih3 _ _ _ _ _ _ _ _ _ _ _ _
   | exact LeO.none _
   | refine LeO.ite ?_ ?_
   | refine LeO.bind ?_ (fun _ => ?_)
  ·intro y0 y1 y2 y3 y4 y5 y6 y7 y8 y9 y10 y11
   unfold object_bracketed.j3
   repeat' first
   | (with_reducible exact ih0 _ _ _ _ _ _ _ _ _)
   | (with_reducible exact ih1 _ _ _ _ _ _ _ _ _ _ _)
   | (with_reducible exact ih2 _ _ _ _ _ _ _ _ _ _ _)
   | (with_reducible exact ih3 _ _ _ _ _ _ _ _ _ _ _ _)
   | (with_reducible exact LeO.refl _)
   | (with_reducible exact LeO.none _)
   | (with_reducible refine LeO.ite ?_ ?_)
   | (with_reducible refine LeO.bind ?_ (fun _ => ?_))
   | exact ih0 _ _ _ _ _ _ _ _ _
   | exact ih1 _ _ _ _ _ _ _ _ _ _ _
   | exact ih2 _ _ _ _ _ _ _ _ _ _ _
   | exact ih3 _ _ _ _ _ _ _ _ _ _ _ _
   | exact LeO.none _
   | refine LeO.ite ?_ ?_
   | refine LeO.bind ?_ (fun _ => ?_)
theorem object_bracketed.mono : ∀ a0 a1 a2 a3 a4 k, LeO (object_bracketed.f k a0 a1 a2 a3 a4) (object_bracketed.f (k + 1) a0 a1 a2 a3 a4) := by
 intro a0 a1 a2 a3 a4 k
 obtain ⟨ih0, ih1, ih2, ih3⟩ := object_bracketed.mono_l k
 unfold object_bracketed.f
 repeat' first
   | (with_reducible exact ih0 _ _ _ _ _ _ _ _ _)
   | (with_reducible exact ih1 _ _ _ _ _ _ _ _ _ _ _)
   | (with_reducible exact ih2 _ _ _ _ _ _ _ _ _ _ _)
   | (with_reducible exact ih3 _ _ _ _ _ _ _ _ _ _ _ _)
   | (with_reducible exact LeO.refl _)
   | (with_reducible exact LeO.none _)
   | (with_reducible refine LeO.ite ?_ ?_)
   | (with_reducible refine LeO.bind ?_ (fun _ => ?_))
   | exact ih0 _ _ _ _ _ _ _ _ _
   | exact ih1 _ _ _ _ _ _ _ _ _ _ _
   | exact ih2 _ _ _ _ _ _ _ _ _ _ _
   | exact ih3 _ _ _ _ _ _ _ _ _ _ _ _
   | exact LeO.none _
   | refine LeO.ite ?_ ?_
   | refine LeO.bind ?_ (fun _ => ?_)
set_option maxHeartbeats 8000000 in
set_option maxRecDepth 100000 in
theorem object_bracketed.calls (k : Nat) (A0 : Option Addr) (c0 : Nat) (l0 : List Int) (a1 : Int) (a2 : Int) (a3 : Int) (a4 : Bool) (r1 : Int) (r2 : Int) (r3 : Bool) (w : World) (hr0 : Kd.C (Kd.int .u8) w A0 l0.length l0) (hc0 : l0.length ≤ c0) (h : object_bracketed.f k l0 a1 a2 a3 a4 = some (r1, r2, r3)) :
  Calls Tryd.prog 31 #[.slice A0 l0.length c0, .int .i64 a1, .int .i64 a2, .int .u8 a3, .bool a4] w fun e w' => e = .returned (.tuple #[.int .i64 r1, .int .i64 r2, .bool r3]) ∧ Below w.heap.size w w' := by
 have HR0 := Aside0.mk hr0
 have HC0 := Aside0.mk hc0
 clear hr0 hc0
 have HB := Aside0.mk (Below.refl w.heap.size w)
 have H : ((class_Partner.f a3).bind fun bt194 => (object_bracketed.l0 k a1 a2 a3 a4 bt194.1 ([] : List Int) l0 (l0.length : Int) 0)) = some (r1, r2, r3) := h
 clear h
 replace H := Option.bind_eq_some_iff.mp H
 obtain ⟨⟨t194, t195, t196⟩, A60, H⟩ := H
 replace H : (object_bracketed.l0 k a1 a2 a3 a4 t194 ([] : List Int) l0 (l0.length : Int) 0) = some (r1, r2, r3) := H
 have A6 := Aside0.mk A60
 clear A60
 have H' := Aside0.mk H
 clear H
 go_enter Tryd.func31, Tryd.ntmps31
 go_wp2_with (first | ((with_reducible refine gate_callee (f := 50) rfl ?_); refine goesL_ (some 22) rfl rfl Tryd.func50 (by kernel_rfl) rfl #[.int .u8 a3] rfl (by (try simp only [List.map_toArray, List.map_cons, List.map_nil]); first | done | rfl | (simp only [List.length_drop, List.length_take]; rfl)) ?_; (with_reducible refine (class_Partner.calls a3 t194 t195 t196 _ A6.out).mono ?_); rintro e w' ⟨rfl, ⟨nd, rfl⟩⟩; refine ⟨_, rfl, ?_⟩))
 go_loopg [2, 16, 28] k (fun kq v2 v16 v28 w' => ∃ (x2_1 : Int) (x16_1 : List Int) (x28_1 : Int), v2 = .int .i64 x2_1 ∧ v28 = .int .i64 x28_1 ∧ Aside0 (object_bracketed.l0 kq a1 x2_1 a3 a4 t194 x16_1 l0 (l0.length : Int) x28_1 = some (r1, r2, r3)) ∧ Aside0 (kq ≤ k) ∧ Aside0 (Kd.R (Kd.int .i64) 3 w' w.heap.size (fun _ => True) v16 x16_1) ∧ Aside0 (Below w.heap.size w w'))
 case atStart => exact ⟨(a2), (([] : List Int)), (0), (by first | rfl | (simp; done) | (simp [*]; done)), (by first | rfl | (simp; done) | (simp [*]; done)), H', ⟨Nat.le_refl _⟩, ⟨by first | exact Kd.R_nil _ _ _ _ _ | exact Kd.N_nil _ _ _ _ _ | exact Kd.V_nil _ _ _ _ _ | exact Kd.Q_nil _ _ _ _ _ | exact Kd.S_nil _ _ _ _ _⟩, ⟨by repeat (first | (with_reducible first | exact HB.out | apply below_alloc | apply pw_below_drewN | apply below_drew1) | exact HB.out)⟩⟩
 case round =>
  clear H'
  try clear p2
  try clear c3
  try clear c5
  obtain ⟨x2_1, x16_1, x28_1, rfl, rfl, HA, HK1, HO_16, HB⟩ := hrel
  cases gk with
  | zero => exact absurd HA.out (by simp [object_bracketed.l0])
  | succ k1 =>
   have H := HA.out
   clear HA
   simp only [object_bracketed.l0] at H
   by_cases c7 : x28_1 < (l0.length : Int)
   ·rw [if_pos c7] at H
    have c7b0 : decide (x28_1 < (l0.length : Int)) = true := decide_eq_true c7
    clear c7
    by_cases c8 : 0 ≤ x28_1
    ·rw [if_pos c8] at H
     have c8b0 : decide (0 ≤ x28_1) = true := decide_eq_true c8
     clear c8
     by_cases c9 : x28_1 < (l0.length : Int)
     ·rw [if_pos c9] at H
      have c9b0 : decide (x28_1 < (l0.length : Int)) = true := decide_eq_true c9
      clear c9
      have HC10 := Aside0.mk H
      clear H
      have p197 : 0 ≤ (x28_1 : Int) := of_decide_eq_true (by first | (with_reducible assumption) | assumption)
      have q197 : x28_1 < (l0.length : Int) := of_decide_eq_true (by first | (with_reducible assumption) | assumption)
      obtain ⟨ad197, e197, hx197_0⟩ := Kd.at_int HR0.out x28_1 p197 q197
      cases e197
      replace hx197_0 := (HB.out.cell (World.block_lt_of_cell? w _ hx197_0)).trans hx197_0
      replace p197 := eq_true p197
      replace q197 := eq_true q197
      go_upto_if 35 with (fail)
      go_cut [16] (fun v16 wc => ∃ (kq : Nat) (x16_9 : List Int), Aside0 (object_bracketed.j1 kq a1 x2_1 a3 a4 t194 x16_9 x28_1 (rd l0 x28_1) l0 (l0.length : Int) x28_1 = some (r1, r2, r3)) ∧ Aside0 (kq ≤ k1) ∧ Aside0 (Kd.R (Kd.int .i64) 3 wc w.heap.size (fun _ => True) v16 x16_9) ∧ Aside0 (Below w.heap.size w wc))
      case first =>
       have H := HC10.out
       clear HC10
       by_cases c11 : (rd l0 x28_1) = a3
       ·rw [if_pos c11] at H
        have c11b0 : ((rd l0 x28_1) == a3) = true := beq_iff_eq.mpr c11
        have c11b1 : ((rd l0 x28_1) != a3) = false := bne_eq_false_iff_eq.mpr c11
        clear c11
        (first | rw [c11b0] | (simp only [i64_w, i32_w]; rw [c11b0]) | skip)
        by_cases c12 : x16_1.length < 17592186044416
        ·rw [if_pos c12] at H
         have LMc12 := Aside0.mk c12
         clear c12
         obtain ⟨y198, hy198⟩ : ∃ y_ : List Int, y_ = (x16_1 ++ [x28_1]) := ⟨_, rfl⟩
         replace H : (object_bracketed.j1 k1 a1 x2_1 a3 a4 t194 y198 x28_1 (rd l0 x28_1) l0 (l0.length : Int) x28_1) = some (r1, r2, r3) := by first | (rw [hy198]; with_reducible exact H) | (have H2_ := (Option.bind_some _ _).symm.trans H; rw [hy198]; with_reducible exact H2_) | (have H2_ := (Option.bind_some _ _).symm.trans H; with_reducible exact H2_) | with_reducible exact H | (rw [hy198]; exact H) | exact H
         have Ny198 := Aside0.mk hy198
         clear hy198
         have H' := Aside0.mk H
         clear H
         go_wp2_with (first | ((with_reducible refine gate_builtin (b := .append) (xs := #[.tmp 36, .tmp 38]) rfl ?_); (try (refine gate_guard (by rfl) ?_; dsimp only)); at_builtin; refine Kd.R_append (Kd.int .i64) (w0 := w) w.heap.size rfl (.tmp 36) (.tmp 38) 68 3 (.int .i64 0) 8 rfl Tryd.underlying68 info3 rfl (by decide) (by omega) u16 x16_1 x28_1 [.int .i64 x28_1] (fun _ => True) (fun _ => False) rfl rfl ?aP (fun _ hk => hk.elim) ?aF ?aO ?aB ?aS ?aL ?_; (case aP => exact rfl); (case aB => exact (by repeat (first | (with_reducible first | exact HB.out | apply below_alloc | apply pw_below_drewN | apply below_drew1) | exact HB.out))); (case aF => exact (fun _ _ => trivial)); (case aO => exact (by (with_reducible repeat (first | apply Kd.R_alloc | apply Kd.R_drewN | apply Kd.R_drew)); exact HO_16.out)); (case aS => exact (below_size (by repeat (first | (with_reducible first | exact HB.out | apply below_alloc | apply pw_below_drewN | apply below_drew1) | exact HB.out)))); (case aL => have := LMc12.out; omega); intro v199 w13 ho hb hg hat; rw [← Ny198.out] at ho; have n0_ := Aside0.mk (hb); have n1_ := Aside0.mk (ho); clear HB; clear HO_16; have HB := n0_; have HO200 := n1_; clear n0_ n1_; clear ho hb hg hat))
         go_meet
         case rel => exact ⟨_, (y198), H', ⟨by have := HK1.out; first | omega | exact Nat.le_refl _⟩, ⟨by (with_reducible repeat (first | apply Kd.R_alloc | apply Kd.R_drewN | apply Kd.R_drew)); exact HO200.out⟩, ⟨by repeat (first | (with_reducible first | exact HB.out | apply below_alloc | apply pw_below_drewN | apply below_drew1) | exact HB.out)⟩⟩
        ·rw [if_neg c12] at H
         exact absurd H (by simp)
       ·rw [if_neg c11] at H
        have c11b0 : ((rd l0 x28_1) == a3) = false := beq_eq_false_iff_ne.mpr c11
        have c11b1 : ((rd l0 x28_1) != a3) = true := bne_iff_ne.mpr c11
        (first | rw [c11b0] | (simp only [i64_w, i32_w]; rw [c11b0]) | skip)
        have H' := Aside0.mk H
        clear H
        go_wp2
        go_meet
        case rel => exact ⟨_, (x16_1), H', ⟨by have := HK1.out; first | omega | exact Nat.le_refl _⟩, ⟨by (with_reducible repeat (first | apply Kd.R_alloc | apply Kd.R_drewN | apply Kd.R_drew)); exact HO_16.out⟩, ⟨by repeat (first | (with_reducible first | exact HB.out | apply below_alloc | apply pw_below_drewN | apply below_drew1) | exact HB.out)⟩⟩
      case rest =>
       clear HC10
       try clear c1
       try clear p1
       try clear q1
       try clear hx1
       try clear p2
       try clear c3
       try clear c5
       try clear c7
       try clear c7b0
       try clear c8
       try clear c8b0
       try clear c9
       try clear c9b0
       try clear c11
       try clear c11b0
       try clear c11b1
       try clear c12
       try clear hx197_0
       try clear p197
       try clear p2
       try clear q197
       obtain ⟨kq, x16_9, HA, HJ9, HO_16, HB⟩ := hcut
       cases kq with
       | zero => exact absurd HA.out (by simp [object_bracketed.j1])
       | succ kj9 =>
        have H := HA.out
        clear HA
        simp only [object_bracketed.j1] at H
        have HC14 := Aside0.mk H
        clear H
        go_upto_region 8 with (fail)
        go_cut [47] (fun v47 wc => ∃ (kq : Nat) (x47_13 : Bool), v47 = .bool x47_13 ∧ Aside0 (object_bracketed.j2 kq a1 x2_1 a3 a4 t194 x16_9 x28_1 l0 (l0.length : Int) x28_1 x47_13 = some (r1, r2, r3)) ∧ Aside0 (kq ≤ kj9) ∧ Aside0 (Kd.R (Kd.int .i64) 3 wc w.heap.size (fun _ => True) u16 x16_9) ∧ Aside0 (Below w.heap.size w wc))
        case first =>
         have H := HC14.out
         clear HC14
         by_cases c15 : (rd l0 x28_1) = t194
         ·rw [if_pos c15] at H
          have c15b0 : ((rd l0 x28_1) == t194) = true := beq_iff_eq.mpr c15
          have c15b1 : ((rd l0 x28_1) != t194) = false := bne_eq_false_iff_eq.mpr c15
          clear c15
          (first | rw [c15b0] | (simp only [i64_w, i32_w]; rw [c15b0]) | skip)
          have H' := Aside0.mk H
          clear H
          obtain ⟨Ao16, co16, eo16⟩ := Kd.R_slice HO_16.out
          subst eo16
          go_wp2
          go_meet
          case rel => exact ⟨_, (((x16_9.length : Int) == 0)), (by first | rfl | (simp; done) | (simp [*]; done)), H', ⟨by have := HK1.out; have := HJ9.out; first | omega | exact Nat.le_refl _⟩, ⟨by (with_reducible repeat (first | apply Kd.R_alloc | apply Kd.R_drewN | apply Kd.R_drew)); exact HO_16.out⟩, ⟨by repeat (first | (with_reducible first | exact HB.out | apply below_alloc | apply pw_below_drewN | apply below_drew1) | exact HB.out)⟩⟩
         ·rw [if_neg c15] at H
          have c15b0 : ((rd l0 x28_1) == t194) = false := beq_eq_false_iff_ne.mpr c15
          have c15b1 : ((rd l0 x28_1) != t194) = true := bne_iff_ne.mpr c15
          (first | rw [c15b0] | (simp only [i64_w, i32_w]; rw [c15b0]) | skip)
          have H' := Aside0.mk H
          clear H
          go_wp2
          go_meet
          case rel => exact ⟨_, (true), (by first | rfl | (simp; done) | (simp [*]; done)), H', ⟨by have := HK1.out; have := HJ9.out; first | omega | exact Nat.le_refl _⟩, ⟨by (with_reducible repeat (first | apply Kd.R_alloc | apply Kd.R_drewN | apply Kd.R_drew)); exact HO_16.out⟩, ⟨by repeat (first | (with_reducible first | exact HB.out | apply below_alloc | apply pw_below_drewN | apply below_drew1) | exact HB.out)⟩⟩
        case rest =>
         clear HC14
         try clear c1
         try clear p1
         try clear q1
         try clear hx1
         try clear p2
         try clear c3
         try clear c5
         try clear c7
         try clear c7b0
         try clear c8
         try clear c8b0
         try clear c9
         try clear c9b0
         try clear c11
         try clear c11b0
         try clear c11b1
         try clear c12
         try clear c15
         try clear c15b0
         try clear c15b1
         try clear hx197_0
         try clear p1
         try clear p197
         try clear p2
         try clear q1
         try clear q197
         obtain ⟨kq, x47_13, rfl, HA, HJ13, HO_16, HB⟩ := hcut
         cases kq with
         | zero => exact absurd HA.out (by simp [object_bracketed.j2])
         | succ kj13 =>
          have H := HA.out
          clear HA
          simp only [object_bracketed.j2] at H
          by_cases c17 : x47_13 = true
          ·subst c17
           have H1 : (object_bracketed.l0 kj13 a1 x2_1 a3 a4 t194 x16_9 l0 (l0.length : Int) (wrap64 (x28_1 + 1))) = some (r1, r2, r3) := by rw [if_pos rfl] at H; exact H
           clear H
           have H := H1
           clear H1
           have H' := Aside0.mk H
           clear H
           go_wp2
           go_roundg kj13
           case measure => have := HK1.out; have := HJ9.out; have := HJ13.out; omega
           case rel => exact ⟨(x2_1), (x16_9), (wrap64 (x28_1 + 1)), (by first | rfl | (simp; done) | (simp [*]; done)), (by first | rfl | (simp; done) | (simp [*]; done)), H', ⟨by have := HK1.out; have := HJ9.out; have := HJ13.out; omega⟩, ⟨by (with_reducible repeat (first | apply Kd.R_alloc | apply Kd.R_drewN | apply Kd.R_drew)); exact HO_16.out⟩, ⟨by repeat (first | (with_reducible first | exact HB.out | apply below_alloc | apply pw_below_drewN | apply below_drew1) | exact HB.out)⟩⟩
          ·replace c17 := Bool.eq_false_iff.mpr c17
           subst c17
           have H1 : (if 0 ≤ (wrap64 ((x16_9.length : Int) - 1)) then (if (wrap64 ((x16_9.length : Int) - 1)) < (x16_9.length : Int) then (if (wrap64 ((x16_9.length : Int) - 1)) ≤ (x16_9.length : Int) then ((some (x16_9.take ((wrap64 ((x16_9.length : Int) - 1)) : Int).toNat : List Int)).bind fun y202 => (if (rd x16_9 (wrap64 ((x16_9.length : Int) - 1))) > a1 then (object_bracketed.j3 kj13 a1 x2_1 a3 a4 t194 y202 x28_1 (rd x16_9 (wrap64 ((x16_9.length : Int) - 1))) l0 (l0.length : Int) x28_1 true) else (object_bracketed.j3 kj13 a1 x2_1 a3 a4 t194 y202 x28_1 (rd x16_9 (wrap64 ((x16_9.length : Int) - 1))) l0 (l0.length : Int) x28_1 (decide (x28_1 < a1))))) else (none)) else (none)) else (none)) = some (r1, r2, r3) := by rw [if_neg (show ¬ (false = true) by decide)] at H; exact H
           clear H
           have H := H1
           clear H1
           obtain ⟨ji18, hji18⟩ : ∃ j_ : Int, (wrap64 ((x16_9.length : Int) - 1)) = j_ := ⟨_, rfl⟩
           replace H : (if 0 ≤ (ji18) then (if (ji18) < (x16_9.length : Int) then (if (ji18) ≤ (x16_9.length : Int) then ((some (x16_9.take ((ji18) : Int).toNat : List Int)).bind fun y202 => (if (rd x16_9 (ji18)) > a1 then (object_bracketed.j3 kj13 a1 x2_1 a3 a4 t194 y202 x28_1 (rd x16_9 (ji18)) l0 (l0.length : Int) x28_1 true) else (object_bracketed.j3 kj13 a1 x2_1 a3 a4 t194 y202 x28_1 (rd x16_9 (ji18)) l0 (l0.length : Int) x28_1 (decide (x28_1 < a1))))) else (none)) else (none)) else (none)) = some (r1, r2, r3) := by first | (rw [hji18] at H; exact H) | (simp only [hji18] at H ⊢; exact H)
           have hji18w : (IntKind.i64.wrap ((x16_9.length : Int) - 1)) = ji18 := (i64_w _).trans hji18
           by_cases c19 : 0 ≤ (ji18)
           ·rw [if_pos c19] at H
            have c19b0 : decide (0 ≤ (ji18)) = true := decide_eq_true c19
            clear c19
            by_cases c20 : (ji18) < (x16_9.length : Int)
            ·rw [if_pos c20] at H
             have c20b0 : decide ((ji18) < (x16_9.length : Int)) = true := decide_eq_true c20
             clear c20
             by_cases c21 : (ji18) ≤ (x16_9.length : Int)
             ·rw [if_pos c21] at H
              have c21b0 := eq_true c21
              have c21b1 : decide ((ji18) ≤ (x16_9.length : Int)) = true := decide_eq_true c21
              clear c21
              obtain ⟨y202, hy202⟩ : ∃ y_ : List Int, y_ = (x16_9.take ((ji18) : Int).toNat) := ⟨_, rfl⟩
              replace H : (if (rd x16_9 (ji18)) > a1 then (object_bracketed.j3 kj13 a1 x2_1 a3 a4 t194 y202 x28_1 (rd x16_9 (ji18)) l0 (l0.length : Int) x28_1 true) else (object_bracketed.j3 kj13 a1 x2_1 a3 a4 t194 y202 x28_1 (rd x16_9 (ji18)) l0 (l0.length : Int) x28_1 (decide (x28_1 < a1)))) = some (r1, r2, r3) := by first | (rw [hy202]; with_reducible exact H) | (have H2_ := (Option.bind_some _ _).symm.trans H; rw [hy202]; with_reducible exact H2_) | (have H2_ := (Option.bind_some _ _).symm.trans H; with_reducible exact H2_) | with_reducible exact H | (rw [hy202]; exact H) | exact H
              have Ny202 := Aside0.mk hy202
              clear hy202
              have HC22 := Aside0.mk H
              clear H
              obtain ⟨Ao23, co23, eo23⟩ := Kd.R_slice HO_16.out
              subst eo23
              have p201 : 0 ≤ ((ji18) : Int) := of_decide_eq_true (by first | (with_reducible assumption) | assumption)
              have q201 : (ji18) < (x16_9.length : Int) := of_decide_eq_true (by first | (with_reducible assumption) | assumption)
              obtain ⟨ad201, e201, hx201_0⟩ := Kd.at_int (Kd.R_reads' HO_16.out).2.2 (ji18) p201 q201
              cases e201
              replace p201 := eq_true p201
              replace q201 := eq_true q201
              have q24 : ((ji18) : Int) ≤ ((x16_9.length : Int) : Int) := of_decide_eq_true (by first | (with_reducible assumption) | assumption)
              obtain ⟨i024, hi024, _, hsz24, _⟩ := info_parts info3
              have hcut24 := cut_to (P := Tryd.prog) 68 3 .i64 Tryd.underlying68 hi024 (some ad201) x16_9.length co23 (ji18) (of_decide_eq_true (by first | (with_reducible assumption) | assumption)) q24 (Kd.R_reads' HO_16.out).2.1
              have hr24 := Kd.R_take (m := ((ji18) : Int).toNat) HO_16.out (by omega)
              have hy24 : y202.length = ((ji18) : Int).toNat := (by rw [Ny202.out, List.length_take]; omega)
              rw [← Ny202.out] at hr24
              rw [← hy24] at hr24 hcut24
              clear hy24 hi024 hsz24 HO_16
              have HO204 := Aside0.mk hr24
              clear hr24
              replace q24 := eq_true q24
              go_upto_region 11 with (fail)
              go_cut [66] (fun v66 wc => ∃ (kq : Nat) (x66_21 : Bool), v66 = .bool x66_21 ∧ Aside0 (object_bracketed.j3 kq a1 x2_1 a3 a4 t194 y202 x28_1 (rd x16_9 (ji18)) l0 (l0.length : Int) x28_1 x66_21 = some (r1, r2, r3)) ∧ Aside0 (kq ≤ kj13) ∧ Aside0 (Kd.R (Kd.int .i64) 3 wc w.heap.size (fun _ => True) (.slice (some ad201) y202.length co23) y202) ∧ Aside0 (Below w.heap.size w wc))
              case first =>
               have H := HC22.out
               clear HC22
               by_cases c25 : (rd x16_9 (ji18)) > a1
               ·rw [if_pos c25] at H
                have c25b0 : decide (a1 < (rd x16_9 (ji18))) = true := decide_eq_true c25
                clear c25
                (first | rw [c25b0] | (simp only [i64_w, i32_w]; rw [c25b0]) | skip)
                have H' := Aside0.mk H
                clear H
                go_wp2
                go_meet
                case rel => exact ⟨_, (true), (by first | rfl | (simp; done) | (simp [*]; done)), H', ⟨by have := HK1.out; have := HJ9.out; have := HJ13.out; first | omega | exact Nat.le_refl _⟩, ⟨by (with_reducible repeat (first | apply Kd.R_alloc | apply Kd.R_drewN | apply Kd.R_drew)); exact HO204.out⟩, ⟨by repeat (first | (with_reducible first | exact HB.out | apply below_alloc | apply pw_below_drewN | apply below_drew1) | exact HB.out)⟩⟩
               ·rw [if_neg c25] at H
                have c25b0 : decide (a1 < (rd x16_9 (ji18))) = false := decide_eq_false c25
                clear c25
                (first | rw [c25b0] | (simp only [i64_w, i32_w]; rw [c25b0]) | skip)
                have H' := Aside0.mk H
                clear H
                go_wp2
                go_meet
                case rel => exact ⟨_, (decide (x28_1 < a1)), (by first | rfl | (simp; done) | (simp [*]; done)), H', ⟨by have := HK1.out; have := HJ9.out; have := HJ13.out; first | omega | exact Nat.le_refl _⟩, ⟨by (with_reducible repeat (first | apply Kd.R_alloc | apply Kd.R_drewN | apply Kd.R_drew)); exact HO204.out⟩, ⟨by repeat (first | (with_reducible first | exact HB.out | apply below_alloc | apply pw_below_drewN | apply below_drew1) | exact HB.out)⟩⟩
              case rest =>
               clear HC22
               try clear c1
               try clear p1
               try clear q1
               try clear hx1
               try clear c2
               try clear p2
               try clear q2
               try clear hx2
               try clear c3
               try clear c5
               try clear p6
               try clear c7
               try clear c7b0
               try clear c8
               try clear c8b0
               try clear c9
               try clear c9b0
               try clear c11
               try clear c11b0
               try clear c11b1
               try clear c12
               try clear c15
               try clear c15b0
               try clear c15b1
               try clear c17
               try clear c19
               try clear c19b0
               try clear p19
               try clear q19
               try clear hx19
               try clear c20
               try clear c20b0
               try clear p20
               try clear q20
               try clear hx20
               try clear c21
               try clear c21b0
               try clear c21b1
               try clear q24
               try clear c25
               try clear c25b0
               try clear hx197_0
               try clear hx201_0
               try clear p1
               try clear p197
               try clear p2
               try clear p201
               try clear q1
               try clear q197
               try clear q201
               try clear q24
               obtain ⟨kq, x66_21, rfl, HA, HJ21, HO_16, HB⟩ := hcut
               cases kq with
               | zero => exact absurd HA.out (by simp [object_bracketed.j3])
               | succ kj21 =>
                have H := HA.out
                clear HA
                simp only [object_bracketed.j3] at H
                by_cases c26 : x66_21 = true
                ·subst c26
                 have H1 : (object_bracketed.l0 kj21 a1 x2_1 a3 a4 t194 y202 l0 (l0.length : Int) (wrap64 (x28_1 + 1))) = some (r1, r2, r3) := by rw [if_pos rfl] at H; exact H
                 clear H
                 have H := H1
                 clear H1
                 have H' := Aside0.mk H
                 clear H
                 go_wp2
                 go_roundg kj21
                 case measure => have := HK1.out; have := HJ9.out; have := HJ13.out; have := HJ21.out; omega
                 case rel => exact ⟨(x2_1), (y202), (wrap64 (x28_1 + 1)), (by first | rfl | (simp; done) | (simp [*]; done)), (by first | rfl | (simp; done) | (simp [*]; done)), H', ⟨by have := HK1.out; have := HJ9.out; have := HJ13.out; have := HJ21.out; omega⟩, ⟨by (with_reducible repeat (first | apply Kd.R_alloc | apply Kd.R_drewN | apply Kd.R_drew)); exact HO_16.out⟩, ⟨by repeat (first | (with_reducible first | exact HB.out | apply below_alloc | apply pw_below_drewN | apply below_drew1) | exact HB.out)⟩⟩
                ·replace c26 := Bool.eq_false_iff.mpr c26
                 subst c26
                 have H1 : (if (wrap64 (x2_1 - 1)) > 0 then (object_bracketed.l0 kj21 a1 (wrap64 (x2_1 - 1)) a3 a4 t194 y202 l0 (l0.length : Int) (wrap64 (x28_1 + 1))) else (if a4 = true then (some ((rd x16_9 (ji18)), wrap64 (x28_1 + 1), true)) else (some (wrap64 ((rd x16_9 (ji18)) + 1), x28_1, true)))) = some (r1, r2, r3) := by rw [if_neg (show ¬ (false = true) by decide)] at H; exact H
                 clear H
                 have H := H1
                 clear H1
                 by_cases c27 : (wrap64 (x2_1 - 1)) > 0
                 ·rw [if_pos c27] at H
                  have c27b0 : decide (0 < (wrap64 (x2_1 - 1))) = true := decide_eq_true c27
                  clear c27
                  have H' := Aside0.mk H
                  clear H
                  go_wp2
                  go_roundg kj21
                  case measure => have := HK1.out; have := HJ9.out; have := HJ13.out; have := HJ21.out; omega
                  case rel => exact ⟨(wrap64 (x2_1 - 1)), (y202), (wrap64 (x28_1 + 1)), (by first | rfl | (simp; done) | (simp [*]; done)), (by first | rfl | (simp; done) | (simp [*]; done)), H', ⟨by have := HK1.out; have := HJ9.out; have := HJ13.out; have := HJ21.out; omega⟩, ⟨by (with_reducible repeat (first | apply Kd.R_alloc | apply Kd.R_drewN | apply Kd.R_drew)); exact HO_16.out⟩, ⟨by repeat (first | (with_reducible first | exact HB.out | apply below_alloc | apply pw_below_drewN | apply below_drew1) | exact HB.out)⟩⟩
                 ·rw [if_neg c27] at H
                  have c27b0 : decide (0 < (wrap64 (x2_1 - 1))) = false := decide_eq_false c27
                  clear c27
                  by_cases c28 : a4 = true
                  ·subst c28
                   have H1 : (some ((rd x16_9 (ji18)), wrap64 (x28_1 + 1), true)) = some (r1, r2, r3) := by rw [if_pos rfl] at H; exact H
                   clear H
                   have H := H1
                   clear H1
                   simp only [Option.some.injEq, Prod.mk.injEq] at H
                   obtain ⟨rfl, rfl, rfl⟩ := H
                   go_wp2
                   go_ret3
                   exact ⟨by first | rfl | (simp [errW_none, errW_some] <;> rfl) | (simp only [← hji18]; first | rfl | (simp [errW_none, errW_some] <;> rfl)) | (simp [*, errW_none, errW_some] <;> rfl), by repeat (first | (with_reducible first | exact HB.out | apply below_alloc | apply pw_below_drewN | apply below_drew1) | exact HB.out)⟩
                  ·replace c28 := Bool.eq_false_iff.mpr c28
                   subst c28
                   have H1 : (some (wrap64 ((rd x16_9 (ji18)) + 1), x28_1, true)) = some (r1, r2, r3) := by rw [if_neg (show ¬ (false = true) by decide)] at H; exact H
                   clear H
                   have H := H1
                   clear H1
                   simp only [Option.some.injEq, Prod.mk.injEq] at H
                   obtain ⟨rfl, rfl, rfl⟩ := H
                   go_wp2
                   go_ret3
                   exact ⟨by first | rfl | (simp [errW_none, errW_some] <;> rfl) | (simp only [← hji18]; first | rfl | (simp [errW_none, errW_some] <;> rfl)) | (simp [*, errW_none, errW_some] <;> rfl), by repeat (first | (with_reducible first | exact HB.out | apply below_alloc | apply pw_below_drewN | apply below_drew1) | exact HB.out)⟩
             ·rw [if_neg c21] at H
              exact absurd H (by simp)
            ·rw [if_neg c20] at H
             exact absurd H (by simp)
           ·rw [if_neg c19] at H
            exact absurd H (by simp)
     ·rw [if_neg c9] at H
      exact absurd H (by simp)
    ·rw [if_neg c8] at H
     exact absurd H (by simp)
   ·rw [if_neg c7] at H
    have c7b0 : decide (x28_1 < (l0.length : Int)) = false := decide_eq_false c7
    clear c7
    simp only [Option.some.injEq, Prod.mk.injEq] at H
    obtain ⟨rfl, rfl, rfl⟩ := H
    go_wp2
    go_ret3
    exact ⟨by first | rfl | (simp [errW_none, errW_some] <;> rfl) | (simp [*, errW_none, errW_some] <;> rfl), by repeat (first | (with_reducible first | exact HB.out | apply below_alloc | apply pw_below_drewN | apply below_drew1) | exact HB.out)⟩

end Go.Proofs.YtcochbkdgjgaeaaDoor.X
