-- Written by wip/xprint.py over the kit's print.py: the Lean function of each Go function, and the proof that the Go text comes to it.
import Derived.Test.YtcochbkdgjgaeaaDoorX0
import Derived.Test.YtcochbkdgjgaeaaDoorX9
import Derived.Test.YtcochbkdgjgaeaaDoorX13
import Derived.Test.YtcochbkdgjgaeaaDoorX16
namespace Go.Proofs.YtcochbkdgjgaeaaDoor.X
open Go.RowKit Go.Proofs.YtcochbkdgjgaeaaDoorW.PrintWords Go.Proofs.YtcochbkdgjgaeaaDoorW.PrintLast Go.Proofs.YtcochbkdgjgaeaaDoorW.PrintMore
attribute [local go_sem] max2_int min2_int max_two min_two max_three min_three max_four min_four   -- for this text's walks alone
set_option linter.unusedVariables false
set_option linter.unusedSimpArgs false

/-! ### object_paragraphs: function 28 -/
mutual
def object_paragraphs.l0 : Nat → List Int → Int → Int → Bool → List (S76) → Int → List (List Int) → Int → Int → Option (Int × Int × Bool)
 | 0, _, _, _, _, _, _, _, _, _ => none
 | k + 1, x0, x1, x2, x3, x11, x12, x24, x25, x26 => if x26 < x25 then (if 0 ≤ x26 then (if x26 < (x24.length : Int) then (if (x11.length : Int) = 0 then (object_paragraphs.j1 k x0 x1 x2 x3 x11 x12 x26 (((rd_L4 x24 x26).length : Int) == 0) x24 x25 x26 true) else (if 0 ≤ (wrap64 ((x11.length : Int) - 1)) then (if (wrap64 ((x11.length : Int) - 1)) < (x11.length : Int) then (object_paragraphs.j1 k x0 x1 x2 x3 x11 x12 x26 (((rd_L4 x24 x26).length : Int) == 0) x24 x25 x26 (((rd_T76 x11 (wrap64 ((x11.length : Int) - 1))).f2) != (((rd_L4 x24 x26).length : Int) == 0))) else (none)) else (none))) else (none)) else (none)) else ((object_taken.f k x11 x12 x2 x3).bind fun bt171 => (if bt171.2.2 = true then (if 0 ≤ bt171.1 then (if bt171.1 < (x11.length : Int) then ((lines_Start.f k x0 ((rd_T76 x11 bt171.1).f0)).bind fun bt175 => (if 0 ≤ (wrap64 (bt171.2.1 - 1)) then (if (wrap64 (bt171.2.1 - 1)) < (x11.length : Int) then ((lines_Start.f k x0 (wrap64 (((rd_T76 x11 (wrap64 (bt171.2.1 - 1))).f1) - 1))).bind fun bt178 => (some (bt175.1, bt178.1, true))) else (none)) else (none))) else (none)) else (none)) else (some (0, 0, false))))
def object_paragraphs.j1 : Nat → List Int → Int → Int → Bool → List (S76) → Int → Int → Bool → List (List Int) → Int → Int → Bool → Option (Int × Int × Bool)
 | 0, _, _, _, _, _, _, _, _, _, _, _, _ => none
 | k + 1, x0, x1, x2, x3, x11, x12, x13, x15, x24, x25, x26, x47 => if x47 = true then (if x11.length < 5864062014805 then ((some (x11 ++ [(⟨x13, 0, x15⟩ : S76)] : List (S76))).bind fun y166 => (if 0 ≤ (wrap64 ((y166.length : Int) - 1)) then (if (wrap64 ((y166.length : Int) - 1)) < (y166.length : Int) then ((some (y166.set ((wrap64 ((y166.length : Int) - 1)) : Int).toNat (⟨(rd_T76 y166 (wrap64 ((y166.length : Int) - 1))).f0, wrap64 (x13 + 1), (rd_T76 y166 (wrap64 ((y166.length : Int) - 1))).f2⟩ : S76) : List (S76))).bind fun y169 => (if x13 = x1 then (object_paragraphs.l0 k x0 x1 x2 x3 y169 (wrap64 ((y166.length : Int) - 1)) x24 x25 (wrap64 (x26 + 1))) else (object_paragraphs.l0 k x0 x1 x2 x3 y169 x12 x24 x25 (wrap64 (x26 + 1))))) else (none)) else (none))) else (none)) else (if 0 ≤ (wrap64 ((x11.length : Int) - 1)) then (if (wrap64 ((x11.length : Int) - 1)) < (x11.length : Int) then ((some (x11.set ((wrap64 ((x11.length : Int) - 1)) : Int).toNat (⟨(rd_T76 x11 (wrap64 ((x11.length : Int) - 1))).f0, wrap64 (x13 + 1), (rd_T76 x11 (wrap64 ((x11.length : Int) - 1))).f2⟩ : S76) : List (S76))).bind fun y170 => (if x13 = x1 then (object_paragraphs.l0 k x0 x1 x2 x3 y170 (wrap64 ((x11.length : Int) - 1)) x24 x25 (wrap64 (x26 + 1))) else (object_paragraphs.l0 k x0 x1 x2 x3 y170 x12 x24 x25 (wrap64 (x26 + 1))))) else (none)) else (none))
end
def object_paragraphs.f (k : Nat) (l0 : List Int) (a1 : Int) (a2 : Int) (a3 : Bool) : Option (Int × Int × Bool) := (lines_Split.f l0).bind fun t161 => (object_paragraphs.l0 k l0 a1 a2 a3 ([] : List (S76)) 0 t161 (t161.length : Int) 0)
theorem object_paragraphs.mono_l : ∀ k, (∀ y0 y1 y2 y3 y4 y5 y6 y7 y8, LeO (object_paragraphs.l0 k y0 y1 y2 y3 y4 y5 y6 y7 y8) (object_paragraphs.l0 (k + 1) y0 y1 y2 y3 y4 y5 y6 y7 y8)) ∧ (∀ y0 y1 y2 y3 y4 y5 y6 y7 y8 y9 y10 y11, LeO (object_paragraphs.j1 k y0 y1 y2 y3 y4 y5 y6 y7 y8 y9 y10 y11) (object_paragraphs.j1 (k + 1) y0 y1 y2 y3 y4 y5 y6 y7 y8 y9 y10 y11))
 | 0 => ⟨fun _ _ _ _ _ _ _ _ _ r h => by simp [object_paragraphs.l0] at h, fun _ _ _ _ _ _ _ _ _ _ _ _ r h => by simp [object_paragraphs.j1] at h⟩
 | k + 1 => by
  obtain ⟨ih0, ih1⟩ := object_paragraphs.mono_l k
  refine ⟨?_, ?_⟩
  ·intro y0 y1 y2 y3 y4 y5 y6 y7 y8
   unfold object_paragraphs.l0
   repeat' first
   | (with_reducible exact ih0 _ _ _ _ _ _ _ _ _)
   | (with_reducible exact ih1 _ _ _ _ _ _ _ _ _ _ _ _)
   | (with_reducible exact lines_Start.mono _ _ _)
   | (with_reducible exact object_taken.mono _ _ _ _ _)
   | (with_reducible exact LeO.refl _)
   | (with_reducible exact LeO.none _)
   | (with_reducible refine LeO.ite ?_ ?_)
   | (with_reducible refine LeO.bind ?_ (fun _ => ?_))
   | exact ih0 _ _ _ _ _ _ _ _ _
   | exact ih1 _ _ _ _ _ _ _ _ _ _ _ _
   | exact lines_Start.mono _ _ _
   | exact object_taken.mono _ _ _ _ _
   | exact LeO.none _
   | refine LeO.ite ?_ ?_
   | refine LeO.bind ?_ (fun _ => ?_)
  ·intro y0 y1 y2 y3 y4 y5 y6 y7 y8 y9 y10 y11
   unfold object_paragraphs.j1
   repeat' first
   | (with_reducible exact ih0 _ _ _ _ _ _ _ _ _)
   | (with_reducible exact ih1 _ _ _ _ _ _ _ _ _ _ _ _)
   | (with_reducible exact lines_Start.mono _ _ _)
   | (with_reducible exact object_taken.mono _ _ _ _ _)
   | (with_reducible exact LeO.refl _)
   | (with_reducible exact LeO.none _)
   | (with_reducible refine LeO.ite ?_ ?_)
   | (with_reducible refine LeO.bind ?_ (fun _ => ?_))
   | exact ih0 _ _ _ _ _ _ _ _ _
   | exact ih1 _ _ _ _ _ _ _ _ _ _ _ _
   | exact lines_Start.mono _ _ _
   | exact object_taken.mono _ _ _ _ _
   | exact LeO.none _
   | refine LeO.ite ?_ ?_
   | refine LeO.bind ?_ (fun _ => ?_)
theorem object_paragraphs.mono : ∀ a0 a1 a2 a3 k, LeO (object_paragraphs.f k a0 a1 a2 a3) (object_paragraphs.f (k + 1) a0 a1 a2 a3) := by
 intro a0 a1 a2 a3 k
 obtain ⟨ih0, ih1⟩ := object_paragraphs.mono_l k
 unfold object_paragraphs.f
 repeat' first
   | (with_reducible exact ih0 _ _ _ _ _ _ _ _ _)
   | (with_reducible exact ih1 _ _ _ _ _ _ _ _ _ _ _ _)
   | (with_reducible exact lines_Start.mono _ _ _)
   | (with_reducible exact object_taken.mono _ _ _ _ _)
   | (with_reducible exact LeO.refl _)
   | (with_reducible exact LeO.none _)
   | (with_reducible refine LeO.ite ?_ ?_)
   | (with_reducible refine LeO.bind ?_ (fun _ => ?_))
   | exact ih0 _ _ _ _ _ _ _ _ _
   | exact ih1 _ _ _ _ _ _ _ _ _ _ _ _
   | exact lines_Start.mono _ _ _
   | exact object_taken.mono _ _ _ _ _
   | exact LeO.none _
   | refine LeO.ite ?_ ?_
   | refine LeO.bind ?_ (fun _ => ?_)
set_option maxHeartbeats 8000000 in
set_option maxRecDepth 100000 in
theorem object_paragraphs.calls (k : Nat) (A0 : Option Addr) (c0 : Nat) (l0 : List Int) (a1 : Int) (a2 : Int) (a3 : Bool) (r1 : Int) (r2 : Int) (r3 : Bool) (w : World) (hr0 : Kd.C (Kd.int .u8) w A0 l0.length l0) (hc0 : l0.length ≤ c0) (h : object_paragraphs.f k l0 a1 a2 a3 = some (r1, r2, r3)) :
  Calls Tryd.prog 28 #[.slice A0 l0.length c0, .int .i64 a1, .int .i64 a2, .bool a3] w fun e w' => e = .returned (.tuple #[.int .i64 r1, .int .i64 r2, .bool r3]) ∧ Below w.heap.size w w' := by
 have hu76 := Tryd.underlying76
 have HR0 := Aside0.mk hr0
 have HC0 := Aside0.mk hc0
 clear hr0 hc0
 have HB := Aside0.mk (Below.refl w.heap.size w)
 have H : ((lines_Split.f l0).bind fun t161 => (object_paragraphs.l0 k l0 a1 a2 a3 ([] : List (S76)) 0 t161 (t161.length : Int) 0)) = some (r1, r2, r3) := h
 clear h
 replace H := Option.bind_eq_some_iff.mp H
 obtain ⟨t161, A50, H⟩ := H
 replace H : (object_paragraphs.l0 k l0 a1 a2 a3 ([] : List (S76)) 0 t161 (t161.length : Int) 0) = some (r1, r2, r3) := H
 have A5 := Aside0.mk A50
 clear A50
 have H' := Aside0.mk H
 clear H
 go_enter Tryd.func28, Tryd.ntmps28
 go_wp2_with (first | ((with_reducible refine gate_callee (f := 48) rfl ?_); refine goesL_ (some 24) rfl rfl Tryd.func48 (by kernel_rfl) rfl #[.slice A0 l0.length c0] rfl (by (try simp only [List.map_toArray, List.map_cons, List.map_nil]); first | done | rfl | (simp only [List.length_drop, List.length_take]; rfl)) ?_; (with_reducible refine (lines_Split.calls _ _ l0 t161 _ ?side1 ?side2 A5.out).mono ?_); (case side1 => repeat (first | exact HR0.out | (with_reducible refine Kd.C_alloc ?_ _) | (with_reducible refine Kd.C_drewN ?_ _) | (with_reducible refine Kd.C_drew ?_))); (case side2 => exact HC0.out); rintro e w6 ⟨v162, rfl, ho0, hb⟩; refine ⟨_, rfl, ?_⟩; have n0_ := Aside0.mk (Kd.S_lower ho0 (below_size (by repeat (first | (with_reducible first | exact HB.out | apply below_alloc | apply pw_below_drewN | apply below_drew1) | exact HB.out)))); have n1_ := Aside0.mk (below_step (by repeat (first | (with_reducible first | exact HB.out | apply below_alloc | apply pw_below_drewN | apply below_drew1) | exact HB.out)) hb); clear HB; have HO163 := n0_; have HB := n1_; clear n0_ n1_; (try clear hb); (try clear hb2); (try clear hk); (try clear hi); (try clear ho0); obtain ⟨Ao7, co7, eo7⟩ := Kd.S_slice HO163.out; subst eo7))
 go_loopg [11, 12, 26] k (fun kq v11 v12 v26 w' => ∃ (x11_1 : List (S76)) (x12_1 : Int) (x26_1 : Int), v12 = .int .i64 x12_1 ∧ v26 = .int .i64 x26_1 ∧ Aside0 (object_paragraphs.l0 kq l0 a1 a2 a3 x11_1 x12_1 t161 (t161.length : Int) x26_1 = some (r1, r2, r3)) ∧ Aside0 (kq ≤ k) ∧ Aside0 (Kd.R k76 76 w' w.heap.size (fun _ => True) v11 x11_1) ∧ Aside0 (Kd.S (Kd.slice 5 (Kd.int .u8)) 22 w' w.heap.size (fun _ => True) (.slice Ao7 t161.length co7) t161) ∧ Aside0 (Below w.heap.size w w'))
 case atStart => exact ⟨(([] : List (S76))), (0), (0), (by first | rfl | (simp; done) | (simp [*]; done)), (by first | rfl | (simp; done) | (simp [*]; done)), H', ⟨Nat.le_refl _⟩, ⟨by first | exact Kd.R_nil _ _ _ _ _ | exact Kd.N_nil _ _ _ _ _ | exact Kd.V_nil _ _ _ _ _ | exact Kd.Q_nil _ _ _ _ _ | exact Kd.S_nil _ _ _ _ _⟩, ⟨by (with_reducible repeat (first | apply Kd.S_alloc | apply Kd.S_drewN | apply Kd.S_drew)); exact HO163.out⟩, ⟨by repeat (first | (with_reducible first | exact HB.out | apply below_alloc | apply pw_below_drewN | apply below_drew1) | exact HB.out)⟩⟩
 case round =>
  clear H'
  try clear c2
  try clear p2
  try clear c4
  obtain ⟨x11_1, x12_1, x26_1, rfl, rfl, HA, HK1, HO_11, HO_24, HB⟩ := hrel
  cases gk with
  | zero => exact absurd HA.out (by simp [object_paragraphs.l0])
  | succ k1 =>
   have H := HA.out
   clear HA
   simp only [object_paragraphs.l0] at H
   by_cases c8 : x26_1 < (t161.length : Int)
   ·rw [if_pos c8] at H
    have c8b0 : decide (x26_1 < (t161.length : Int)) = true := decide_eq_true c8
    clear c8
    by_cases c9 : 0 ≤ x26_1
    ·rw [if_pos c9] at H
     have c9b0 : decide (0 ≤ x26_1) = true := decide_eq_true c9
     clear c9
     by_cases c10 : x26_1 < (t161.length : Int)
     ·rw [if_pos c10] at H
      have c10b0 : decide (x26_1 < (t161.length : Int)) = true := decide_eq_true c10
      clear c10
      have HC11 := Aside0.mk H
      clear H
      have p164 : 0 ≤ (x26_1 : Int) := of_decide_eq_true (by first | (with_reducible assumption) | assumption)
      have q164 : x26_1 < (t161.length : Int) := of_decide_eq_true (by first | (with_reducible assumption) | assumption)
      obtain ⟨ad164, A164_0, c164_0, e164, hx164_0, hl164_0, hi164_0⟩ := at_L4 (Kd.S_reads' HO_24.out).2.2 x26_1 p164 q164
      cases e164
      obtain ⟨ce164, hce164, hMe164, hcc164⟩ := Kd.S_get HO_24.out [] x26_1 p164 (by first | exact q164 | exact of_decide_eq_true (by first | (with_reducible assumption) | assumption) | (have e_ := (Kd.S_reads' HO_24.out).1; omega))
      obtain ⟨ve164_0, rfl, ge164_0⟩ := hMe164
      have hv164_0 := hcc164 0 _ rfl
      rw [Nat.add_zero, show ((Kd.slice 5 (Kd.int .u8))).sz = 1 from rfl, Nat.mul_one] at hv164_0
      replace hv164_0 := Option.some.inj (hv164_0.symm.trans hx164_0)
      rw [hv164_0] at ge164_0
      have HL164_0 := Aside0.mk (show Kd.R (Kd.int .u8) 5 _ _ _ _ (rd_L4 t161 x26_1) from ge164_0)
      clear hv164_0 ge164_0
      clear hcc164 hce164
      have HR164_0 := Aside0.mk hi164_0
      have HC164_0 := Aside0.mk hl164_0
      clear hi164_0 hl164_0
      replace p164 := eq_true p164
      replace q164 := eq_true q164
      go_upto_region 7 with (fail)
      go_cut [47] (fun v47 wc => ∃ (kq : Nat) (x47_10 : Bool), v47 = .bool x47_10 ∧ Aside0 (object_paragraphs.j1 kq l0 a1 a2 a3 x11_1 x12_1 x26_1 (((rd_L4 t161 x26_1).length : Int) == 0) t161 (t161.length : Int) x26_1 x47_10 = some (r1, r2, r3)) ∧ Aside0 (kq ≤ k1) ∧ Aside0 (Kd.R k76 76 wc w.heap.size (fun _ => True) u11 x11_1) ∧ Aside0 (Kd.S (Kd.slice 5 (Kd.int .u8)) 22 wc w.heap.size (fun _ => True) (.slice (some ad164) t161.length co7) t161) ∧ Aside0 (Kd.C (Kd.int .u8) wc A164_0 (rd_L4 t161 x26_1).length (rd_L4 t161 x26_1)) ∧ Aside0 (Below w.heap.size w wc))
      case first =>
       have H := HC11.out
       clear HC11
       by_cases c12 : (x11_1.length : Int) = 0
       ·rw [if_pos c12] at H
        have c12b0 : ((x11_1.length : Int) == 0) = true := beq_iff_eq.mpr c12
        have c12b1 : ((x11_1.length : Int) != 0) = false := bne_eq_false_iff_eq.mpr c12
        clear c12
        (first | rw [c12b0] | (simp only [i64_w, i32_w]; rw [c12b0]) | skip)
        have H' := Aside0.mk H
        clear H
        obtain ⟨Ao13, co13, eo13⟩ := Kd.R_slice HO_11.out
        subst eo13
        go_wp2
        go_meet
        case rel => exact ⟨_, (true), (by first | rfl | (simp; done) | (simp [*]; done)), H', ⟨by have := HK1.out; first | omega | exact Nat.le_refl _⟩, ⟨by (with_reducible repeat (first | apply Kd.R_alloc | apply Kd.R_drewN | apply Kd.R_drew)); exact HO_11.out⟩, ⟨by (with_reducible repeat (first | apply Kd.S_alloc | apply Kd.S_drewN | apply Kd.S_drew)); exact HO_24.out⟩, ⟨by repeat (first | (with_reducible exact HR164_0.out) | (with_reducible refine Kd.C_alloc ?_ _) | (with_reducible refine Kd.C_drewN ?_ _) | (with_reducible refine Kd.C_drew ?_) | exact HR164_0.out)⟩, ⟨by repeat (first | (with_reducible first | exact HB.out | apply below_alloc | apply pw_below_drewN | apply below_drew1) | exact HB.out)⟩⟩
       ·rw [if_neg c12] at H
        have c12b0 : ((x11_1.length : Int) == 0) = false := beq_eq_false_iff_ne.mpr c12
        have c12b1 : ((x11_1.length : Int) != 0) = true := bne_iff_ne.mpr c12
        have c12b2 : ¬ (x11_1 = []) := fun h_ => c12 (by rw [h_]; rfl)
        (first | rw [c12b0] | (simp only [i64_w, i32_w]; rw [c12b0]) | skip)
        obtain ⟨ji14, hji14⟩ : ∃ j_ : Int, (wrap64 ((x11_1.length : Int) - 1)) = j_ := ⟨_, rfl⟩
        replace H : (if 0 ≤ (ji14) then (if (ji14) < (x11_1.length : Int) then (object_paragraphs.j1 k1 l0 a1 a2 a3 x11_1 x12_1 x26_1 (((rd_L4 t161 x26_1).length : Int) == 0) t161 (t161.length : Int) x26_1 (((rd_T76 x11_1 (ji14)).f2) != (((rd_L4 t161 x26_1).length : Int) == 0))) else (none)) else (none)) = some (r1, r2, r3) := by first | (rw [hji14] at H; exact H) | (simp only [hji14] at H ⊢; exact H)
        have hji14w : (IntKind.i64.wrap ((x11_1.length : Int) - 1)) = ji14 := (i64_w _).trans hji14
        by_cases c15 : 0 ≤ (ji14)
        ·rw [if_pos c15] at H
         have c15b0 : decide (0 ≤ (ji14)) = true := decide_eq_true c15
         clear c15
         by_cases c16 : (ji14) < (x11_1.length : Int)
         ·rw [if_pos c16] at H
          have c16b0 : decide ((ji14) < (x11_1.length : Int)) = true := decide_eq_true c16
          clear c16
          have H' := Aside0.mk H
          clear H
          obtain ⟨Ao17, co17, eo17⟩ := Kd.R_slice HO_11.out
          subst eo17
          have p165 : 0 ≤ ((ji14) : Int) := of_decide_eq_true (by first | (with_reducible assumption) | assumption)
          have q165 : (ji14) < (x11_1.length : Int) := of_decide_eq_true (by first | (with_reducible assumption) | assumption)
          obtain ⟨ad165, e165, hx165_0, hx165_1, hx165_2⟩ := at_T76 (Kd.R_reads' HO_11.out).2.2 (ji14) p165 q165
          cases e165
          replace p165 := eq_true p165
          replace q165 := eq_true q165
          go_wp2
          go_meet
          case rel => exact ⟨_, ((((rd_T76 x11_1 (ji14)).f2) != (((rd_L4 t161 x26_1).length : Int) == 0))), (by first | rfl | (simp; done) | (simp only [← hji14] <;> (first | rfl | simp)) | (simp [*]; done)), H', ⟨by have := HK1.out; first | omega | exact Nat.le_refl _⟩, ⟨by (with_reducible repeat (first | apply Kd.R_alloc | apply Kd.R_drewN | apply Kd.R_drew)); exact HO_11.out⟩, ⟨by (with_reducible repeat (first | apply Kd.S_alloc | apply Kd.S_drewN | apply Kd.S_drew)); exact HO_24.out⟩, ⟨by repeat (first | (with_reducible exact HR164_0.out) | (with_reducible refine Kd.C_alloc ?_ _) | (with_reducible refine Kd.C_drewN ?_ _) | (with_reducible refine Kd.C_drew ?_) | exact HR164_0.out)⟩, ⟨by repeat (first | (with_reducible first | exact HB.out | apply below_alloc | apply pw_below_drewN | apply below_drew1) | exact HB.out)⟩⟩
         ·rw [if_neg c16] at H
          exact absurd H (by simp)
        ·rw [if_neg c15] at H
         exact absurd H (by simp)
      case rest =>
       clear HC11
       try clear c1
       try clear p1
       try clear q1
       try clear hx1
       try clear c2
       try clear p2
       try clear c4
       try clear p6
       try clear c8
       try clear c8b0
       try clear c9
       try clear c9b0
       try clear c10
       try clear c10b0
       try clear c12
       try clear c12b0
       try clear c12b1
       try clear c12b2
       try clear c15
       try clear c15b0
       try clear c16
       try clear c16b0
       try clear p16
       try clear q16
       try clear hx16
       try clear hx164_0
       try clear hx165_0
       try clear hx165_1
       try clear hx165_2
       try clear p164
       try clear p165
       try clear p2
       try clear q164
       try clear q165
       obtain ⟨kq, x47_10, rfl, HA, HJ10, HO_11, HO_24, HR164_0, HB⟩ := hcut
       cases kq with
       | zero => exact absurd HA.out (by simp [object_paragraphs.j1])
       | succ kj10 =>
        have H := HA.out
        clear HA
        simp only [object_paragraphs.j1] at H
        by_cases c18 : x47_10 = true
        ·subst c18
         have H1 : (if x11_1.length < 5864062014805 then ((some (x11_1 ++ [(⟨x26_1, 0, (((rd_L4 t161 x26_1).length : Int) == 0)⟩ : S76)] : List (S76))).bind fun y166 => (if 0 ≤ (wrap64 ((y166.length : Int) - 1)) then (if (wrap64 ((y166.length : Int) - 1)) < (y166.length : Int) then ((some (y166.set ((wrap64 ((y166.length : Int) - 1)) : Int).toNat (⟨(rd_T76 y166 (wrap64 ((y166.length : Int) - 1))).f0, wrap64 (x26_1 + 1), (rd_T76 y166 (wrap64 ((y166.length : Int) - 1))).f2⟩ : S76) : List (S76))).bind fun y169 => (if x26_1 = a1 then (object_paragraphs.l0 kj10 l0 a1 a2 a3 y169 (wrap64 ((y166.length : Int) - 1)) t161 (t161.length : Int) (wrap64 (x26_1 + 1))) else (object_paragraphs.l0 kj10 l0 a1 a2 a3 y169 x12_1 t161 (t161.length : Int) (wrap64 (x26_1 + 1))))) else (none)) else (none))) else (none)) = some (r1, r2, r3) := by rw [if_pos rfl] at H; exact H
         clear H
         have H := H1
         clear H1
         by_cases c19 : x11_1.length < 5864062014805
         ·rw [if_pos c19] at H
          have LMc19 := Aside0.mk c19
          clear c19
          obtain ⟨y166, hy166⟩ : ∃ y_ : List (S76), y_ = (x11_1 ++ [(⟨x26_1, 0, (((rd_L4 t161 x26_1).length : Int) == 0)⟩ : S76)]) := ⟨_, rfl⟩
          replace H : (if 0 ≤ (wrap64 ((y166.length : Int) - 1)) then (if (wrap64 ((y166.length : Int) - 1)) < (y166.length : Int) then ((some (y166.set ((wrap64 ((y166.length : Int) - 1)) : Int).toNat (⟨(rd_T76 y166 (wrap64 ((y166.length : Int) - 1))).f0, wrap64 (x26_1 + 1), (rd_T76 y166 (wrap64 ((y166.length : Int) - 1))).f2⟩ : S76) : List (S76))).bind fun y169 => (if x26_1 = a1 then (object_paragraphs.l0 kj10 l0 a1 a2 a3 y169 (wrap64 ((y166.length : Int) - 1)) t161 (t161.length : Int) (wrap64 (x26_1 + 1))) else (object_paragraphs.l0 kj10 l0 a1 a2 a3 y169 x12_1 t161 (t161.length : Int) (wrap64 (x26_1 + 1))))) else (none)) else (none)) = some (r1, r2, r3) := by first | (rw [hy166]; with_reducible exact H) | (have H2_ := (Option.bind_some _ _).symm.trans H; rw [hy166]; with_reducible exact H2_) | (have H2_ := (Option.bind_some _ _).symm.trans H; with_reducible exact H2_) | with_reducible exact H | (rw [hy166]; exact H) | exact H
          have Ny166 := Aside0.mk hy166
          clear hy166
          obtain ⟨ji20, hji20⟩ : ∃ j_ : Int, (wrap64 ((y166.length : Int) - 1)) = j_ := ⟨_, rfl⟩
          replace H : (if 0 ≤ (ji20) then (if (ji20) < (y166.length : Int) then ((some (y166.set ((ji20) : Int).toNat (⟨(rd_T76 y166 (ji20)).f0, wrap64 (x26_1 + 1), (rd_T76 y166 (ji20)).f2⟩ : S76) : List (S76))).bind fun y169 => (if x26_1 = a1 then (object_paragraphs.l0 kj10 l0 a1 a2 a3 y169 ji20 t161 (t161.length : Int) (wrap64 (x26_1 + 1))) else (object_paragraphs.l0 kj10 l0 a1 a2 a3 y169 x12_1 t161 (t161.length : Int) (wrap64 (x26_1 + 1))))) else (none)) else (none)) = some (r1, r2, r3) := by first | (rw [hji20] at H; exact H) | (simp only [hji20] at H ⊢; exact H)
          have hji20w : (IntKind.i64.wrap ((y166.length : Int) - 1)) = ji20 := (i64_w _).trans hji20
          by_cases c21 : 0 ≤ (ji20)
          ·rw [if_pos c21] at H
           have c21b0 : decide (0 ≤ (ji20)) = true := decide_eq_true c21
           clear c21
           by_cases c22 : (ji20) < (y166.length : Int)
           ·rw [if_pos c22] at H
            have c22b0 : decide ((ji20) < (y166.length : Int)) = true := decide_eq_true c22
            clear c22
            obtain ⟨y169, hy169⟩ : ∃ y_ : List (S76), y_ = (y166.set ((ji20) : Int).toNat (⟨(rd_T76 y166 (ji20)).f0, wrap64 (x26_1 + 1), (rd_T76 y166 (ji20)).f2⟩ : S76)) := ⟨_, rfl⟩
            replace H : (if x26_1 = a1 then (object_paragraphs.l0 kj10 l0 a1 a2 a3 y169 ji20 t161 (t161.length : Int) (wrap64 (x26_1 + 1))) else (object_paragraphs.l0 kj10 l0 a1 a2 a3 y169 x12_1 t161 (t161.length : Int) (wrap64 (x26_1 + 1)))) = some (r1, r2, r3) := by first | (rw [hy169]; with_reducible exact H) | (have H2_ := (Option.bind_some _ _).symm.trans H; rw [hy169]; with_reducible exact H2_) | (have H2_ := (Option.bind_some _ _).symm.trans H; with_reducible exact H2_) | with_reducible exact H | (rw [hy169]; exact H) | exact H
            have Ny169 := Aside0.mk hy169
            clear hy169
            by_cases c24 : x26_1 = a1
            ·rw [if_pos c24] at H
             have c24b0 : (x26_1 == a1) = true := beq_iff_eq.mpr c24
             have c24b1 : (x26_1 != a1) = false := bne_eq_false_iff_eq.mpr c24
             clear c24
             have H' := Aside0.mk H
             clear H
             go_wp2_with (first | ((with_reducible refine gate_builtin (b := .append) (xs := #[.tmp 48, .tmp 52]) rfl ?_); (try (refine gate_guard (by rfl) ?_; dsimp only)); at_builtin; refine Kd.R_append k76 (w0 := w) w.heap.size rfl (.tmp 48) (.tmp 52) 73 76 (.agg #[(.int .i64 0), (.int .i64 0), (.bool false)]) 24 rfl Tryd.underlying73 info76 rfl (by decide) (by omega) u11 x11_1 (⟨x26_1, 0, (((rd_L4 t161 x26_1).length : Int) == 0)⟩ : S76) [.int .i64 x26_1, .int .i64 0, .bool (((rd_L4 t161 x26_1).length : Int) == 0)] (fun _ => True) (fun _ => False) rfl rfl ?aP (fun _ hk => hk.elim) ?aF ?aO ?aB ?aS ?aL ?_; (case aP => exact k76_mkM _ _ _ (⟨x26_1, 0, (((rd_L4 t161 x26_1).length : Int) == 0)⟩ : S76)); (case aB => exact (by repeat (first | (with_reducible first | exact HB.out | apply below_alloc | apply pw_below_drewN | apply below_drew1) | exact HB.out))); (case aF => exact (fun _ _ => trivial)); (case aO => exact (by (with_reducible repeat (first | apply Kd.R_alloc | apply Kd.R_drewN | apply Kd.R_drew)); exact HO_11.out)); (case aS => exact (below_size (by repeat (first | (with_reducible first | exact HB.out | apply below_alloc | apply pw_below_drewN | apply below_drew1) | exact HB.out)))); (case aL => have := LMc19.out; omega); intro v167 w25 ho hb hg hat; rw [← Ny166.out] at ho; have n0_ := Aside0.mk (Kd.S_over' (by (with_reducible repeat (first | apply Kd.S_alloc | apply Kd.S_drewN | apply Kd.S_drew)); exact HO_24.out) (Kd.R_typed (by (with_reducible repeat (first | apply Kd.R_alloc | apply Kd.R_drewN | apply Kd.R_drew)); exact HO_11.out)) (by decide) hg); have n1_ := Aside0.mk (hb); have n2_ := Aside0.mk (ho); clear HO_24; clear HB; clear HO_11; have HO_24 := n0_; have HB := n1_; have HO168 := n2_; clear n0_ n1_ n2_; clear ho hb hg hat; obtain ⟨Ao26, co26, eo26⟩ := Kd.R_slice HO168.out; subst eo26; have p23 : 0 ≤ ((ji20) : Int) := of_decide_eq_true (by first | (with_reducible assumption) | assumption); have q23 : ((ji20) : Int) < ((y166.length : Int) : Int) := of_decide_eq_true (by first | (with_reducible assumption) | assumption); obtain ⟨go23, co23, eo23, gb23, gl23, cl23, HG23⟩ := Kd.R_form HO168.out (by omega); (first | cases eo23 | (injection eo23 with ea_ en_ ec_; (first | subst ea_ | (injection ea_ with ea_; subst ea_)); subst ec_; clear en_)); have GB23 := Aside0.mk gb23; have GG23 := Aside0.mk HG23; clear gb23 gl23 HG23; obtain ⟨ce23, hcl23, hM23, hcc23, hfr23⟩ := Kd.R_elem HO168.out z76 ((ji20) : Int) p23 q23; obtain rfl := k76_openM hM23; have hx23_0 : w25.cell? ⟨go23, ((ji20) : Int).toNat * 3, none⟩ = some (.int .i64 ((rd_T76 y166 (ji20)).f0)) := hcc23 0 _ rfl; have hx23_1 : w25.cell? ⟨go23, ((ji20) : Int).toNat * 3 + 1, none⟩ = some (.int .i64 ((rd_T76 y166 (ji20)).f1)) := hcc23 1 _ rfl; have hx23_2 : w25.cell? ⟨go23, ((ji20) : Int).toNat * 3 + 2, none⟩ = some (.bool ((rd_T76 y166 (ji20)).f2)) := hcc23 2 _ rfl; have hf23_0 : w25.frozen? ⟨go23, ((ji20) : Int).toNat * 3, none⟩ = false := hfr23 0; have hf23_1 : w25.frozen? ⟨go23, ((ji20) : Int).toNat * 3 + 1, none⟩ = false := hfr23 1; have hf23_2 : w25.frozen? ⟨go23, ((ji20) : Int).toNat * 3 + 2, none⟩ = false := hfr23 2; clear hcl23 hcc23 hfr23 hM23; replace p23 := eq_true p23; replace q23 := eq_true q23; have HX27 := Aside0.mk (show Kd.R k76 76 w25 w.heap.size (fun _ => True) (.slice (some ⟨go23, 0, none⟩) y166.length co26) y166 from (by (with_reducible repeat (first | apply Kd.R_alloc | apply Kd.R_drewN | apply Kd.R_drew)); exact HO168.out)); obtain ⟨ce27, hcl27, hM27, hcc27, hfr27⟩ := Kd.R_elem HX27.out z76 ((ji20) : Int) (of_decide_eq_true (by first | (with_reducible assumption) | assumption)) (by have h_ : ((ji20) : Int) < ((y166.length : Int) : Int) := of_decide_eq_true (by first | (with_reducible assumption) | assumption); first | exact h_ | (have e_ := (Kd.R_reads' HO168.out).1; omega) | simpa using h_); obtain rfl := k76_openM hM27; have HP27 := Kd.R_seg HX27.out ((ji20) : Int) (of_decide_eq_true (by first | (with_reducible assumption) | assumption)) (by have h_ : ((ji20) : Int) < ((y166.length : Int) : Int) := of_decide_eq_true (by first | (with_reducible assumption) | assumption); first | exact h_ | (have e_ := (Kd.R_reads' HO168.out).1; omega) | simpa using h_) (seg := [.int .i64 (wrap64 (x26_1 + 1))]) (j := 1) hcl27 hcc27 (show 2 ≤ 3 from by decide) (x' := (⟨(rd_T76 y166 (ji20)).f0, wrap64 (x26_1 + 1), (rd_T76 y166 (ji20)).f2⟩ : S76)) (k76_mkM _ _ _ (⟨(rd_T76 y166 (ji20)).f0, wrap64 (x26_1 + 1), (rd_T76 y166 (ji20)).f2⟩ : S76) ) (fun _ hk => hk); have hx27_1 := hcc27 1 _ rfl; (try simp only [show (k76).sz = 3 from rfl, Nat.mul_one, Nat.add_zero] at hx27_1); have hf27_1 := hfr27 1; (try simp only [show (k76).sz = 3 from rfl, Nat.mul_one, Nat.add_zero] at hf27_1); clear hcl27 hcc27 hfr27 hM27) | ((with_reducible refine gate_store (t := 3) (p := 61) rfl ?_); refine store_event (t := 3) (p := 61) (v := ?vo_w28) (w1 := (w25.setCell ⟨go23, ((ji20) : Int).toNat * 3 + 1, none⟩ (.int .i64 (wrap64 (x26_1 + 1))))) ?hg ?ho ?hn ?hr ?_; (case ho => rfl); (case hg => rfl); (case hn => rfl); (case hr => first | (go_simp; done) | (go_simp; rfl)); intro w28 hw; have hg : w25.grownBy w28 (some go23) := (by rw [hw]; exact HP27.2); have hp_ : Kd.R k76 76 w28 w.heap.size (fun _ => True) (.slice (some ⟨go23, 0, none⟩) y166.length co26) y169 := (by rw [hw, Ny169.out]; exact HP27.1); clear HP27; have n0_ := Aside0.mk (Kd.S_over' (v := (.slice (some ⟨go23, 0, none⟩) y166.length co26)) (by (with_reducible repeat (first | apply Kd.S_alloc | apply Kd.S_drewN | apply Kd.S_drew)); exact HO_24.out) (Kd.R_typed HO168.out) (by decide) hg); have n1_ := Aside0.mk (hp_); have n2_ := Aside0.mk ((by rw [hw]; exact below_set (HB.out) GB23.out : Below w.heap.size w w28)); clear HO_24; clear HO168; clear HB; have HO_24 := n0_; have HO168 := n1_; have HB := n2_; clear n0_ n1_ n2_; clear hg hw hp_))
             go_roundg kj10
             case measure => have := HK1.out; have := HJ10.out; omega
             case rel => exact ⟨(y169), (ji20), (wrap64 (x26_1 + 1)), (by first | rfl | (simp; done) | (simp only [← hji20] <;> (first | rfl | simp)) | (simp [*]; done)), (by first | rfl | (simp; done) | (simp [*]; done)), H', ⟨by have := HK1.out; have := HJ10.out; omega⟩, ⟨by (with_reducible repeat (first | apply Kd.R_alloc | apply Kd.R_drewN | apply Kd.R_drew)); exact HO168.out⟩, ⟨by (with_reducible repeat (first | apply Kd.S_alloc | apply Kd.S_drewN | apply Kd.S_drew)); exact HO_24.out⟩, ⟨by repeat (first | (with_reducible first | exact HB.out | apply below_alloc | apply pw_below_drewN | apply below_drew1) | exact HB.out)⟩⟩
            ·rw [if_neg c24] at H
             have c24b0 : (x26_1 == a1) = false := beq_eq_false_iff_ne.mpr c24
             have c24b1 : (x26_1 != a1) = true := bne_iff_ne.mpr c24
             have H' := Aside0.mk H
             clear H
             go_wp2_with (first | ((with_reducible refine gate_builtin (b := .append) (xs := #[.tmp 48, .tmp 52]) rfl ?_); (try (refine gate_guard (by rfl) ?_; dsimp only)); at_builtin; refine Kd.R_append k76 (w0 := w) w.heap.size rfl (.tmp 48) (.tmp 52) 73 76 (.agg #[(.int .i64 0), (.int .i64 0), (.bool false)]) 24 rfl Tryd.underlying73 info76 rfl (by decide) (by omega) u11 x11_1 (⟨x26_1, 0, (((rd_L4 t161 x26_1).length : Int) == 0)⟩ : S76) [.int .i64 x26_1, .int .i64 0, .bool (((rd_L4 t161 x26_1).length : Int) == 0)] (fun _ => True) (fun _ => False) rfl rfl ?aP (fun _ hk => hk.elim) ?aF ?aO ?aB ?aS ?aL ?_; (case aP => exact k76_mkM _ _ _ (⟨x26_1, 0, (((rd_L4 t161 x26_1).length : Int) == 0)⟩ : S76)); (case aB => exact (by repeat (first | (with_reducible first | exact HB.out | apply below_alloc | apply pw_below_drewN | apply below_drew1) | exact HB.out))); (case aF => exact (fun _ _ => trivial)); (case aO => exact (by (with_reducible repeat (first | apply Kd.R_alloc | apply Kd.R_drewN | apply Kd.R_drew)); exact HO_11.out)); (case aS => exact (below_size (by repeat (first | (with_reducible first | exact HB.out | apply below_alloc | apply pw_below_drewN | apply below_drew1) | exact HB.out)))); (case aL => have := LMc19.out; omega); intro v167 w29 ho hb hg hat; rw [← Ny166.out] at ho; have n0_ := Aside0.mk (Kd.S_over' (by (with_reducible repeat (first | apply Kd.S_alloc | apply Kd.S_drewN | apply Kd.S_drew)); exact HO_24.out) (Kd.R_typed (by (with_reducible repeat (first | apply Kd.R_alloc | apply Kd.R_drewN | apply Kd.R_drew)); exact HO_11.out)) (by decide) hg); have n1_ := Aside0.mk (hb); have n2_ := Aside0.mk (ho); clear HO_24; clear HB; clear HO_11; have HO_24 := n0_; have HB := n1_; have HO168 := n2_; clear n0_ n1_ n2_; clear ho hb hg hat; obtain ⟨Ao30, co30, eo30⟩ := Kd.R_slice HO168.out; subst eo30; have p23 : 0 ≤ ((ji20) : Int) := of_decide_eq_true (by first | (with_reducible assumption) | assumption); have q23 : ((ji20) : Int) < ((y166.length : Int) : Int) := of_decide_eq_true (by first | (with_reducible assumption) | assumption); obtain ⟨go23, co23, eo23, gb23, gl23, cl23, HG23⟩ := Kd.R_form HO168.out (by omega); (first | cases eo23 | (injection eo23 with ea_ en_ ec_; (first | subst ea_ | (injection ea_ with ea_; subst ea_)); subst ec_; clear en_)); have GB23 := Aside0.mk gb23; have GG23 := Aside0.mk HG23; clear gb23 gl23 HG23; obtain ⟨ce23, hcl23, hM23, hcc23, hfr23⟩ := Kd.R_elem HO168.out z76 ((ji20) : Int) p23 q23; obtain rfl := k76_openM hM23; have hx23_0 : w29.cell? ⟨go23, ((ji20) : Int).toNat * 3, none⟩ = some (.int .i64 ((rd_T76 y166 (ji20)).f0)) := hcc23 0 _ rfl; have hx23_1 : w29.cell? ⟨go23, ((ji20) : Int).toNat * 3 + 1, none⟩ = some (.int .i64 ((rd_T76 y166 (ji20)).f1)) := hcc23 1 _ rfl; have hx23_2 : w29.cell? ⟨go23, ((ji20) : Int).toNat * 3 + 2, none⟩ = some (.bool ((rd_T76 y166 (ji20)).f2)) := hcc23 2 _ rfl; have hf23_0 : w29.frozen? ⟨go23, ((ji20) : Int).toNat * 3, none⟩ = false := hfr23 0; have hf23_1 : w29.frozen? ⟨go23, ((ji20) : Int).toNat * 3 + 1, none⟩ = false := hfr23 1; have hf23_2 : w29.frozen? ⟨go23, ((ji20) : Int).toNat * 3 + 2, none⟩ = false := hfr23 2; clear hcl23 hcc23 hfr23 hM23; replace p23 := eq_true p23; replace q23 := eq_true q23; have HX31 := Aside0.mk (show Kd.R k76 76 w29 w.heap.size (fun _ => True) (.slice (some ⟨go23, 0, none⟩) y166.length co30) y166 from (by (with_reducible repeat (first | apply Kd.R_alloc | apply Kd.R_drewN | apply Kd.R_drew)); exact HO168.out)); obtain ⟨ce31, hcl31, hM31, hcc31, hfr31⟩ := Kd.R_elem HX31.out z76 ((ji20) : Int) (of_decide_eq_true (by first | (with_reducible assumption) | assumption)) (by have h_ : ((ji20) : Int) < ((y166.length : Int) : Int) := of_decide_eq_true (by first | (with_reducible assumption) | assumption); first | exact h_ | (have e_ := (Kd.R_reads' HO168.out).1; omega) | simpa using h_); obtain rfl := k76_openM hM31; have HP31 := Kd.R_seg HX31.out ((ji20) : Int) (of_decide_eq_true (by first | (with_reducible assumption) | assumption)) (by have h_ : ((ji20) : Int) < ((y166.length : Int) : Int) := of_decide_eq_true (by first | (with_reducible assumption) | assumption); first | exact h_ | (have e_ := (Kd.R_reads' HO168.out).1; omega) | simpa using h_) (seg := [.int .i64 (wrap64 (x26_1 + 1))]) (j := 1) hcl31 hcc31 (show 2 ≤ 3 from by decide) (x' := (⟨(rd_T76 y166 (ji20)).f0, wrap64 (x26_1 + 1), (rd_T76 y166 (ji20)).f2⟩ : S76)) (k76_mkM _ _ _ (⟨(rd_T76 y166 (ji20)).f0, wrap64 (x26_1 + 1), (rd_T76 y166 (ji20)).f2⟩ : S76) ) (fun _ hk => hk); have hx31_1 := hcc31 1 _ rfl; (try simp only [show (k76).sz = 3 from rfl, Nat.mul_one, Nat.add_zero] at hx31_1); have hf31_1 := hfr31 1; (try simp only [show (k76).sz = 3 from rfl, Nat.mul_one, Nat.add_zero] at hf31_1); clear hcl31 hcc31 hfr31 hM31) | ((with_reducible refine gate_store (t := 3) (p := 61) rfl ?_); refine store_event (t := 3) (p := 61) (v := ?vo_w32) (w1 := (w29.setCell ⟨go23, ((ji20) : Int).toNat * 3 + 1, none⟩ (.int .i64 (wrap64 (x26_1 + 1))))) ?hg ?ho ?hn ?hr ?_; (case ho => rfl); (case hg => rfl); (case hn => rfl); (case hr => first | (go_simp; done) | (go_simp; rfl)); intro w32 hw; have hg : w29.grownBy w32 (some go23) := (by rw [hw]; exact HP31.2); have hp_ : Kd.R k76 76 w32 w.heap.size (fun _ => True) (.slice (some ⟨go23, 0, none⟩) y166.length co30) y169 := (by rw [hw, Ny169.out]; exact HP31.1); clear HP31; have n0_ := Aside0.mk (Kd.S_over' (v := (.slice (some ⟨go23, 0, none⟩) y166.length co30)) (by (with_reducible repeat (first | apply Kd.S_alloc | apply Kd.S_drewN | apply Kd.S_drew)); exact HO_24.out) (Kd.R_typed HO168.out) (by decide) hg); have n1_ := Aside0.mk (hp_); have n2_ := Aside0.mk ((by rw [hw]; exact below_set (HB.out) GB23.out : Below w.heap.size w w32)); clear HO_24; clear HO168; clear HB; have HO_24 := n0_; have HO168 := n1_; have HB := n2_; clear n0_ n1_ n2_; clear hg hw hp_))
             go_roundg kj10
             case measure => have := HK1.out; have := HJ10.out; omega
             case rel => exact ⟨(y169), (x12_1), (wrap64 (x26_1 + 1)), (by first | rfl | (simp; done) | (simp [*]; done)), (by first | rfl | (simp; done) | (simp [*]; done)), H', ⟨by have := HK1.out; have := HJ10.out; omega⟩, ⟨by (with_reducible repeat (first | apply Kd.R_alloc | apply Kd.R_drewN | apply Kd.R_drew)); exact HO168.out⟩, ⟨by (with_reducible repeat (first | apply Kd.S_alloc | apply Kd.S_drewN | apply Kd.S_drew)); exact HO_24.out⟩, ⟨by repeat (first | (with_reducible first | exact HB.out | apply below_alloc | apply pw_below_drewN | apply below_drew1) | exact HB.out)⟩⟩
           ·rw [if_neg c22] at H
            exact absurd H (by simp)
          ·rw [if_neg c21] at H
           exact absurd H (by simp)
         ·rw [if_neg c19] at H
          exact absurd H (by simp)
        ·replace c18 := Bool.eq_false_iff.mpr c18
         subst c18
         have H1 : (if 0 ≤ (wrap64 ((x11_1.length : Int) - 1)) then (if (wrap64 ((x11_1.length : Int) - 1)) < (x11_1.length : Int) then ((some (x11_1.set ((wrap64 ((x11_1.length : Int) - 1)) : Int).toNat (⟨(rd_T76 x11_1 (wrap64 ((x11_1.length : Int) - 1))).f0, wrap64 (x26_1 + 1), (rd_T76 x11_1 (wrap64 ((x11_1.length : Int) - 1))).f2⟩ : S76) : List (S76))).bind fun y170 => (if x26_1 = a1 then (object_paragraphs.l0 kj10 l0 a1 a2 a3 y170 (wrap64 ((x11_1.length : Int) - 1)) t161 (t161.length : Int) (wrap64 (x26_1 + 1))) else (object_paragraphs.l0 kj10 l0 a1 a2 a3 y170 x12_1 t161 (t161.length : Int) (wrap64 (x26_1 + 1))))) else (none)) else (none)) = some (r1, r2, r3) := by rw [if_neg (show ¬ (false = true) by decide)] at H; exact H
         clear H
         have H := H1
         clear H1
         obtain ⟨ji33, hji33⟩ : ∃ j_ : Int, (wrap64 ((x11_1.length : Int) - 1)) = j_ := ⟨_, rfl⟩
         replace H : (if 0 ≤ (ji33) then (if (ji33) < (x11_1.length : Int) then ((some (x11_1.set ((ji33) : Int).toNat (⟨(rd_T76 x11_1 (ji33)).f0, wrap64 (x26_1 + 1), (rd_T76 x11_1 (ji33)).f2⟩ : S76) : List (S76))).bind fun y170 => (if x26_1 = a1 then (object_paragraphs.l0 kj10 l0 a1 a2 a3 y170 ji33 t161 (t161.length : Int) (wrap64 (x26_1 + 1))) else (object_paragraphs.l0 kj10 l0 a1 a2 a3 y170 x12_1 t161 (t161.length : Int) (wrap64 (x26_1 + 1))))) else (none)) else (none)) = some (r1, r2, r3) := by first | (rw [hji33] at H; exact H) | (simp only [hji33] at H ⊢; exact H)
         have hji33w : (IntKind.i64.wrap ((x11_1.length : Int) - 1)) = ji33 := (i64_w _).trans hji33
         by_cases c34 : 0 ≤ (ji33)
         ·rw [if_pos c34] at H
          have c34b0 : decide (0 ≤ (ji33)) = true := decide_eq_true c34
          clear c34
          by_cases c35 : (ji33) < (x11_1.length : Int)
          ·rw [if_pos c35] at H
           have c35b0 : decide ((ji33) < (x11_1.length : Int)) = true := decide_eq_true c35
           clear c35
           obtain ⟨y170, hy170⟩ : ∃ y_ : List (S76), y_ = (x11_1.set ((ji33) : Int).toNat (⟨(rd_T76 x11_1 (ji33)).f0, wrap64 (x26_1 + 1), (rd_T76 x11_1 (ji33)).f2⟩ : S76)) := ⟨_, rfl⟩
           replace H : (if x26_1 = a1 then (object_paragraphs.l0 kj10 l0 a1 a2 a3 y170 ji33 t161 (t161.length : Int) (wrap64 (x26_1 + 1))) else (object_paragraphs.l0 kj10 l0 a1 a2 a3 y170 x12_1 t161 (t161.length : Int) (wrap64 (x26_1 + 1)))) = some (r1, r2, r3) := by first | (rw [hy170]; with_reducible exact H) | (have H2_ := (Option.bind_some _ _).symm.trans H; rw [hy170]; with_reducible exact H2_) | (have H2_ := (Option.bind_some _ _).symm.trans H; with_reducible exact H2_) | with_reducible exact H | (rw [hy170]; exact H) | exact H
           have Ny170 := Aside0.mk hy170
           clear hy170
           by_cases c37 : x26_1 = a1
           ·rw [if_pos c37] at H
            have c37b0 : (x26_1 == a1) = true := beq_iff_eq.mpr c37
            have c37b1 : (x26_1 != a1) = false := bne_eq_false_iff_eq.mpr c37
            clear c37
            have H' := Aside0.mk H
            clear H
            obtain ⟨Ao38, co38, eo38⟩ := Kd.R_slice HO_11.out
            subst eo38
            have p36 : 0 ≤ ((ji33) : Int) := of_decide_eq_true (by first | (with_reducible assumption) | assumption)
            have q36 : ((ji33) : Int) < ((x11_1.length : Int) : Int) := of_decide_eq_true (by first | (with_reducible assumption) | assumption)
            obtain ⟨go36, co36, eo36, gb36, gl36, cl36, HG36⟩ := Kd.R_form HO_11.out (by omega)
            (first | cases eo36 | (injection eo36 with ea_ en_ ec_; (first | subst ea_ | (injection ea_ with ea_; subst ea_)); subst ec_; clear en_))
            have GB36 := Aside0.mk gb36
            have GG36 := Aside0.mk HG36
            clear gb36 gl36 HG36
            obtain ⟨ce36, hcl36, hM36, hcc36, hfr36⟩ := Kd.R_elem HO_11.out z76 ((ji33) : Int) p36 q36
            obtain rfl := k76_openM hM36
            have hx36_0 : wc.cell? ⟨go36, ((ji33) : Int).toNat * 3, none⟩ = some (.int .i64 ((rd_T76 x11_1 (ji33)).f0)) := hcc36 0 _ rfl
            have hx36_1 : wc.cell? ⟨go36, ((ji33) : Int).toNat * 3 + 1, none⟩ = some (.int .i64 ((rd_T76 x11_1 (ji33)).f1)) := hcc36 1 _ rfl
            have hx36_2 : wc.cell? ⟨go36, ((ji33) : Int).toNat * 3 + 2, none⟩ = some (.bool ((rd_T76 x11_1 (ji33)).f2)) := hcc36 2 _ rfl
            have hf36_0 : wc.frozen? ⟨go36, ((ji33) : Int).toNat * 3, none⟩ = false := hfr36 0
            have hf36_1 : wc.frozen? ⟨go36, ((ji33) : Int).toNat * 3 + 1, none⟩ = false := hfr36 1
            have hf36_2 : wc.frozen? ⟨go36, ((ji33) : Int).toNat * 3 + 2, none⟩ = false := hfr36 2
            clear hcl36 hcc36 hfr36 hM36
            replace p36 := eq_true p36
            replace q36 := eq_true q36
            have HX39 := Aside0.mk (show Kd.R k76 76 wc w.heap.size (fun _ => True) (.slice (some ⟨go36, 0, none⟩) x11_1.length co38) x11_1 from (by (with_reducible repeat (first | apply Kd.R_alloc | apply Kd.R_drewN | apply Kd.R_drew)); exact HO_11.out))
            obtain ⟨ce39, hcl39, hM39, hcc39, hfr39⟩ := Kd.R_elem HX39.out z76 ((ji33) : Int) (of_decide_eq_true (by first | (with_reducible assumption) | assumption)) (by have h_ : ((ji33) : Int) < ((x11_1.length : Int) : Int) := of_decide_eq_true (by first | (with_reducible assumption) | assumption); first | exact h_ | (have e_ := (Kd.R_reads' HO_11.out).1; omega) | simpa using h_)
            obtain rfl := k76_openM hM39
            have HP39 := Kd.R_seg HX39.out ((ji33) : Int) (of_decide_eq_true (by first | (with_reducible assumption) | assumption)) (by have h_ : ((ji33) : Int) < ((x11_1.length : Int) : Int) := of_decide_eq_true (by first | (with_reducible assumption) | assumption); first | exact h_ | (have e_ := (Kd.R_reads' HO_11.out).1; omega) | simpa using h_) (seg := [.int .i64 (wrap64 (x26_1 + 1))]) (j := 1) hcl39 hcc39 (show 2 ≤ 3 from by decide) (x' := (⟨(rd_T76 x11_1 (ji33)).f0, wrap64 (x26_1 + 1), (rd_T76 x11_1 (ji33)).f2⟩ : S76)) (k76_mkM _ _ _ (⟨(rd_T76 x11_1 (ji33)).f0, wrap64 (x26_1 + 1), (rd_T76 x11_1 (ji33)).f2⟩ : S76) ) (fun _ hk => hk)
            have hx39_1 := hcc39 1 _ rfl
            (try simp only [show (k76).sz = 3 from rfl, Nat.mul_one, Nat.add_zero] at hx39_1)
            have hf39_1 := hfr39 1
            (try simp only [show (k76).sz = 3 from rfl, Nat.mul_one, Nat.add_zero] at hf39_1)
            clear hcl39 hcc39 hfr39 hM39
            go_wp2_with (first | ((with_reducible refine gate_store (t := 3) (p := 61) rfl ?_); refine store_event (t := 3) (p := 61) (v := ?vo_w40) (w1 := (wc.setCell ⟨go36, ((ji33) : Int).toNat * 3 + 1, none⟩ (.int .i64 (wrap64 (x26_1 + 1))))) ?hg ?ho ?hn ?hr ?_; (case ho => rfl); (case hg => rfl); (case hn => rfl); (case hr => first | (go_simp; done) | (go_simp; rfl)); intro w40 hw; have hg : wc.grownBy w40 (some go36) := (by rw [hw]; exact HP39.2); have hp_ : Kd.R k76 76 w40 w.heap.size (fun _ => True) (.slice (some ⟨go36, 0, none⟩) x11_1.length co38) y170 := (by rw [hw, Ny170.out]; exact HP39.1); clear HP39; have n0_ := Aside0.mk (hp_); have n1_ := Aside0.mk (Kd.S_over' (v := (.slice (some ⟨go36, 0, none⟩) x11_1.length co38)) (by (with_reducible repeat (first | apply Kd.S_alloc | apply Kd.S_drewN | apply Kd.S_drew)); exact HO_24.out) (Kd.R_typed HO_11.out) (by decide) hg); have n2_ := Aside0.mk ((by rw [hw]; exact below_set (HB.out) GB36.out : Below w.heap.size w w40)); clear HO_11; clear HO_24; clear HB; have HO_11 := n0_; have HO_24 := n1_; have HB := n2_; clear n0_ n1_ n2_; clear hg hw hp_))
            go_roundg kj10
            case measure => have := HK1.out; have := HJ10.out; omega
            case rel => exact ⟨(y170), (ji33), (wrap64 (x26_1 + 1)), (by first | rfl | (simp; done) | (simp only [← hji33] <;> (first | rfl | simp)) | (simp [*]; done)), (by first | rfl | (simp; done) | (simp [*]; done)), H', ⟨by have := HK1.out; have := HJ10.out; omega⟩, ⟨by (with_reducible repeat (first | apply Kd.R_alloc | apply Kd.R_drewN | apply Kd.R_drew)); exact HO_11.out⟩, ⟨by (with_reducible repeat (first | apply Kd.S_alloc | apply Kd.S_drewN | apply Kd.S_drew)); exact HO_24.out⟩, ⟨by repeat (first | (with_reducible first | exact HB.out | apply below_alloc | apply pw_below_drewN | apply below_drew1) | exact HB.out)⟩⟩
           ·rw [if_neg c37] at H
            have c37b0 : (x26_1 == a1) = false := beq_eq_false_iff_ne.mpr c37
            have c37b1 : (x26_1 != a1) = true := bne_iff_ne.mpr c37
            have H' := Aside0.mk H
            clear H
            obtain ⟨Ao41, co41, eo41⟩ := Kd.R_slice HO_11.out
            subst eo41
            have p36 : 0 ≤ ((ji33) : Int) := of_decide_eq_true (by first | (with_reducible assumption) | assumption)
            have q36 : ((ji33) : Int) < ((x11_1.length : Int) : Int) := of_decide_eq_true (by first | (with_reducible assumption) | assumption)
            obtain ⟨go36, co36, eo36, gb36, gl36, cl36, HG36⟩ := Kd.R_form HO_11.out (by omega)
            (first | cases eo36 | (injection eo36 with ea_ en_ ec_; (first | subst ea_ | (injection ea_ with ea_; subst ea_)); subst ec_; clear en_))
            have GB36 := Aside0.mk gb36
            have GG36 := Aside0.mk HG36
            clear gb36 gl36 HG36
            obtain ⟨ce36, hcl36, hM36, hcc36, hfr36⟩ := Kd.R_elem HO_11.out z76 ((ji33) : Int) p36 q36
            obtain rfl := k76_openM hM36
            have hx36_0 : wc.cell? ⟨go36, ((ji33) : Int).toNat * 3, none⟩ = some (.int .i64 ((rd_T76 x11_1 (ji33)).f0)) := hcc36 0 _ rfl
            have hx36_1 : wc.cell? ⟨go36, ((ji33) : Int).toNat * 3 + 1, none⟩ = some (.int .i64 ((rd_T76 x11_1 (ji33)).f1)) := hcc36 1 _ rfl
            have hx36_2 : wc.cell? ⟨go36, ((ji33) : Int).toNat * 3 + 2, none⟩ = some (.bool ((rd_T76 x11_1 (ji33)).f2)) := hcc36 2 _ rfl
            have hf36_0 : wc.frozen? ⟨go36, ((ji33) : Int).toNat * 3, none⟩ = false := hfr36 0
            have hf36_1 : wc.frozen? ⟨go36, ((ji33) : Int).toNat * 3 + 1, none⟩ = false := hfr36 1
            have hf36_2 : wc.frozen? ⟨go36, ((ji33) : Int).toNat * 3 + 2, none⟩ = false := hfr36 2
            clear hcl36 hcc36 hfr36 hM36
            replace p36 := eq_true p36
            replace q36 := eq_true q36
            have HX42 := Aside0.mk (show Kd.R k76 76 wc w.heap.size (fun _ => True) (.slice (some ⟨go36, 0, none⟩) x11_1.length co41) x11_1 from (by (with_reducible repeat (first | apply Kd.R_alloc | apply Kd.R_drewN | apply Kd.R_drew)); exact HO_11.out))
            obtain ⟨ce42, hcl42, hM42, hcc42, hfr42⟩ := Kd.R_elem HX42.out z76 ((ji33) : Int) (of_decide_eq_true (by first | (with_reducible assumption) | assumption)) (by have h_ : ((ji33) : Int) < ((x11_1.length : Int) : Int) := of_decide_eq_true (by first | (with_reducible assumption) | assumption); first | exact h_ | (have e_ := (Kd.R_reads' HO_11.out).1; omega) | simpa using h_)
            obtain rfl := k76_openM hM42
            have HP42 := Kd.R_seg HX42.out ((ji33) : Int) (of_decide_eq_true (by first | (with_reducible assumption) | assumption)) (by have h_ : ((ji33) : Int) < ((x11_1.length : Int) : Int) := of_decide_eq_true (by first | (with_reducible assumption) | assumption); first | exact h_ | (have e_ := (Kd.R_reads' HO_11.out).1; omega) | simpa using h_) (seg := [.int .i64 (wrap64 (x26_1 + 1))]) (j := 1) hcl42 hcc42 (show 2 ≤ 3 from by decide) (x' := (⟨(rd_T76 x11_1 (ji33)).f0, wrap64 (x26_1 + 1), (rd_T76 x11_1 (ji33)).f2⟩ : S76)) (k76_mkM _ _ _ (⟨(rd_T76 x11_1 (ji33)).f0, wrap64 (x26_1 + 1), (rd_T76 x11_1 (ji33)).f2⟩ : S76) ) (fun _ hk => hk)
            have hx42_1 := hcc42 1 _ rfl
            (try simp only [show (k76).sz = 3 from rfl, Nat.mul_one, Nat.add_zero] at hx42_1)
            have hf42_1 := hfr42 1
            (try simp only [show (k76).sz = 3 from rfl, Nat.mul_one, Nat.add_zero] at hf42_1)
            clear hcl42 hcc42 hfr42 hM42
            go_wp2_with (first | ((with_reducible refine gate_store (t := 3) (p := 61) rfl ?_); refine store_event (t := 3) (p := 61) (v := ?vo_w43) (w1 := (wc.setCell ⟨go36, ((ji33) : Int).toNat * 3 + 1, none⟩ (.int .i64 (wrap64 (x26_1 + 1))))) ?hg ?ho ?hn ?hr ?_; (case ho => rfl); (case hg => rfl); (case hn => rfl); (case hr => first | (go_simp; done) | (go_simp; rfl)); intro w43 hw; have hg : wc.grownBy w43 (some go36) := (by rw [hw]; exact HP42.2); have hp_ : Kd.R k76 76 w43 w.heap.size (fun _ => True) (.slice (some ⟨go36, 0, none⟩) x11_1.length co41) y170 := (by rw [hw, Ny170.out]; exact HP42.1); clear HP42; have n0_ := Aside0.mk (hp_); have n1_ := Aside0.mk (Kd.S_over' (v := (.slice (some ⟨go36, 0, none⟩) x11_1.length co41)) (by (with_reducible repeat (first | apply Kd.S_alloc | apply Kd.S_drewN | apply Kd.S_drew)); exact HO_24.out) (Kd.R_typed HO_11.out) (by decide) hg); have n2_ := Aside0.mk ((by rw [hw]; exact below_set (HB.out) GB36.out : Below w.heap.size w w43)); clear HO_11; clear HO_24; clear HB; have HO_11 := n0_; have HO_24 := n1_; have HB := n2_; clear n0_ n1_ n2_; clear hg hw hp_))
            go_roundg kj10
            case measure => have := HK1.out; have := HJ10.out; omega
            case rel => exact ⟨(y170), (x12_1), (wrap64 (x26_1 + 1)), (by first | rfl | (simp; done) | (simp [*]; done)), (by first | rfl | (simp; done) | (simp [*]; done)), H', ⟨by have := HK1.out; have := HJ10.out; omega⟩, ⟨by (with_reducible repeat (first | apply Kd.R_alloc | apply Kd.R_drewN | apply Kd.R_drew)); exact HO_11.out⟩, ⟨by (with_reducible repeat (first | apply Kd.S_alloc | apply Kd.S_drewN | apply Kd.S_drew)); exact HO_24.out⟩, ⟨by repeat (first | (with_reducible first | exact HB.out | apply below_alloc | apply pw_below_drewN | apply below_drew1) | exact HB.out)⟩⟩
          ·rw [if_neg c35] at H
           exact absurd H (by simp)
         ·rw [if_neg c34] at H
          exact absurd H (by simp)
     ·rw [if_neg c10] at H
      exact absurd H (by simp)
    ·rw [if_neg c9] at H
     exact absurd H (by simp)
   ·rw [if_neg c8] at H
    have c8b0 : decide (x26_1 < (t161.length : Int)) = false := decide_eq_false c8
    clear c8
    replace H := Option.bind_eq_some_iff.mp H
    obtain ⟨⟨t171, t172, t173⟩, A440, H⟩ := H
    replace H : (if t173 = true then (if 0 ≤ t171 then (if t171 < (x11_1.length : Int) then ((lines_Start.f k1 l0 ((rd_T76 x11_1 t171).f0)).bind fun bt175 => (if 0 ≤ (wrap64 (t172 - 1)) then (if (wrap64 (t172 - 1)) < (x11_1.length : Int) then ((lines_Start.f k1 l0 (wrap64 (((rd_T76 x11_1 (wrap64 (t172 - 1))).f1) - 1))).bind fun bt178 => (some (bt175.1, bt178.1, true))) else (none)) else (none))) else (none)) else (none)) else (some (0, 0, false))) = some (r1, r2, r3) := H
    have A44 := Aside0.mk A440
    clear A440
    by_cases c45 : t173 = true
    ·subst c45
     have H1 : (if 0 ≤ t171 then (if t171 < (x11_1.length : Int) then ((lines_Start.f k1 l0 ((rd_T76 x11_1 t171).f0)).bind fun bt175 => (if 0 ≤ (wrap64 (t172 - 1)) then (if (wrap64 (t172 - 1)) < (x11_1.length : Int) then ((lines_Start.f k1 l0 (wrap64 (((rd_T76 x11_1 (wrap64 (t172 - 1))).f1) - 1))).bind fun bt178 => (some (bt175.1, bt178.1, true))) else (none)) else (none))) else (none)) else (none)) = some (r1, r2, r3) := by rw [if_pos rfl] at H; exact H
     clear H
     have H := H1
     clear H1
     by_cases c46 : 0 ≤ t171
     ·rw [if_pos c46] at H
      have c46b0 : decide (0 ≤ t171) = true := decide_eq_true c46
      clear c46
      by_cases c47 : t171 < (x11_1.length : Int)
      ·rw [if_pos c47] at H
       have c47b0 : decide (t171 < (x11_1.length : Int)) = true := decide_eq_true c47
       clear c47
       replace H := Option.bind_eq_some_iff.mp H
       obtain ⟨⟨t175, t176⟩, A480, H⟩ := H
       replace H : (if 0 ≤ (wrap64 (t172 - 1)) then (if (wrap64 (t172 - 1)) < (x11_1.length : Int) then ((lines_Start.f k1 l0 (wrap64 (((rd_T76 x11_1 (wrap64 (t172 - 1))).f1) - 1))).bind fun bt178 => (some (t175, bt178.1, true))) else (none)) else (none)) = some (r1, r2, r3) := H
       have A48 := Aside0.mk A480
       clear A480
       obtain ⟨ji49, hji49⟩ : ∃ j_ : Int, (wrap64 (t172 - 1)) = j_ := ⟨_, rfl⟩
       replace H : (if 0 ≤ (ji49) then (if (ji49) < (x11_1.length : Int) then ((lines_Start.f k1 l0 (wrap64 (((rd_T76 x11_1 (ji49)).f1) - 1))).bind fun bt178 => (some (t175, bt178.1, true))) else (none)) else (none)) = some (r1, r2, r3) := by first | (rw [hji49] at H; exact H) | (simp only [hji49] at H ⊢; exact H)
       (try rw [hji49] at A44)
       (try rw [hji49] at A48)
       have hji49w : (IntKind.i64.wrap (t172 - 1)) = ji49 := (i64_w _).trans hji49
       by_cases c50 : 0 ≤ (ji49)
       ·rw [if_pos c50] at H
        have c50b0 : decide (0 ≤ (ji49)) = true := decide_eq_true c50
        clear c50
        by_cases c51 : (ji49) < (x11_1.length : Int)
        ·rw [if_pos c51] at H
         have c51b0 : decide ((ji49) < (x11_1.length : Int)) = true := decide_eq_true c51
         clear c51
         replace H := Option.bind_eq_some_iff.mp H
         obtain ⟨⟨t178, t179⟩, A520, H⟩ := H
         replace H : (some (t175, t178, true)) = some (r1, r2, r3) := H
         have A52 := Aside0.mk A520
         clear A520
         simp only [Option.some.injEq, Prod.mk.injEq] at H
         obtain ⟨rfl, rfl, rfl⟩ := H
         obtain ⟨Ao53, co53, eo53⟩ := Kd.R_slice HO_11.out
         subst eo53
         go_wp2_with (first | ((with_reducible refine gate_callee (f := 47) rfl ?_); refine goesL_ (some 74) rfl rfl Tryd.func47 (by kernel_rfl) rfl #[.slice Ao53 x11_1.length co53, .int .i64 x12_1, .int .i64 a2, .bool a3] rfl (by (try simp only [List.map_toArray, List.map_cons, List.map_nil]); first | done | rfl | (simp only [List.length_drop, List.length_take]; rfl)) ?_; (with_reducible refine (object_taken.calls k1 _ _ x11_1 x12_1 a2 a3 t171 t172 true _ ?side1 ?side2 A44.out).mono ?_); (case side1 => repeat (first | exact (Kd.R_reads' HO_11.out).2.2 | (with_reducible refine Kd.C_alloc ?_ _) | (with_reducible refine Kd.C_drewN ?_ _) | (with_reducible refine Kd.C_drew ?_))); (case side2 => exact (Kd.R_reads' HO_11.out).2.1); rintro e w' ⟨rfl, ⟨nd, rfl⟩⟩; refine ⟨_, rfl, ?_⟩; have p174 : 0 ≤ (t171 : Int) := of_decide_eq_true (by first | (with_reducible assumption) | assumption); have q174 : t171 < (x11_1.length : Int) := of_decide_eq_true (by first | (with_reducible assumption) | assumption); obtain ⟨ad174, e174, hx174_0, hx174_1, hx174_2⟩ := at_T76 (Kd.R_reads' HO_11.out).2.2 t171 p174 q174; cases e174; replace p174 := eq_true p174; replace q174 := eq_true q174) | ((with_reducible refine gate_callee (f := 44) rfl ?_); refine goesL_ (some 87) rfl rfl Tryd.func44 (by kernel_rfl) rfl #[.slice A0 l0.length c0, .int .i64 ((rd_T76 x11_1 t171).f0)] rfl (by (try simp only [List.map_toArray, List.map_cons, List.map_nil]); first | done | rfl | (simp only [List.length_drop, List.length_take]; rfl)) ?_; (with_reducible refine (lines_Start.calls k1 _ _ l0 ((rd_T76 x11_1 t171).f0) t175 t176 _ ?side1 ?side2 A48.out).mono ?_); (case side1 => repeat (first | exact (Kd.C_below HR0.out (by repeat (first | (with_reducible first | exact HB.out | apply below_alloc | apply pw_below_drewN | apply below_drew1) | exact HB.out))) | (with_reducible refine Kd.C_alloc ?_ _) | (with_reducible refine Kd.C_drewN ?_ _) | (with_reducible refine Kd.C_drew ?_))); (case side2 => exact HC0.out); rintro e w' ⟨rfl, ⟨nd, rfl⟩⟩; refine ⟨_, rfl, ?_⟩; have p177 : 0 ≤ ((ji49) : Int) := of_decide_eq_true (by first | (with_reducible assumption) | assumption); have q177 : (ji49) < (x11_1.length : Int) := of_decide_eq_true (by first | (with_reducible assumption) | assumption); obtain ⟨ad177, e177, hx177_0, hx177_1, hx177_2⟩ := at_T76 (Kd.R_reads' HO_11.out).2.2 (ji49) p177 q177; obtain rfl : ad174 = ad177 := (by injection e177); replace p177 := eq_true p177; replace q177 := eq_true q177) | ((with_reducible refine gate_callee (f := 44) rfl ?_); refine goesL_ (some 99) rfl rfl Tryd.func44 (by kernel_rfl) rfl #[.slice A0 l0.length c0, .int .i64 (wrap64 (((rd_T76 x11_1 (ji49)).f1) - 1))] rfl (by (try simp only [List.map_toArray, List.map_cons, List.map_nil]); first | done | (simp only [hji49]; rfl) | rfl | (simp only [List.length_drop, List.length_take]; rfl)) ?_; (with_reducible refine (lines_Start.calls k1 _ _ l0 (wrap64 (((rd_T76 x11_1 (ji49)).f1) - 1)) t178 t179 _ ?side1 ?side2 A52.out).mono ?_); (case side1 => repeat (first | exact (Kd.C_below HR0.out (by repeat (first | (with_reducible first | exact HB.out | apply below_alloc | apply pw_below_drewN | apply below_drew1) | exact HB.out))) | (with_reducible refine Kd.C_alloc ?_ _) | (with_reducible refine Kd.C_drewN ?_ _) | (with_reducible refine Kd.C_drew ?_))); (case side2 => exact HC0.out); rintro e w' ⟨rfl, ⟨nd, rfl⟩⟩; refine ⟨_, rfl, ?_⟩))
         go_ret3
         exact ⟨by first | rfl | (simp [errW_none, errW_some] <;> rfl) | (simp only [← hji49]; first | rfl | (simp [errW_none, errW_some] <;> rfl)) | (simp [*, errW_none, errW_some] <;> rfl), by repeat (first | (with_reducible first | exact HB.out | apply below_alloc | apply pw_below_drewN | apply below_drew1) | exact HB.out)⟩
        ·rw [if_neg c51] at H
         exact absurd H (by simp)
       ·rw [if_neg c50] at H
        exact absurd H (by simp)
      ·rw [if_neg c47] at H
       exact absurd H (by simp)
     ·rw [if_neg c46] at H
      exact absurd H (by simp)
    ·replace c45 := Bool.eq_false_iff.mpr c45
     subst c45
     have H1 : (some (0, 0, false)) = some (r1, r2, r3) := by rw [if_neg (show ¬ (false = true) by decide)] at H; exact H
     clear H
     have H := H1
     clear H1
     simp only [Option.some.injEq, Prod.mk.injEq] at H
     obtain ⟨rfl, rfl, rfl⟩ := H
     obtain ⟨Ao54, co54, eo54⟩ := Kd.R_slice HO_11.out
     subst eo54
     go_wp2_with (first | ((with_reducible refine gate_callee (f := 47) rfl ?_); refine goesL_ (some 74) rfl rfl Tryd.func47 (by kernel_rfl) rfl #[.slice Ao54 x11_1.length co54, .int .i64 x12_1, .int .i64 a2, .bool a3] rfl (by (try simp only [List.map_toArray, List.map_cons, List.map_nil]); first | done | rfl | (simp only [List.length_drop, List.length_take]; rfl)) ?_; (with_reducible refine (object_taken.calls k1 _ _ x11_1 x12_1 a2 a3 t171 t172 false _ ?side1 ?side2 A44.out).mono ?_); (case side1 => repeat (first | exact (Kd.R_reads' HO_11.out).2.2 | (with_reducible refine Kd.C_alloc ?_ _) | (with_reducible refine Kd.C_drewN ?_ _) | (with_reducible refine Kd.C_drew ?_))); (case side2 => exact (Kd.R_reads' HO_11.out).2.1); rintro e w' ⟨rfl, ⟨nd, rfl⟩⟩; refine ⟨_, rfl, ?_⟩))
     go_ret3
     exact ⟨by first | rfl | (simp [errW_none, errW_some] <;> rfl) | (simp [*, errW_none, errW_some] <;> rfl), by repeat (first | (with_reducible first | exact HB.out | apply below_alloc | apply pw_below_drewN | apply below_drew1) | exact HB.out)⟩

end Go.Proofs.YtcochbkdgjgaeaaDoor.X
