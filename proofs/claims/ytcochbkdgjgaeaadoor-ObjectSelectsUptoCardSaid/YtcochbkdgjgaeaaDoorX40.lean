-- Written by wip/xprint.py over the kit's print.py: the Lean function of each Go function, and the proof that the Go text comes to it.
import Derived.Test.YtcochbkdgjgaeaaDoorX0
import Derived.Test.YtcochbkdgjgaeaaDoorX39
namespace Go.Proofs.YtcochbkdgjgaeaaDoor.X
open Go.RowKit Go.Proofs.YtcochbkdgjgaeaaDoorW.PrintWords Go.Proofs.YtcochbkdgjgaeaaDoorW.PrintLast Go.Proofs.YtcochbkdgjgaeaaDoorW.PrintMore
attribute [local go_sem] max2_int min2_int max_two min_two max_three min_three max_four min_four   -- for this text's walks alone
set_option linter.unusedVariables false
set_option linter.unusedSimpArgs false

/-! ### quoinref13_rows: function 38 -/
def quoinref13_rows.l0 : Nat → List (List Int) → List (S48) → Int → Option ((List (S48)))
 | 0, _, _, _ => none
 | k + 1, x3, x4, x5 => if x5 < (x3.length : Int) then (if 0 ≤ x5 then (if (x4.length : Int) > 0 then (if 0 ≤ (wrap64 ((x4.length : Int) - 1)) then (if (wrap64 ((x4.length : Int) - 1)) < (x4.length : Int) then (if (((rd_T48 x4 (wrap64 ((x4.length : Int) - 1))).f2) == (((rd_L4 x3 x5).length : Int) == 0)) = true then (quoinref13_rows.l0 k x3 (x4.set ((wrap64 ((x4.length : Int) - 1)) : Int).toNat (⟨(rd_T48 x4 (wrap64 ((x4.length : Int) - 1))).f0, wrap64 (x5 + 1), (rd_T48 x4 (wrap64 ((x4.length : Int) - 1))).f2⟩ : S48)) (wrap64 (x5 + 1))) else (if x4.length < 5864062014805 then (quoinref13_rows.l0 k x3 (x4 ++ [(⟨x5, wrap64 (x5 + 1), (((rd_L4 x3 x5).length : Int) == 0)⟩ : S48)]) (wrap64 (x5 + 1))) else (none))) else (none)) else (none)) else (if x4.length < 5864062014805 then (quoinref13_rows.l0 k x3 (x4 ++ [(⟨x5, wrap64 (x5 + 1), (((rd_L4 x3 x5).length : Int) == 0)⟩ : S48)]) (wrap64 (x5 + 1))) else (none))) else (none)) else (some x4)
def quoinref13_rows.f (k : Nat) (l0 : List Int) : Option ((List (S48))) := (quoinref05_Split.f k l0).bind fun t315 => (quoinref13_rows.l0 k t315 ([] : List (S48)) 0)
theorem quoinref13_rows.mono_l : ∀ k, (∀ y0 y1 y2, LeO (quoinref13_rows.l0 k y0 y1 y2) (quoinref13_rows.l0 (k + 1) y0 y1 y2))
 | 0 => fun _ _ _ r h => by simp [quoinref13_rows.l0] at h
 | k + 1 => by
  have ih0 := quoinref13_rows.mono_l k
  ·intro y0 y1 y2
   unfold quoinref13_rows.l0
   repeat' first
   | (with_reducible exact ih0 _ _ _)
   | (with_reducible exact quoinref05_Split.mono _ _)
   | (with_reducible exact LeO.refl _)
   | (with_reducible exact LeO.none _)
   | (with_reducible refine LeO.ite ?_ ?_)
   | (with_reducible refine LeO.bind ?_ (fun _ => ?_))
   | exact ih0 _ _ _
   | exact quoinref05_Split.mono _ _
   | exact LeO.none _
   | refine LeO.ite ?_ ?_
   | refine LeO.bind ?_ (fun _ => ?_)
theorem quoinref13_rows.mono : ∀ a0 k, LeO (quoinref13_rows.f k a0) (quoinref13_rows.f (k + 1) a0) := by
 intro a0 k
 have ih0 := quoinref13_rows.mono_l k
 unfold quoinref13_rows.f
 repeat' first
   | (with_reducible exact ih0 _ _ _)
   | (with_reducible exact quoinref05_Split.mono _ _)
   | (with_reducible exact LeO.refl _)
   | (with_reducible exact LeO.none _)
   | (with_reducible refine LeO.ite ?_ ?_)
   | (with_reducible refine LeO.bind ?_ (fun _ => ?_))
   | exact ih0 _ _ _
   | exact quoinref05_Split.mono _ _
   | exact LeO.none _
   | refine LeO.ite ?_ ?_
   | refine LeO.bind ?_ (fun _ => ?_)
set_option maxHeartbeats 8000000 in
set_option maxRecDepth 100000 in
theorem quoinref13_rows.calls (k : Nat) (A0 : Option Addr) (c0 : Nat) (l0 : List Int) (r : List (S48)) (w : World) (hr0 : Kd.C (Kd.int .u8) w A0 l0.length l0) (hc0 : l0.length ≤ c0) (h : quoinref13_rows.f k l0 = some r) :
  Calls Tryd.prog 38 #[.slice A0 l0.length c0] w fun e w' => ∃ v0_ : Value, e = .returned (v0_) ∧ Kd.R k48 48 w' w.heap.size (fun _ => True) v0_ r ∧ Below w.heap.size w w' := by
 have hu48 := Tryd.underlying48
 have HR0 := Aside0.mk hr0
 have HC0 := Aside0.mk hc0
 clear hr0 hc0
 have HB := Aside0.mk (Below.refl w.heap.size w)
 have H : ((quoinref05_Split.f k l0).bind fun t315 => (quoinref13_rows.l0 k t315 ([] : List (S48)) 0)) = some r := h
 clear h
 replace H := Option.bind_eq_some_iff.mp H
 obtain ⟨t315, A20, H⟩ := H
 replace H : (quoinref13_rows.l0 k t315 ([] : List (S48)) 0) = some r := H
 have A2 := Aside0.mk A20
 clear A20
 have H' := Aside0.mk H
 clear H
 go_enter Tryd.func38, Tryd.ntmps38
 go_wp2_with (first | ((with_reducible refine gate_callee (f := 53) rfl ?_); refine goesL_ (some 9) rfl rfl Tryd.func53 (by kernel_rfl) rfl #[.slice A0 l0.length c0] rfl (by (try simp only [List.map_toArray, List.map_cons, List.map_nil]); first | done | rfl | (simp only [List.length_drop, List.length_take]; rfl)) ?_; (with_reducible refine (quoinref05_Split.calls k _ _ l0 t315 _ ?side1 ?side2 A2.out).mono ?_); (case side1 => repeat (first | exact HR0.out | (with_reducible refine Kd.C_alloc ?_ _) | (with_reducible refine Kd.C_drewN ?_ _) | (with_reducible refine Kd.C_drew ?_))); (case side2 => exact HC0.out); rintro e w3 ⟨v316, rfl, ho0, hb⟩; refine ⟨_, rfl, ?_⟩; have n0_ := Aside0.mk (Kd.S_lower ho0 (below_size (by repeat (first | (with_reducible first | exact HB.out | apply below_alloc | apply pw_below_drewN | apply below_drew1) | exact HB.out)))); have n1_ := Aside0.mk (below_step (by repeat (first | (with_reducible first | exact HB.out | apply below_alloc | apply pw_below_drewN | apply below_drew1) | exact HB.out)) hb); clear HB; have HO317 := n0_; have HB := n1_; clear n0_ n1_; (try clear hb); (try clear hb2); (try clear hk); (try clear hi); (try clear ho0)))
 go_loopg [4, 5] k (fun kq v4 v5 w' => ∃ (x4_1 : List (S48)) (x5_1 : Int), v5 = .int .i64 x5_1 ∧ Aside0 (quoinref13_rows.l0 kq t315 x4_1 x5_1 = some r) ∧ Aside0 (kq ≤ k) ∧ Aside0 (Kd.S (Kd.slice 5 (Kd.int .u8)) 22 w' w.heap.size (fun _ => True) v316 t315) ∧ Aside0 (Kd.R k48 48 w' w.heap.size (fun _ => True) v4 x4_1) ∧ Aside0 (Below w.heap.size w w'))
 case atStart => exact ⟨(([] : List (S48))), (0), (by first | rfl | (simp; done) | (simp [*]; done)), H', ⟨Nat.le_refl _⟩, ⟨by (with_reducible repeat (first | apply Kd.S_alloc | apply Kd.S_drewN | apply Kd.S_drew)); exact HO317.out⟩, ⟨by first | exact Kd.R_nil _ _ _ _ _ | exact Kd.N_nil _ _ _ _ _ | exact Kd.V_nil _ _ _ _ _ | exact Kd.Q_nil _ _ _ _ _ | exact Kd.S_nil _ _ _ _ _⟩, ⟨by repeat (first | (with_reducible first | exact HB.out | apply below_alloc | apply pw_below_drewN | apply below_drew1) | exact HB.out)⟩⟩
 case round =>
  clear H'
  try clear p2
  try clear c3
  obtain ⟨x4_1, x5_1, rfl, HA, HK1, HO_3, HO_4, HB⟩ := hrel
  cases gk with
  | zero => exact absurd HA.out (by simp [quoinref13_rows.l0])
  | succ k1 =>
   have H := HA.out
   clear HA
   simp only [quoinref13_rows.l0] at H
   by_cases c4 : x5_1 < (t315.length : Int)
   ·rw [if_pos c4] at H
    have c4b0 : decide (x5_1 < (t315.length : Int)) = true := decide_eq_true c4
    clear c4
    by_cases c5 : 0 ≤ x5_1
    ·rw [if_pos c5] at H
     have c5b0 : decide (0 ≤ x5_1) = true := decide_eq_true c5
     clear c5
     by_cases c6 : (x4_1.length : Int) > 0
     ·rw [if_pos c6] at H
      have c6b0 : decide (0 < (x4_1.length : Int)) = true := decide_eq_true c6
      have c6b1 : decide (0 < x4_1.length) = true := decide_eq_true (by omega)
      clear c6
      obtain ⟨ji7, hji7⟩ : ∃ j_ : Int, (wrap64 ((x4_1.length : Int) - 1)) = j_ := ⟨_, rfl⟩
      replace H : (if 0 ≤ (ji7) then (if (ji7) < (x4_1.length : Int) then (if (((rd_T48 x4_1 (ji7)).f2) == (((rd_L4 t315 x5_1).length : Int) == 0)) = true then (quoinref13_rows.l0 k1 t315 (x4_1.set ((ji7) : Int).toNat (⟨(rd_T48 x4_1 (ji7)).f0, wrap64 (x5_1 + 1), (rd_T48 x4_1 (ji7)).f2⟩ : S48)) (wrap64 (x5_1 + 1))) else (if x4_1.length < 5864062014805 then (quoinref13_rows.l0 k1 t315 (x4_1 ++ [(⟨x5_1, wrap64 (x5_1 + 1), (((rd_L4 t315 x5_1).length : Int) == 0)⟩ : S48)]) (wrap64 (x5_1 + 1))) else (none))) else (none)) else (none)) = some r := by first | (rw [hji7] at H; exact H) | (simp only [hji7] at H ⊢; exact H)
      have hji7w : (IntKind.i64.wrap ((x4_1.length : Int) - 1)) = ji7 := (i64_w _).trans hji7
      by_cases c8 : 0 ≤ (ji7)
      ·rw [if_pos c8] at H
       have c8b0 : decide (0 ≤ (ji7)) = true := decide_eq_true c8
       clear c8
       by_cases c9 : (ji7) < (x4_1.length : Int)
       ·rw [if_pos c9] at H
        have c9b0 : decide ((ji7) < (x4_1.length : Int)) = true := decide_eq_true c9
        clear c9
        by_cases c10 : (((rd_T48 x4_1 (ji7)).f2) == (((rd_L4 t315 x5_1).length : Int) == 0)) = true
        ·rw [if_pos c10] at H
         have c10b0 : (((rd_T48 x4_1 (ji7)).f2) == (((rd_L4 t315 x5_1).length : Int) == 0)) = true := c10
         (try (have c10b1 : decide (((rd_T48 x4_1 (ji7)).f2) = (((rd_L4 t315 x5_1).length : Int) == 0)) = true := by simpa using c10))
         (try (have c10b2 : (((rd_T48 x4_1 (ji7)).f2) == (((rd_L4 t315 x5_1).length : Int) == 0)) = true := by simpa using c10))
         clear c10
         obtain ⟨y320, hy320⟩ : ∃ y_ : List (S48), y_ = (x4_1.set ((ji7) : Int).toNat (⟨(rd_T48 x4_1 (ji7)).f0, wrap64 (x5_1 + 1), (rd_T48 x4_1 (ji7)).f2⟩ : S48)) := ⟨_, rfl⟩
         replace H : (quoinref13_rows.l0 k1 t315 y320 (wrap64 (x5_1 + 1))) = some r := by first | (rw [hy320]; with_reducible exact H) | (have H2_ := (Option.bind_some _ _).symm.trans H; rw [hy320]; with_reducible exact H2_) | (have H2_ := (Option.bind_some _ _).symm.trans H; with_reducible exact H2_) | with_reducible exact H | (rw [hy320]; exact H) | exact H
         have Ny320 := Aside0.mk hy320
         clear hy320
         have H' := Aside0.mk H
         clear H
         obtain ⟨Ao12, co12, eo12⟩ := Kd.S_slice HO_3.out
         subst eo12
         have p318 : 0 ≤ (x5_1 : Int) := of_decide_eq_true (by first | (with_reducible assumption) | assumption)
         have q318 : x5_1 < (t315.length : Int) := of_decide_eq_true (by first | (with_reducible assumption) | assumption)
         obtain ⟨ad318, A318_0, c318_0, e318, hx318_0, hl318_0, hi318_0⟩ := at_L4 (Kd.S_reads' HO_3.out).2.2 x5_1 p318 q318
         cases e318
         obtain ⟨ce318, hce318, hMe318, hcc318⟩ := Kd.S_get HO_3.out [] x5_1 p318 (by first | exact q318 | exact of_decide_eq_true (by first | (with_reducible assumption) | assumption) | (have e_ := (Kd.S_reads' HO_3.out).1; omega))
         obtain ⟨ve318_0, rfl, ge318_0⟩ := hMe318
         have hv318_0 := hcc318 0 _ rfl
         rw [Nat.add_zero, show ((Kd.slice 5 (Kd.int .u8))).sz = 1 from rfl, Nat.mul_one] at hv318_0
         replace hv318_0 := Option.some.inj (hv318_0.symm.trans hx318_0)
         rw [hv318_0] at ge318_0
         have HL318_0 := Aside0.mk (show Kd.R (Kd.int .u8) 5 _ _ _ _ (rd_L4 t315 x5_1) from ge318_0)
         clear hv318_0 ge318_0
         clear hcc318 hce318
         have HR318_0 := Aside0.mk hi318_0
         have HC318_0 := Aside0.mk hl318_0
         clear hi318_0 hl318_0
         replace p318 := eq_true p318
         replace q318 := eq_true q318
         obtain ⟨Ao13, co13, eo13⟩ := Kd.R_slice HO_4.out
         subst eo13
         have p319 : 0 ≤ ((ji7) : Int) := of_decide_eq_true (by first | (with_reducible assumption) | assumption)
         have q319 : (ji7) < (x4_1.length : Int) := of_decide_eq_true (by first | (with_reducible assumption) | assumption)
         obtain ⟨ad319, e319, hx319_0, hx319_1, hx319_2⟩ := at_T48 (Kd.R_reads' HO_4.out).2.2 (ji7) p319 q319
         cases e319
         replace p319 := eq_true p319
         replace q319 := eq_true q319
         have p11 : 0 ≤ ((ji7) : Int) := of_decide_eq_true (by first | (with_reducible assumption) | assumption)
         have q11 : ((ji7) : Int) < ((x4_1.length : Int) : Int) := of_decide_eq_true (by first | (with_reducible assumption) | assumption)
         obtain ⟨go11, co11, eo11, gb11, gl11, cl11, HG11⟩ := Kd.R_form HO_4.out (by omega)
         (first | cases eo11 | (injection eo11 with ea_ en_ ec_; (first | subst ea_ | (injection ea_ with ea_; subst ea_)); subst ec_; clear en_))
         have GB11 := Aside0.mk gb11
         have GG11 := Aside0.mk HG11
         clear gb11 gl11 HG11
         (first | simp only [add_plain] at hx319_0 | skip)
         (first | simp only [add_plain] at hx319_1 | skip)
         (first | simp only [add_plain] at hx319_2 | skip)
         obtain ⟨ce11, hcl11, hM11, hcc11, hfr11⟩ := Kd.R_elem HO_4.out z48 ((ji7) : Int) p11 q11
         obtain rfl := k48_openM hM11
         have hx11_0 : wr.cell? ⟨go11, ((ji7) : Int).toNat * 3, none⟩ = some (.int .i64 ((rd_T48 x4_1 (ji7)).f0)) := hcc11 0 _ rfl
         have hx11_1 : wr.cell? ⟨go11, ((ji7) : Int).toNat * 3 + 1, none⟩ = some (.int .i64 ((rd_T48 x4_1 (ji7)).f1)) := hcc11 1 _ rfl
         have hx11_2 : wr.cell? ⟨go11, ((ji7) : Int).toNat * 3 + 2, none⟩ = some (.bool ((rd_T48 x4_1 (ji7)).f2)) := hcc11 2 _ rfl
         have hf11_0 : wr.frozen? ⟨go11, ((ji7) : Int).toNat * 3, none⟩ = false := hfr11 0
         have hf11_1 : wr.frozen? ⟨go11, ((ji7) : Int).toNat * 3 + 1, none⟩ = false := hfr11 1
         have hf11_2 : wr.frozen? ⟨go11, ((ji7) : Int).toNat * 3 + 2, none⟩ = false := hfr11 2
         clear hcl11 hcc11 hfr11 hM11
         replace p11 := eq_true p11
         replace q11 := eq_true q11
         have HX14 := Aside0.mk (show Kd.R k48 48 wr w.heap.size (fun _ => True) (.slice (some ⟨go11, 0, none⟩) x4_1.length co13) x4_1 from (by (with_reducible repeat (first | apply Kd.R_alloc | apply Kd.R_drewN | apply Kd.R_drew)); exact HO_4.out))
         obtain ⟨ce14, hcl14, hM14, hcc14, hfr14⟩ := Kd.R_elem HX14.out z48 ((ji7) : Int) (of_decide_eq_true (by first | (with_reducible assumption) | assumption)) (by have h_ : ((ji7) : Int) < ((x4_1.length : Int) : Int) := of_decide_eq_true (by first | (with_reducible assumption) | assumption); first | exact h_ | (have e_ := (Kd.R_reads' HO_4.out).1; omega) | simpa using h_)
         obtain rfl := k48_openM hM14
         have HP14 := Kd.R_seg HX14.out ((ji7) : Int) (of_decide_eq_true (by first | (with_reducible assumption) | assumption)) (by have h_ : ((ji7) : Int) < ((x4_1.length : Int) : Int) := of_decide_eq_true (by first | (with_reducible assumption) | assumption); first | exact h_ | (have e_ := (Kd.R_reads' HO_4.out).1; omega) | simpa using h_) (seg := [.int .i64 (wrap64 (x5_1 + 1))]) (j := 1) hcl14 hcc14 (show 2 ≤ 3 from by decide) (x' := (⟨(rd_T48 x4_1 (ji7)).f0, wrap64 (x5_1 + 1), (rd_T48 x4_1 (ji7)).f2⟩ : S48)) (k48_mkM _ _ _ (⟨(rd_T48 x4_1 (ji7)).f0, wrap64 (x5_1 + 1), (rd_T48 x4_1 (ji7)).f2⟩ : S48) ) (fun _ hk => hk)
         have hx14_1 := hcc14 1 _ rfl
         (try simp only [show (k48).sz = 3 from rfl, Nat.mul_one, Nat.add_zero] at hx14_1)
         have hf14_1 := hfr14 1
         (try simp only [show (k48).sz = 3 from rfl, Nat.mul_one, Nat.add_zero] at hf14_1)
         clear hcl14 hcc14 hfr14 hM14
         go_wp2_with (first | ((with_reducible refine gate_store (t := 3) (p := 42) rfl ?_); refine store_event (t := 3) (p := 42) (v := ?vo_w15) (w1 := (wr.setCell ⟨go11, ((ji7) : Int).toNat * 3 + 1, none⟩ (.int .i64 (wrap64 (x5_1 + 1))))) ?hg ?ho ?hn ?hr ?_; (case ho => rfl); (case hg => rfl); (case hn => rfl); (case hr => first | (go_simp; done) | (go_simp; rfl)); intro w15 hw; have hg : wr.grownBy w15 (some go11) := (by rw [hw]; exact HP14.2); have hp_ : Kd.R k48 48 w15 w.heap.size (fun _ => True) (.slice (some ⟨go11, 0, none⟩) x4_1.length co13) y320 := (by rw [hw, Ny320.out]; exact HP14.1); clear HP14; have n0_ := Aside0.mk (Kd.S_over' (v := (.slice (some ⟨go11, 0, none⟩) x4_1.length co13)) (by (with_reducible repeat (first | apply Kd.S_alloc | apply Kd.S_drewN | apply Kd.S_drew)); exact HO_3.out) (Kd.R_typed HO_4.out) (by decide) hg); have n1_ := Aside0.mk (hp_); have n2_ := Aside0.mk (Kd.R_over' (v := (.slice (some ⟨go11, 0, none⟩) x4_1.length co13)) (by (with_reducible repeat (first | apply Kd.R_alloc | apply Kd.R_drewN | apply Kd.R_drew)); exact HL318_0.out) (Kd.R_typed HO_4.out) (by decide) hg); have n3_ := Aside0.mk ((by rw [hw]; exact below_set (HB.out) GB11.out : Below w.heap.size w w15)); clear HO_3; clear HO_4; clear HL318_0; clear HB; have HO_3 := n0_; have HO_4 := n1_; have HL318_0 := n2_; have HB := n3_; clear n0_ n1_ n2_ n3_; clear hg hw hp_))
         go_roundg k1
         case measure => have := HK1.out; omega
         case rel => exact ⟨(y320), (wrap64 (x5_1 + 1)), (by first | rfl | (simp; done) | (simp [*]; done)), H', ⟨by have := HK1.out; omega⟩, ⟨by (with_reducible repeat (first | apply Kd.S_alloc | apply Kd.S_drewN | apply Kd.S_drew)); exact HO_3.out⟩, ⟨by (with_reducible repeat (first | apply Kd.R_alloc | apply Kd.R_drewN | apply Kd.R_drew)); exact HO_4.out⟩, ⟨by repeat (first | (with_reducible first | exact HB.out | apply below_alloc | apply pw_below_drewN | apply below_drew1) | exact HB.out)⟩⟩
        ·rw [if_neg c10] at H
         have c10b0 : (((rd_T48 x4_1 (ji7)).f2) == (((rd_L4 t315 x5_1).length : Int) == 0)) = false := by simpa using c10
         (try (have c10b1 : decide (((rd_T48 x4_1 (ji7)).f2) = (((rd_L4 t315 x5_1).length : Int) == 0)) = false := by simpa using c10))
         (try (have c10b2 : (((rd_T48 x4_1 (ji7)).f2) == (((rd_L4 t315 x5_1).length : Int) == 0)) = false := by simpa using c10))
         (try (have c10b3 : ¬ (((rd_T48 x4_1 (ji7)).f2) = (((rd_L4 t315 x5_1).length : Int) == 0)) := by simpa using c10))
         clear c10
         by_cases c16 : x4_1.length < 5864062014805
         ·rw [if_pos c16] at H
          have LMc16 := Aside0.mk c16
          clear c16
          obtain ⟨y321, hy321⟩ : ∃ y_ : List (S48), y_ = (x4_1 ++ [(⟨x5_1, wrap64 (x5_1 + 1), (((rd_L4 t315 x5_1).length : Int) == 0)⟩ : S48)]) := ⟨_, rfl⟩
          replace H : (quoinref13_rows.l0 k1 t315 y321 (wrap64 (x5_1 + 1))) = some r := by first | (rw [hy321]; with_reducible exact H) | (have H2_ := (Option.bind_some _ _).symm.trans H; rw [hy321]; with_reducible exact H2_) | (have H2_ := (Option.bind_some _ _).symm.trans H; with_reducible exact H2_) | with_reducible exact H | (rw [hy321]; exact H) | exact H
          have Ny321 := Aside0.mk hy321
          clear hy321
          have H' := Aside0.mk H
          clear H
          obtain ⟨Ao17, co17, eo17⟩ := Kd.S_slice HO_3.out
          subst eo17
          have p318 : 0 ≤ (x5_1 : Int) := of_decide_eq_true (by first | (with_reducible assumption) | assumption)
          have q318 : x5_1 < (t315.length : Int) := of_decide_eq_true (by first | (with_reducible assumption) | assumption)
          obtain ⟨ad318, A318_0, c318_0, e318, hx318_0, hl318_0, hi318_0⟩ := at_L4 (Kd.S_reads' HO_3.out).2.2 x5_1 p318 q318
          cases e318
          obtain ⟨ce318, hce318, hMe318, hcc318⟩ := Kd.S_get HO_3.out [] x5_1 p318 (by first | exact q318 | exact of_decide_eq_true (by first | (with_reducible assumption) | assumption) | (have e_ := (Kd.S_reads' HO_3.out).1; omega))
          obtain ⟨ve318_0, rfl, ge318_0⟩ := hMe318
          have hv318_0 := hcc318 0 _ rfl
          rw [Nat.add_zero, show ((Kd.slice 5 (Kd.int .u8))).sz = 1 from rfl, Nat.mul_one] at hv318_0
          replace hv318_0 := Option.some.inj (hv318_0.symm.trans hx318_0)
          rw [hv318_0] at ge318_0
          have HL318_0 := Aside0.mk (show Kd.R (Kd.int .u8) 5 _ _ _ _ (rd_L4 t315 x5_1) from ge318_0)
          clear hv318_0 ge318_0
          clear hcc318 hce318
          have HR318_0 := Aside0.mk hi318_0
          have HC318_0 := Aside0.mk hl318_0
          clear hi318_0 hl318_0
          replace p318 := eq_true p318
          replace q318 := eq_true q318
          obtain ⟨Ao18, co18, eo18⟩ := Kd.R_slice HO_4.out
          subst eo18
          have p319 : 0 ≤ ((ji7) : Int) := of_decide_eq_true (by first | (with_reducible assumption) | assumption)
          have q319 : (ji7) < (x4_1.length : Int) := of_decide_eq_true (by first | (with_reducible assumption) | assumption)
          obtain ⟨ad319, e319, hx319_0, hx319_1, hx319_2⟩ := at_T48 (Kd.R_reads' HO_4.out).2.2 (ji7) p319 q319
          cases e319
          replace p319 := eq_true p319
          replace q319 := eq_true q319
          go_wp2_with (first | ((with_reducible refine gate_builtin (b := .append) (xs := #[.tmp 43, .tmp 49]) rfl ?_); at_builtin; refine Kd.R_append k48 (w0 := w) w.heap.size rfl (.tmp 43) (.tmp 49) 49 48 (.agg #[(.int .i64 0), (.int .i64 0), (.bool false)]) 24 rfl Tryd.underlying49 info48 rfl (by decide) (by omega) (.slice (some ad319) x4_1.length co18) x4_1 (⟨x5_1, wrap64 (x5_1 + 1), (((rd_L4 t315 x5_1).length : Int) == 0)⟩ : S48) [.int .i64 x5_1, .int .i64 (wrap64 (x5_1 + 1)), .bool (((rd_L4 t315 x5_1).length : Int) == 0)] (fun _ => True) (fun _ => False) rfl rfl ?aP (fun _ hk => hk.elim) ?aF ?aO ?aB ?aS ?aL ?_; (case aP => exact k48_mkM _ _ _ (⟨x5_1, wrap64 (x5_1 + 1), (((rd_L4 t315 x5_1).length : Int) == 0)⟩ : S48)); (case aB => exact (by repeat (first | (with_reducible first | exact HB.out | apply below_alloc | apply pw_below_drewN | apply below_drew1) | exact HB.out))); (case aF => exact (fun _ _ => trivial)); (case aO => exact (by (with_reducible repeat (first | apply Kd.R_alloc | apply Kd.R_drewN | apply Kd.R_drew)); exact HO_4.out)); (case aS => exact (below_size (by repeat (first | (with_reducible first | exact HB.out | apply below_alloc | apply pw_below_drewN | apply below_drew1) | exact HB.out)))); (case aL => have := LMc16.out; omega); intro v322 w19 ho hb hg hat; rw [← Ny321.out] at ho; have n0_ := Aside0.mk (Kd.S_over' (by (with_reducible repeat (first | apply Kd.S_alloc | apply Kd.S_drewN | apply Kd.S_drew)); exact HO_3.out) (Kd.R_typed (by (with_reducible repeat (first | apply Kd.R_alloc | apply Kd.R_drewN | apply Kd.R_drew)); exact HO_4.out)) (by decide) hg); have n1_ := Aside0.mk (Kd.R_over' (by (with_reducible repeat (first | apply Kd.R_alloc | apply Kd.R_drewN | apply Kd.R_drew)); exact HL318_0.out) (Kd.R_typed (by (with_reducible repeat (first | apply Kd.R_alloc | apply Kd.R_drewN | apply Kd.R_drew)); exact HO_4.out)) (by decide) hg); have n2_ := Aside0.mk (hb); have n3_ := Aside0.mk (ho); clear HO_3; clear HL318_0; clear HB; clear HO_4; have HO_3 := n0_; have HL318_0 := n1_; have HB := n2_; have HO323 := n3_; clear n0_ n1_ n2_ n3_; clear ho hb hg hat))
          go_roundg k1
          case measure => have := HK1.out; omega
          case rel => exact ⟨(y321), (wrap64 (x5_1 + 1)), (by first | rfl | (simp; done) | (simp [*]; done)), H', ⟨by have := HK1.out; omega⟩, ⟨by (with_reducible repeat (first | apply Kd.S_alloc | apply Kd.S_drewN | apply Kd.S_drew)); exact HO_3.out⟩, ⟨by (with_reducible repeat (first | apply Kd.R_alloc | apply Kd.R_drewN | apply Kd.R_drew)); exact HO323.out⟩, ⟨by repeat (first | (with_reducible first | exact HB.out | apply below_alloc | apply pw_below_drewN | apply below_drew1) | exact HB.out)⟩⟩
         ·rw [if_neg c16] at H
          exact absurd H (by simp)
       ·rw [if_neg c9] at H
        exact absurd H (by simp)
      ·rw [if_neg c8] at H
       exact absurd H (by simp)
     ·rw [if_neg c6] at H
      have c6b0 : decide (0 < (x4_1.length : Int)) = false := decide_eq_false c6
      have c6b1 : decide (0 < x4_1.length) = false := decide_eq_false (by omega)
      clear c6
      by_cases c20 : x4_1.length < 5864062014805
      ·rw [if_pos c20] at H
       have LMc20 := Aside0.mk c20
       clear c20
       obtain ⟨y324, hy324⟩ : ∃ y_ : List (S48), y_ = (x4_1 ++ [(⟨x5_1, wrap64 (x5_1 + 1), (((rd_L4 t315 x5_1).length : Int) == 0)⟩ : S48)]) := ⟨_, rfl⟩
       replace H : (quoinref13_rows.l0 k1 t315 y324 (wrap64 (x5_1 + 1))) = some r := by first | (rw [hy324]; with_reducible exact H) | (have H2_ := (Option.bind_some _ _).symm.trans H; rw [hy324]; with_reducible exact H2_) | (have H2_ := (Option.bind_some _ _).symm.trans H; with_reducible exact H2_) | with_reducible exact H | (rw [hy324]; exact H) | exact H
       have Ny324 := Aside0.mk hy324
       clear hy324
       have H' := Aside0.mk H
       clear H
       obtain ⟨Ao21, co21, eo21⟩ := Kd.S_slice HO_3.out
       subst eo21
       have p318 : 0 ≤ (x5_1 : Int) := of_decide_eq_true (by first | (with_reducible assumption) | assumption)
       have q318 : x5_1 < (t315.length : Int) := of_decide_eq_true (by first | (with_reducible assumption) | assumption)
       obtain ⟨ad318, A318_0, c318_0, e318, hx318_0, hl318_0, hi318_0⟩ := at_L4 (Kd.S_reads' HO_3.out).2.2 x5_1 p318 q318
       cases e318
       obtain ⟨ce318, hce318, hMe318, hcc318⟩ := Kd.S_get HO_3.out [] x5_1 p318 (by first | exact q318 | exact of_decide_eq_true (by first | (with_reducible assumption) | assumption) | (have e_ := (Kd.S_reads' HO_3.out).1; omega))
       obtain ⟨ve318_0, rfl, ge318_0⟩ := hMe318
       have hv318_0 := hcc318 0 _ rfl
       rw [Nat.add_zero, show ((Kd.slice 5 (Kd.int .u8))).sz = 1 from rfl, Nat.mul_one] at hv318_0
       replace hv318_0 := Option.some.inj (hv318_0.symm.trans hx318_0)
       rw [hv318_0] at ge318_0
       have HL318_0 := Aside0.mk (show Kd.R (Kd.int .u8) 5 _ _ _ _ (rd_L4 t315 x5_1) from ge318_0)
       clear hv318_0 ge318_0
       clear hcc318 hce318
       have HR318_0 := Aside0.mk hi318_0
       have HC318_0 := Aside0.mk hl318_0
       clear hi318_0 hl318_0
       replace p318 := eq_true p318
       replace q318 := eq_true q318
       obtain ⟨Ao22, co22, eo22⟩ := Kd.R_slice HO_4.out
       subst eo22
       go_wp2_with (first | ((with_reducible refine gate_builtin (b := .append) (xs := #[.tmp 43, .tmp 49]) rfl ?_); at_builtin; refine Kd.R_append k48 (w0 := w) w.heap.size rfl (.tmp 43) (.tmp 49) 49 48 (.agg #[(.int .i64 0), (.int .i64 0), (.bool false)]) 24 rfl Tryd.underlying49 info48 rfl (by decide) (by omega) (.slice Ao22 x4_1.length co22) x4_1 (⟨x5_1, wrap64 (x5_1 + 1), (((rd_L4 t315 x5_1).length : Int) == 0)⟩ : S48) [.int .i64 x5_1, .int .i64 (wrap64 (x5_1 + 1)), .bool (((rd_L4 t315 x5_1).length : Int) == 0)] (fun _ => True) (fun _ => False) rfl rfl ?aP (fun _ hk => hk.elim) ?aF ?aO ?aB ?aS ?aL ?_; (case aP => exact k48_mkM _ _ _ (⟨x5_1, wrap64 (x5_1 + 1), (((rd_L4 t315 x5_1).length : Int) == 0)⟩ : S48)); (case aB => exact (by repeat (first | (with_reducible first | exact HB.out | apply below_alloc | apply pw_below_drewN | apply below_drew1) | exact HB.out))); (case aF => exact (fun _ _ => trivial)); (case aO => exact (by (with_reducible repeat (first | apply Kd.R_alloc | apply Kd.R_drewN | apply Kd.R_drew)); exact HO_4.out)); (case aS => exact (below_size (by repeat (first | (with_reducible first | exact HB.out | apply below_alloc | apply pw_below_drewN | apply below_drew1) | exact HB.out)))); (case aL => have := LMc20.out; omega); intro v325 w23 ho hb hg hat; rw [← Ny324.out] at ho; have n0_ := Aside0.mk (Kd.S_over' (by (with_reducible repeat (first | apply Kd.S_alloc | apply Kd.S_drewN | apply Kd.S_drew)); exact HO_3.out) (Kd.R_typed (by (with_reducible repeat (first | apply Kd.R_alloc | apply Kd.R_drewN | apply Kd.R_drew)); exact HO_4.out)) (by decide) hg); have n1_ := Aside0.mk (Kd.R_over' (by (with_reducible repeat (first | apply Kd.R_alloc | apply Kd.R_drewN | apply Kd.R_drew)); exact HL318_0.out) (Kd.R_typed (by (with_reducible repeat (first | apply Kd.R_alloc | apply Kd.R_drewN | apply Kd.R_drew)); exact HO_4.out)) (by decide) hg); have n2_ := Aside0.mk (hb); have n3_ := Aside0.mk (ho); clear HO_3; clear HL318_0; clear HB; clear HO_4; have HO_3 := n0_; have HL318_0 := n1_; have HB := n2_; have HO326 := n3_; clear n0_ n1_ n2_ n3_; clear ho hb hg hat))
       go_roundg k1
       case measure => have := HK1.out; omega
       case rel => exact ⟨(y324), (wrap64 (x5_1 + 1)), (by first | rfl | (simp; done) | (simp [*]; done)), H', ⟨by have := HK1.out; omega⟩, ⟨by (with_reducible repeat (first | apply Kd.S_alloc | apply Kd.S_drewN | apply Kd.S_drew)); exact HO_3.out⟩, ⟨by (with_reducible repeat (first | apply Kd.R_alloc | apply Kd.R_drewN | apply Kd.R_drew)); exact HO326.out⟩, ⟨by repeat (first | (with_reducible first | exact HB.out | apply below_alloc | apply pw_below_drewN | apply below_drew1) | exact HB.out)⟩⟩
      ·rw [if_neg c20] at H
       exact absurd H (by simp)
    ·rw [if_neg c5] at H
     exact absurd H (by simp)
   ·rw [if_neg c4] at H
    have c4b0 : decide (x5_1 < (t315.length : Int)) = false := decide_eq_false c4
    clear c4
    obtain rfl := Option.some.inj H
    obtain ⟨Ao24, co24, eo24⟩ := Kd.S_slice HO_3.out
    subst eo24
    go_wp2
    go_ret
    exact ⟨_, by first | rfl | (simp [errW_none, errW_some] <;> rfl) | (simp [*, errW_none, errW_some] <;> rfl), by (with_reducible repeat (first | apply Kd.R_alloc | apply Kd.R_drewN | apply Kd.R_drew)); exact HO_4.out, by repeat (first | (with_reducible first | exact HB.out | apply below_alloc | apply pw_below_drewN | apply below_drew1) | exact HB.out)⟩

end Go.Proofs.YtcochbkdgjgaeaaDoor.X
