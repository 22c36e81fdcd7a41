/-
  Texts of one proof in one file (wip/some.py): X58, QV, HW0, HW1, HW2, HW3, XS, WalkHuntWords.
  Conditions: none.
-/
import Derived.Test.YtffpkldphkmjmaaDoorX0
import Derived.Test.YtffpkldphkmjmaaDoorX57
import Derived.Test.YtffpkldphkmjmaaDoorPT10
import Derived.Test.YtffpkldphkmjmaaDoorHTB
import Derived.Test.YtffpkldphkmjmaaDoorRTM
import Derived.Lib.ConvBytes
import Derived.Test.YtffpkldphkmjmaaDoorXO
import Derived.Test.YtffpkldphkmjmaaDoorX4
import Derived.BigQuiet
import Derived.Deep.RegionWith
section
-- Written by wip/xprint.py over the kit's print.py: the Lean function of each Go function, and the proof that the Go text comes to it.
namespace Go.Proofs.YtffpkldphkmjmaaDoor.X
open Go.RowKit Go.Proofs.YtffpkldphkmjmaaDoorW.PrintWords Go.Proofs.YtffpkldphkmjmaaDoorW.PrintLast Go.Proofs.YtffpkldphkmjmaaDoorW.PrintMore
attribute [local go_sem] max2_int min2_int max_two min_two max_three min_three max_four min_four   -- for this text's walks alone
set_option linter.unusedVariables false
set_option linter.unusedSimpArgs false

/-! ### class_Runs: function 18 -/
def class_Runs.l0 : Nat → List Int → Bool → List Int → Int → Int → Option (List Int)
  | 0, _, _, _, _, _ => none
  | k + 1, x0, x1, x5, x8, x9 => if x9 < x8 then (if (wrap64 (x9 + 1)) = (x0.length : Int) then (if x5.length < 17592186044416 then (class_Runs.l0 k x0 x1 (x5 ++ [wrap64 (x9 + 1)]) x8 (wrap64 (x9 + 1))) else (none)) else (if 0 ≤ x9 then (if x9 < (x0.length : Int) then ((class_Of.f k (rd x0 x9) x1).bind fun t167 => (if 0 ≤ (wrap64 (x9 + 1)) then (if (wrap64 (x9 + 1)) < (x0.length : Int) then ((class_Of.f k (rd x0 (wrap64 (x9 + 1))) x1).bind fun t169 => (if t167 = t169 then (class_Runs.l0 k x0 x1 x5 x8 (wrap64 (x9 + 1))) else (if x5.length < 17592186044416 then (class_Runs.l0 k x0 x1 (x5 ++ [wrap64 (x9 + 1)]) x8 (wrap64 (x9 + 1))) else (none)))) else (none)) else (none))) else (none)) else (none))) else (some x5)
def class_Runs.f (k : Nat) (l0 : List Int) (a1 : Bool) : Option (List Int) := class_Runs.l0 k l0 a1 ([] : List Int) (l0.length : Int) 0
theorem class_Runs.mono_l : ∀ k, (∀ y0 y1 y2 y3 y4, LeO (class_Runs.l0 k y0 y1 y2 y3 y4) (class_Runs.l0 (k + 1) y0 y1 y2 y3 y4))
  | 0 => fun _ _ _ _ _ r h => by simp [class_Runs.l0] at h
  | k + 1 => by
    have ih0 := class_Runs.mono_l k
    · intro y0 y1 y2 y3 y4
      unfold class_Runs.l0
      repeat' first
      | (with_reducible exact ih0 _ _ _ _ _)
      | (with_reducible exact class_Of.mono _ _ _)
      | (with_reducible exact LeO.refl _)
      | (with_reducible exact LeO.none _)
      | (with_reducible refine LeO.ite ?_ ?_)
      | (with_reducible refine LeO.bind ?_ (fun _ => ?_))
      | exact ih0 _ _ _ _ _
      | exact class_Of.mono _ _ _
      | exact LeO.none _
      | refine LeO.ite ?_ ?_
      | refine LeO.bind ?_ (fun _ => ?_)
theorem class_Runs.mono : ∀ a0 a1 k, LeO (class_Runs.f k a0 a1) (class_Runs.f (k + 1) a0 a1) := by
  intro a0 a1 k
  have ih0 := class_Runs.mono_l k
  unfold class_Runs.f
  repeat' first
      | (with_reducible exact ih0 _ _ _ _ _)
      | (with_reducible exact class_Of.mono _ _ _)
      | (with_reducible exact LeO.refl _)
      | (with_reducible exact LeO.none _)
      | (with_reducible refine LeO.ite ?_ ?_)
      | (with_reducible refine LeO.bind ?_ (fun _ => ?_))
      | exact ih0 _ _ _ _ _
      | exact class_Of.mono _ _ _
      | exact LeO.none _
      | refine LeO.ite ?_ ?_
      | refine LeO.bind ?_ (fun _ => ?_)
set_option maxHeartbeats 8000000 in
set_option maxRecDepth 100000 in
theorem class_Runs.calls (k : Nat) (A0 : Option Addr) (c0 : Nat) (l0 : List Int) (a1 : Bool) (r : List Int) (w : World) (hr0 : Kd.C (Kd.int .u8) w A0 l0.length l0) (hc0 : l0.length ≤ c0) (h : class_Runs.f k l0 a1 = some r) :
    Calls Tryd.prog 18 #[.slice A0 l0.length c0, .bool a1] w fun e w' => ∃ v0_ : Value, e = .returned (v0_) ∧ Kd.R (Kd.int .i64) 3 w' w.heap.size (fun _ => True) v0_ r ∧ Below w.heap.size w w' := by
  have HR0 := Aside0.mk hr0
  have HC0 := Aside0.mk hc0
  clear hr0 hc0
  have HB := Aside0.mk (Below.refl w.heap.size w)
  have H : (class_Runs.l0 k l0 a1 ([] : List Int) (l0.length : Int) 0) = some r := h
  clear h
  have H' := Aside0.mk H
  clear H
  go_enter Tryd.func18, Tryd.ntmps18
  go_wp2
  repeat (go_quiet (fail); try go_wp2)
  go_loopg [5, 9] k (fun kq v5 v9 w' => ∃ (x5_1 : List Int) (x9_1 : Int), v9 = .int .i64 x9_1 ∧ Aside0 (class_Runs.l0 kq l0 a1 x5_1 (l0.length : Int) x9_1 = some r) ∧ Aside0 (kq ≤ k) ∧ Aside0 (Kd.R (Kd.int .i64) 3 w' w.heap.size (fun _ => True) v5 x5_1) ∧ Aside0 (Below w.heap.size w w'))
  case atStart => exact ⟨(([] : List Int)), (0), (by first | rfl | (simp; done) | (simp [*]; done)), H', ⟨Nat.le_refl _⟩, ⟨by first | exact Kd.R_nil _ _ _ _ _ | exact Kd.N_nil _ _ _ _ _ | exact Kd.V_nil _ _ _ _ _ | exact Kd.Q_nil _ _ _ _ _ | exact Kd.S_nil _ _ _ _ _⟩, ⟨by repeat (first | (with_reducible first | exact HB.out | apply below_alloc | apply pw_below_drewN | apply below_drew1) | exact HB.out)⟩⟩
  case round =>
    clear H'
    try clear c1
    try clear p2
    obtain ⟨x5_1, x9_1, rfl, HA, HK1, HO_5, HB⟩ := hrel
    cases gk with
    | zero => exact absurd HA.out (by simp [class_Runs.l0])
    | succ k1 =>
      have H := HA.out
      clear HA
      simp only [class_Runs.l0] at H
      by_cases c3 : x9_1 < (l0.length : Int)
      · rw [if_pos c3] at H
        have c3b0 : decide (x9_1 < (l0.length : Int)) = true := decide_eq_true c3
        clear c3
        by_cases c4 : (wrap64 (x9_1 + 1)) = (l0.length : Int)
        · rw [if_pos c4] at H
          have c4b0 : ((wrap64 (x9_1 + 1)) == (l0.length : Int)) = true := beq_iff_eq.mpr c4
          have c4b1 : ((wrap64 (x9_1 + 1)) != (l0.length : Int)) = false := bne_eq_false_iff_eq.mpr c4
          clear c4
          by_cases c5 : x5_1.length < 17592186044416
          · rw [if_pos c5] at H
            have LMc5 := Aside0.mk c5
            clear c5
            obtain ⟨y163, hy163⟩ : ∃ y_ : List Int, y_ = (x5_1 ++ [wrap64 (x9_1 + 1)]) := ⟨_, rfl⟩
            replace H : (class_Runs.l0 k1 l0 a1 y163 (l0.length : Int) (wrap64 (x9_1 + 1))) = some r := by first | (rw [hy163]; with_reducible exact H) | (have H2_ := (Option.bind_some _ _).symm.trans H; rw [hy163]; with_reducible exact H2_) | (have H2_ := (Option.bind_some _ _).symm.trans H; with_reducible exact H2_) | with_reducible exact H | (rw [hy163]; exact H) | exact H
            have Ny163 := Aside0.mk hy163
            clear hy163
            have H' := Aside0.mk H
            clear H
            go_wp2_with (first | ((with_reducible refine gate_builtin (b := .append) (xs := #[.tmp 33, .tmp 36]) rfl ?_); at_builtin; refine Kd.R_append (Kd.int .i64) (w0 := w) w.heap.size rfl (.tmp 33) (.tmp 36) 47 3 (.int .i64 0) 8 rfl Tryd.underlying47 info3 rfl (by decide) (by omega) u5 x5_1 (wrap64 (x9_1 + 1)) [.int .i64 (wrap64 (x9_1 + 1))] (fun _ => True) (fun _ => False) rfl rfl ?aP (fun _ hk => hk.elim) ?aF ?aO ?aB ?aS ?aL ?_; (case aP => exact rfl); (case aB => exact (by repeat (first | (with_reducible first | exact HB.out | apply below_alloc | apply pw_below_drewN | apply below_drew1) | exact HB.out))); (case aF => exact (fun _ _ => trivial)); (case aO => exact (by (with_reducible repeat (first | apply Kd.R_alloc | apply Kd.R_drewN | apply Kd.R_drew)); exact HO_5.out)); (case aS => exact (below_size (by repeat (first | (with_reducible first | exact HB.out | apply below_alloc | apply pw_below_drewN | apply below_drew1) | exact HB.out)))); (case aL => have := LMc5.out; omega); intro v164 w6 ho hb hg hat; rw [← Ny163.out] at ho; have n0_ := Aside0.mk (hb); have n1_ := Aside0.mk (ho); clear HB; clear HO_5; have HB := n0_; have HO165 := n1_; clear n0_ n1_; clear ho hb hg hat))
            repeat (go_quiet (first | ((with_reducible refine gate_builtin (b := .append) (xs := #[.tmp 33, .tmp 36]) rfl ?_); at_builtin; refine Kd.R_append (Kd.int .i64) (w0 := w) w.heap.size rfl (.tmp 33) (.tmp 36) 47 3 (.int .i64 0) 8 rfl Tryd.underlying47 info3 rfl (by decide) (by omega) u5 x5_1 (wrap64 (x9_1 + 1)) [.int .i64 (wrap64 (x9_1 + 1))] (fun _ => True) (fun _ => False) rfl rfl ?aP (fun _ hk => hk.elim) ?aF ?aO ?aB ?aS ?aL ?_; (case aP => exact rfl); (case aB => exact (by repeat (first | (with_reducible first | exact HB.out | apply below_alloc | apply pw_below_drewN | apply below_drew1) | exact HB.out))); (case aF => exact (fun _ _ => trivial)); (case aO => exact (by (with_reducible repeat (first | apply Kd.R_alloc | apply Kd.R_drewN | apply Kd.R_drew)); exact HO_5.out)); (case aS => exact (below_size (by repeat (first | (with_reducible first | exact HB.out | apply below_alloc | apply pw_below_drewN | apply below_drew1) | exact HB.out)))); (case aL => have := LMc5.out; omega); intro v164 w6 ho hb hg hat; rw [← Ny163.out] at ho; have n0_ := Aside0.mk (hb); have n1_ := Aside0.mk (ho); clear HB; clear HO_5; have HB := n0_; have HO165 := n1_; clear n0_ n1_; clear ho hb hg hat)); try go_wp2_with (first | ((with_reducible refine gate_builtin (b := .append) (xs := #[.tmp 33, .tmp 36]) rfl ?_); at_builtin; refine Kd.R_append (Kd.int .i64) (w0 := w) w.heap.size rfl (.tmp 33) (.tmp 36) 47 3 (.int .i64 0) 8 rfl Tryd.underlying47 info3 rfl (by decide) (by omega) u5 x5_1 (wrap64 (x9_1 + 1)) [.int .i64 (wrap64 (x9_1 + 1))] (fun _ => True) (fun _ => False) rfl rfl ?aP (fun _ hk => hk.elim) ?aF ?aO ?aB ?aS ?aL ?_; (case aP => exact rfl); (case aB => exact (by repeat (first | (with_reducible first | exact HB.out | apply below_alloc | apply pw_below_drewN | apply below_drew1) | exact HB.out))); (case aF => exact (fun _ _ => trivial)); (case aO => exact (by (with_reducible repeat (first | apply Kd.R_alloc | apply Kd.R_drewN | apply Kd.R_drew)); exact HO_5.out)); (case aS => exact (below_size (by repeat (first | (with_reducible first | exact HB.out | apply below_alloc | apply pw_below_drewN | apply below_drew1) | exact HB.out)))); (case aL => have := LMc5.out; omega); intro v164 w6 ho hb hg hat; rw [← Ny163.out] at ho; have n0_ := Aside0.mk (hb); have n1_ := Aside0.mk (ho); clear HB; clear HO_5; have HB := n0_; have HO165 := n1_; clear n0_ n1_; clear ho hb hg hat)))
            go_roundg k1
            case measure => have := HK1.out; omega
            case rel => exact ⟨(y163), (wrap64 (x9_1 + 1)), (by first | rfl | (simp; done) | (simp [*]; done)), H', ⟨by have := HK1.out; omega⟩, ⟨by (with_reducible repeat (first | apply Kd.R_alloc | apply Kd.R_drewN | apply Kd.R_drew)); exact HO165.out⟩, ⟨by repeat (first | (with_reducible first | exact HB.out | apply below_alloc | apply pw_below_drewN | apply below_drew1) | exact HB.out)⟩⟩
          · rw [if_neg c5] at H
            exact absurd H (by simp)
        · rw [if_neg c4] at H
          have c4b0 : ((wrap64 (x9_1 + 1)) == (l0.length : Int)) = false := beq_eq_false_iff_ne.mpr c4
          have c4b1 : ((wrap64 (x9_1 + 1)) != (l0.length : Int)) = true := bne_iff_ne.mpr c4
          by_cases c7 : 0 ≤ x9_1
          · rw [if_pos c7] at H
            have c7b0 : decide (0 ≤ x9_1) = true := decide_eq_true c7
            clear c7
            by_cases c8 : x9_1 < (l0.length : Int)
            · rw [if_pos c8] at H
              have c8b0 : decide (x9_1 < (l0.length : Int)) = true := decide_eq_true c8
              clear c8
              replace H := Option.bind_eq_some_iff.mp H
              obtain ⟨t167, A90, H⟩ := H
              replace H : (if 0 ≤ (wrap64 (x9_1 + 1)) then (if (wrap64 (x9_1 + 1)) < (l0.length : Int) then ((class_Of.f k1 (rd l0 (wrap64 (x9_1 + 1))) a1).bind fun t169 => (if t167 = t169 then (class_Runs.l0 k1 l0 a1 x5_1 (l0.length : Int) (wrap64 (x9_1 + 1))) else (if x5_1.length < 17592186044416 then (class_Runs.l0 k1 l0 a1 (x5_1 ++ [wrap64 (x9_1 + 1)]) (l0.length : Int) (wrap64 (x9_1 + 1))) else (none)))) else (none)) else (none)) = some r := H
              have A9 := Aside0.mk A90
              clear A90
              obtain ⟨ji10, hji10⟩ : ∃ j_ : Int, (wrap64 (x9_1 + 1)) = j_ := ⟨_, rfl⟩
              replace H : (if 0 ≤ (ji10) then (if (ji10) < (l0.length : Int) then ((class_Of.f k1 (rd l0 (ji10)) a1).bind fun t169 => (if t167 = t169 then (class_Runs.l0 k1 l0 a1 x5_1 (l0.length : Int) ji10) else (if x5_1.length < 17592186044416 then (class_Runs.l0 k1 l0 a1 (x5_1 ++ [ji10]) (l0.length : Int) ji10) else (none)))) else (none)) else (none)) = some r := by first | (rw [hji10] at H; exact H) | (simp only [hji10] at H ⊢; exact H)
              (try rw [hji10] at c4b0)
              (try rw [hji10] at c4b1)
              (try rw [hji10] at A9)
              have hji10w : (IntKind.i64.wrap (x9_1 + 1)) = ji10 := (i64_w _).trans hji10
              by_cases c11 : 0 ≤ (ji10)
              · rw [if_pos c11] at H
                have c11b0 : decide (0 ≤ (ji10)) = true := decide_eq_true c11
                clear c11
                by_cases c12 : (ji10) < (l0.length : Int)
                · rw [if_pos c12] at H
                  have c12b0 : decide ((ji10) < (l0.length : Int)) = true := decide_eq_true c12
                  clear c12
                  replace H := Option.bind_eq_some_iff.mp H
                  obtain ⟨t169, A130, H⟩ := H
                  replace H : (if t167 = t169 then (class_Runs.l0 k1 l0 a1 x5_1 (l0.length : Int) ji10) else (if x5_1.length < 17592186044416 then (class_Runs.l0 k1 l0 a1 (x5_1 ++ [ji10]) (l0.length : Int) ji10) else (none))) = some r := H
                  have A13 := Aside0.mk A130
                  clear A130
                  by_cases c14 : t167 = t169
                  · rw [if_pos c14] at H
                    have c14b0 : (t167 == t169) = true := beq_iff_eq.mpr c14
                    have c14b1 : (t167 != t169) = false := bne_eq_false_iff_eq.mpr c14
                    clear c14
                    have H' := Aside0.mk H
                    clear H
                    have p166 : 0 ≤ (x9_1 : Int) := of_decide_eq_true (by first | (with_reducible assumption) | assumption)
                    have q166 : x9_1 < (l0.length : Int) := of_decide_eq_true (by first | (with_reducible assumption) | assumption)
                    obtain ⟨ad166, e166, hx166_0⟩ := Kd.at_int HR0.out x9_1 p166 q166
                    cases e166
                    replace hx166_0 := (HB.out.cell (World.block_lt_of_cell? w _ hx166_0)).trans hx166_0
                    replace p166 := eq_true p166
                    replace q166 := eq_true q166
                    go_wp2_with (first | (go_at_call 20; (with_reducible refine (class_Of.calls k1 (rd l0 x9_1) a1 t167 _ A9.out).mono ?_); rintro e w' ⟨rfl, ⟨nd, rfl⟩⟩; (try first | exact ⟨rfl, _, World.drewN_drewN _ _ _⟩ | exact ⟨rfl, _, Eq.trans (World.drewN_drewN _ _ _) (congrArg (World.drewN _) (Nat.add_assoc _ _ _))⟩); have p168 : 0 ≤ ((ji10) : Int) := of_decide_eq_true (by first | (with_reducible assumption) | assumption); have q168 : (ji10) < (l0.length : Int) := of_decide_eq_true (by first | (with_reducible assumption) | assumption); obtain ⟨ad168, e168, hx168_0⟩ := Kd.at_int HR0.out (ji10) p168 q168; obtain rfl : ad166 = ad168 := (by injection e168); replace hx168_0 := (HB.out.cell (World.block_lt_of_cell? w _ hx168_0)).trans hx168_0; replace p168 := eq_true p168; replace q168 := eq_true q168) | (go_at_call 20; (with_reducible refine (class_Of.calls k1 (rd l0 (ji10)) a1 t169 _ A13.out).mono ?_); rintro e w' ⟨rfl, ⟨nd, rfl⟩⟩; (try first | exact ⟨rfl, _, World.drewN_drewN _ _ _⟩ | exact ⟨rfl, _, Eq.trans (World.drewN_drewN _ _ _) (congrArg (World.drewN _) (Nat.add_assoc _ _ _))⟩)))
                    repeat (go_quiet (first | (go_at_call 20; (with_reducible refine (class_Of.calls k1 (rd l0 x9_1) a1 t167 _ A9.out).mono ?_); rintro e w' ⟨rfl, ⟨nd, rfl⟩⟩; (try first | exact ⟨rfl, _, World.drewN_drewN _ _ _⟩ | exact ⟨rfl, _, Eq.trans (World.drewN_drewN _ _ _) (congrArg (World.drewN _) (Nat.add_assoc _ _ _))⟩); have p168 : 0 ≤ ((ji10) : Int) := of_decide_eq_true (by first | (with_reducible assumption) | assumption); have q168 : (ji10) < (l0.length : Int) := of_decide_eq_true (by first | (with_reducible assumption) | assumption); obtain ⟨ad168, e168, hx168_0⟩ := Kd.at_int HR0.out (ji10) p168 q168; obtain rfl : ad166 = ad168 := (by injection e168); replace hx168_0 := (HB.out.cell (World.block_lt_of_cell? w _ hx168_0)).trans hx168_0; replace p168 := eq_true p168; replace q168 := eq_true q168) | (go_at_call 20; (with_reducible refine (class_Of.calls k1 (rd l0 (ji10)) a1 t169 _ A13.out).mono ?_); rintro e w' ⟨rfl, ⟨nd, rfl⟩⟩; (try first | exact ⟨rfl, _, World.drewN_drewN _ _ _⟩ | exact ⟨rfl, _, Eq.trans (World.drewN_drewN _ _ _) (congrArg (World.drewN _) (Nat.add_assoc _ _ _))⟩))); try go_wp2_with (first | (go_at_call 20; (with_reducible refine (class_Of.calls k1 (rd l0 x9_1) a1 t167 _ A9.out).mono ?_); rintro e w' ⟨rfl, ⟨nd, rfl⟩⟩; (try first | exact ⟨rfl, _, World.drewN_drewN _ _ _⟩ | exact ⟨rfl, _, Eq.trans (World.drewN_drewN _ _ _) (congrArg (World.drewN _) (Nat.add_assoc _ _ _))⟩); have p168 : 0 ≤ ((ji10) : Int) := of_decide_eq_true (by first | (with_reducible assumption) | assumption); have q168 : (ji10) < (l0.length : Int) := of_decide_eq_true (by first | (with_reducible assumption) | assumption); obtain ⟨ad168, e168, hx168_0⟩ := Kd.at_int HR0.out (ji10) p168 q168; obtain rfl : ad166 = ad168 := (by injection e168); replace hx168_0 := (HB.out.cell (World.block_lt_of_cell? w _ hx168_0)).trans hx168_0; replace p168 := eq_true p168; replace q168 := eq_true q168) | (go_at_call 20; (with_reducible refine (class_Of.calls k1 (rd l0 (ji10)) a1 t169 _ A13.out).mono ?_); rintro e w' ⟨rfl, ⟨nd, rfl⟩⟩; (try first | exact ⟨rfl, _, World.drewN_drewN _ _ _⟩ | exact ⟨rfl, _, Eq.trans (World.drewN_drewN _ _ _) (congrArg (World.drewN _) (Nat.add_assoc _ _ _))⟩))))
                    go_roundg k1
                    case measure => have := HK1.out; omega
                    case rel => exact ⟨(x5_1), (ji10), (by first | rfl | (simp; done) | (simp only [← hji10] <;> (first | rfl | simp)) | (simp [*]; done)), H', ⟨by have := HK1.out; omega⟩, ⟨by (with_reducible repeat (first | apply Kd.R_alloc | apply Kd.R_drewN | apply Kd.R_drew)); exact HO_5.out⟩, ⟨by repeat (first | (with_reducible first | exact HB.out | apply below_alloc | apply pw_below_drewN | apply below_drew1) | exact HB.out)⟩⟩
                  · rw [if_neg c14] at H
                    have c14b0 : (t167 == t169) = false := beq_eq_false_iff_ne.mpr c14
                    have c14b1 : (t167 != t169) = true := bne_iff_ne.mpr c14
                    by_cases c15 : x5_1.length < 17592186044416
                    · rw [if_pos c15] at H
                      have LMc15 := Aside0.mk c15
                      clear c15
                      obtain ⟨y170, hy170⟩ : ∃ y_ : List Int, y_ = (x5_1 ++ [ji10]) := ⟨_, rfl⟩
                      replace H : (class_Runs.l0 k1 l0 a1 y170 (l0.length : Int) ji10) = some r := by first | (rw [hy170]; with_reducible exact H) | (have H2_ := (Option.bind_some _ _).symm.trans H; rw [hy170]; with_reducible exact H2_) | (have H2_ := (Option.bind_some _ _).symm.trans H; with_reducible exact H2_) | with_reducible exact H | (rw [hy170]; exact H) | exact H
                      have Ny170 := Aside0.mk hy170
                      clear hy170
                      have H' := Aside0.mk H
                      clear H
                      have p166 : 0 ≤ (x9_1 : Int) := of_decide_eq_true (by first | (with_reducible assumption) | assumption)
                      have q166 : x9_1 < (l0.length : Int) := of_decide_eq_true (by first | (with_reducible assumption) | assumption)
                      obtain ⟨ad166, e166, hx166_0⟩ := Kd.at_int HR0.out x9_1 p166 q166
                      cases e166
                      replace hx166_0 := (HB.out.cell (World.block_lt_of_cell? w _ hx166_0)).trans hx166_0
                      replace p166 := eq_true p166
                      replace q166 := eq_true q166
                      go_wp2_with (first | (go_at_call 20; (with_reducible refine (class_Of.calls k1 (rd l0 x9_1) a1 t167 _ A9.out).mono ?_); rintro e w' ⟨rfl, ⟨nd, rfl⟩⟩; (try first | exact ⟨rfl, _, World.drewN_drewN _ _ _⟩ | exact ⟨rfl, _, Eq.trans (World.drewN_drewN _ _ _) (congrArg (World.drewN _) (Nat.add_assoc _ _ _))⟩); have p168 : 0 ≤ ((ji10) : Int) := of_decide_eq_true (by first | (with_reducible assumption) | assumption); have q168 : (ji10) < (l0.length : Int) := of_decide_eq_true (by first | (with_reducible assumption) | assumption); obtain ⟨ad168, e168, hx168_0⟩ := Kd.at_int HR0.out (ji10) p168 q168; obtain rfl : ad166 = ad168 := (by injection e168); replace hx168_0 := (HB.out.cell (World.block_lt_of_cell? w _ hx168_0)).trans hx168_0; replace p168 := eq_true p168; replace q168 := eq_true q168) | (go_at_call 20; (with_reducible refine (class_Of.calls k1 (rd l0 (ji10)) a1 t169 _ A13.out).mono ?_); rintro e w' ⟨rfl, ⟨nd, rfl⟩⟩; (try first | exact ⟨rfl, _, World.drewN_drewN _ _ _⟩ | exact ⟨rfl, _, Eq.trans (World.drewN_drewN _ _ _) (congrArg (World.drewN _) (Nat.add_assoc _ _ _))⟩)) | ((with_reducible refine gate_builtin (b := .append) (xs := #[.tmp 33, .tmp 36]) rfl ?_); at_builtin; refine Kd.R_append (Kd.int .i64) (w0 := w) w.heap.size rfl (.tmp 33) (.tmp 36) 47 3 (.int .i64 0) 8 rfl Tryd.underlying47 info3 rfl (by decide) (by omega) u5 x5_1 ji10 [.int .i64 ji10] (fun _ => True) (fun _ => False) rfl rfl ?aP (fun _ hk => hk.elim) ?aF ?aO ?aB ?aS ?aL ?_; (case aP => exact rfl); (case aB => exact (by repeat (first | (with_reducible first | exact HB.out | apply below_alloc | apply pw_below_drewN | apply below_drew1) | exact HB.out))); (case aF => exact (fun _ _ => trivial)); (case aO => exact (by (with_reducible repeat (first | apply Kd.R_alloc | apply Kd.R_drewN | apply Kd.R_drew)); exact HO_5.out)); (case aS => exact (below_size (by repeat (first | (with_reducible first | exact HB.out | apply below_alloc | apply pw_below_drewN | apply below_drew1) | exact HB.out)))); (case aL => have := LMc15.out; omega); intro v171 w16 ho hb hg hat; rw [← Ny170.out] at ho; have n0_ := Aside0.mk (hb); have n1_ := Aside0.mk (ho); clear HB; clear HO_5; have HB := n0_; have HO172 := n1_; clear n0_ n1_; clear ho hb hg hat))
                      repeat (go_quiet (first | (go_at_call 20; (with_reducible refine (class_Of.calls k1 (rd l0 x9_1) a1 t167 _ A9.out).mono ?_); rintro e w' ⟨rfl, ⟨nd, rfl⟩⟩; (try first | exact ⟨rfl, _, World.drewN_drewN _ _ _⟩ | exact ⟨rfl, _, Eq.trans (World.drewN_drewN _ _ _) (congrArg (World.drewN _) (Nat.add_assoc _ _ _))⟩); have p168 : 0 ≤ ((ji10) : Int) := of_decide_eq_true (by first | (with_reducible assumption) | assumption); have q168 : (ji10) < (l0.length : Int) := of_decide_eq_true (by first | (with_reducible assumption) | assumption); obtain ⟨ad168, e168, hx168_0⟩ := Kd.at_int HR0.out (ji10) p168 q168; obtain rfl : ad166 = ad168 := (by injection e168); replace hx168_0 := (HB.out.cell (World.block_lt_of_cell? w _ hx168_0)).trans hx168_0; replace p168 := eq_true p168; replace q168 := eq_true q168) | (go_at_call 20; (with_reducible refine (class_Of.calls k1 (rd l0 (ji10)) a1 t169 _ A13.out).mono ?_); rintro e w' ⟨rfl, ⟨nd, rfl⟩⟩; (try first | exact ⟨rfl, _, World.drewN_drewN _ _ _⟩ | exact ⟨rfl, _, Eq.trans (World.drewN_drewN _ _ _) (congrArg (World.drewN _) (Nat.add_assoc _ _ _))⟩)) | ((with_reducible refine gate_builtin (b := .append) (xs := #[.tmp 33, .tmp 36]) rfl ?_); at_builtin; refine Kd.R_append (Kd.int .i64) (w0 := w) w.heap.size rfl (.tmp 33) (.tmp 36) 47 3 (.int .i64 0) 8 rfl Tryd.underlying47 info3 rfl (by decide) (by omega) u5 x5_1 ji10 [.int .i64 ji10] (fun _ => True) (fun _ => False) rfl rfl ?aP (fun _ hk => hk.elim) ?aF ?aO ?aB ?aS ?aL ?_; (case aP => exact rfl); (case aB => exact (by repeat (first | (with_reducible first | exact HB.out | apply below_alloc | apply pw_below_drewN | apply below_drew1) | exact HB.out))); (case aF => exact (fun _ _ => trivial)); (case aO => exact (by (with_reducible repeat (first | apply Kd.R_alloc | apply Kd.R_drewN | apply Kd.R_drew)); exact HO_5.out)); (case aS => exact (below_size (by repeat (first | (with_reducible first | exact HB.out | apply below_alloc | apply pw_below_drewN | apply below_drew1) | exact HB.out)))); (case aL => have := LMc15.out; omega); intro v171 w16 ho hb hg hat; rw [← Ny170.out] at ho; have n0_ := Aside0.mk (hb); have n1_ := Aside0.mk (ho); clear HB; clear HO_5; have HB := n0_; have HO172 := n1_; clear n0_ n1_; clear ho hb hg hat)); try go_wp2_with (first | (go_at_call 20; (with_reducible refine (class_Of.calls k1 (rd l0 x9_1) a1 t167 _ A9.out).mono ?_); rintro e w' ⟨rfl, ⟨nd, rfl⟩⟩; (try first | exact ⟨rfl, _, World.drewN_drewN _ _ _⟩ | exact ⟨rfl, _, Eq.trans (World.drewN_drewN _ _ _) (congrArg (World.drewN _) (Nat.add_assoc _ _ _))⟩); have p168 : 0 ≤ ((ji10) : Int) := of_decide_eq_true (by first | (with_reducible assumption) | assumption); have q168 : (ji10) < (l0.length : Int) := of_decide_eq_true (by first | (with_reducible assumption) | assumption); obtain ⟨ad168, e168, hx168_0⟩ := Kd.at_int HR0.out (ji10) p168 q168; obtain rfl : ad166 = ad168 := (by injection e168); replace hx168_0 := (HB.out.cell (World.block_lt_of_cell? w _ hx168_0)).trans hx168_0; replace p168 := eq_true p168; replace q168 := eq_true q168) | (go_at_call 20; (with_reducible refine (class_Of.calls k1 (rd l0 (ji10)) a1 t169 _ A13.out).mono ?_); rintro e w' ⟨rfl, ⟨nd, rfl⟩⟩; (try first | exact ⟨rfl, _, World.drewN_drewN _ _ _⟩ | exact ⟨rfl, _, Eq.trans (World.drewN_drewN _ _ _) (congrArg (World.drewN _) (Nat.add_assoc _ _ _))⟩)) | ((with_reducible refine gate_builtin (b := .append) (xs := #[.tmp 33, .tmp 36]) rfl ?_); at_builtin; refine Kd.R_append (Kd.int .i64) (w0 := w) w.heap.size rfl (.tmp 33) (.tmp 36) 47 3 (.int .i64 0) 8 rfl Tryd.underlying47 info3 rfl (by decide) (by omega) u5 x5_1 ji10 [.int .i64 ji10] (fun _ => True) (fun _ => False) rfl rfl ?aP (fun _ hk => hk.elim) ?aF ?aO ?aB ?aS ?aL ?_; (case aP => exact rfl); (case aB => exact (by repeat (first | (with_reducible first | exact HB.out | apply below_alloc | apply pw_below_drewN | apply below_drew1) | exact HB.out))); (case aF => exact (fun _ _ => trivial)); (case aO => exact (by (with_reducible repeat (first | apply Kd.R_alloc | apply Kd.R_drewN | apply Kd.R_drew)); exact HO_5.out)); (case aS => exact (below_size (by repeat (first | (with_reducible first | exact HB.out | apply below_alloc | apply pw_below_drewN | apply below_drew1) | exact HB.out)))); (case aL => have := LMc15.out; omega); intro v171 w16 ho hb hg hat; rw [← Ny170.out] at ho; have n0_ := Aside0.mk (hb); have n1_ := Aside0.mk (ho); clear HB; clear HO_5; have HB := n0_; have HO172 := n1_; clear n0_ n1_; clear ho hb hg hat)))
                      go_roundg k1
                      case measure => have := HK1.out; omega
                      case rel => exact ⟨(y170), (ji10), (by first | rfl | (simp; done) | (simp only [← hji10] <;> (first | rfl | simp)) | (simp [*]; done)), H', ⟨by have := HK1.out; omega⟩, ⟨by (with_reducible repeat (first | apply Kd.R_alloc | apply Kd.R_drewN | apply Kd.R_drew)); exact HO172.out⟩, ⟨by repeat (first | (with_reducible first | exact HB.out | apply below_alloc | apply pw_below_drewN | apply below_drew1) | exact HB.out)⟩⟩
                    · rw [if_neg c15] at H
                      exact absurd H (by simp)
                · rw [if_neg c12] at H
                  exact absurd H (by simp)
              · rw [if_neg c11] at H
                exact absurd H (by simp)
            · rw [if_neg c8] at H
              exact absurd H (by simp)
          · rw [if_neg c7] at H
            exact absurd H (by simp)
      · rw [if_neg c3] at H
        have c3b0 : decide (x9_1 < (l0.length : Int)) = false := decide_eq_false c3
        clear c3
        obtain rfl := Option.some.inj H
        go_wp2
        repeat (go_quiet (fail); try go_wp2)
        go_ret
        exact ⟨_, by first | rfl | (simp [errW_none, errW_some] <;> rfl) | (simp [*, errW_none, errW_some] <;> rfl), by (with_reducible repeat (first | apply Kd.R_alloc | apply Kd.R_drewN | apply Kd.R_drew)); exact HO_5.out, by repeat (first | (with_reducible first | exact HB.out | apply below_alloc | apply pw_below_drewN | apply below_drew1) | exact HB.out)⟩

end Go.Proofs.YtffpkldphkmjmaaDoor.X
end
section
namespace Go.Proofs.YtffpkldphkmjmaaDoor.PT
open Go.RowKit Go.Proofs.YtffpkldphkmjmaaDoorW.PrintWords Go.Proofs.YtffpkldphkmjmaaDoorW.PrintMore
set_option linter.unusedVariables false
/-- One byte, and no other. -/
def lit (b : Int) : PTh := .single fun j => j == b.toNat
theorem rd_app (pre post : List Int) (b : Int) : rd (pre ++ b :: post) (pre.length : Int) = b := by
  unfold rd
  rw [Int.toNat_natCast, List.getD_eq_getElem?_getD, List.getElem?_append_right (Nat.le_refl _), Nat.sub_self]
  rfl
theorem rd_app1 (pre post : List Int) (b c : Int) : rd (pre ++ b :: c :: post) ((pre.length : Int) + 1) = c := by
  have h := rd_app (pre ++ [b]) post c
  rw [List.length_append, List.length_singleton, List.append_assoc] at h
  exact h
theorem special_no {b : Int} (h : ¬ special b = true) : b ≠ 92 ∧ b ≠ 46 ∧ b ≠ 42 ∧ b ≠ 91 ∧ b ≠ 93 ∧ b ≠ 94 ∧ b ≠ 36 := by
  unfold special at h
  simp only [Bool.or_eq_true, beq_iff_eq] at h
  omega
theorem special_yes {b : Int} (h : special b = true) : b = 92 ∨ b = 46 ∨ b = 42 ∨ b = 91 ∨ b = 93 ∨ b = 94 ∨ b = 36 := by
  unfold special at h
  simp only [Bool.or_eq_true, beq_iff_eq] at h
  omega
theorem quoteV_cons (b : Int) (s : List Int) : quoteV (b :: s) = (if special b = true then [92, b] else [b]) ++ quoteV s := by simp [quoteV]
/-- One byte of the text, read. -/
theorem next_plain {pre post : List Int} {b : Int} (l : List PTh) (h : ¬ special b = true) : nextV (pre ++ b :: post) pre.length l = (pre.length + 1, -1, l ++ [lit b]) := by
  obtain ⟨h1, h2, h3, h4, h5, h6, h7⟩ := special_no h
  unfold nextV
  rw [rd_app]
  rw [if_neg (fun h => h6 h.1), if_neg (fun h => h7 h.1), if_neg h2, if_neg h4, if_neg h3, if_neg h1]
  rfl
theorem next_masked {pre post : List Int} {b : Int} (l : List PTh) (h : b ≠ 60 ∧ b ≠ 62) : nextV (pre ++ 92 :: b :: post) pre.length l = (pre.length + 2, -1, l ++ [lit b]) := by
  unfold nextV
  rw [rd_app, rd_app1]
  rw [if_neg (fun h => by have := h.1; omega), if_neg (fun h => by have := h.1; omega), if_neg (by omega), if_neg (by omega), if_neg (by omega), if_pos rfl, if_neg (by simp), if_neg h.1, if_neg h.2]
  rfl
theorem compL_step {p : List Int} {d a : Nat} {l : List PTh} {a' : Nat} {l' : List PTh} (ha : a < p.length) (h : nextV p a l = (a', -1, l')) : compL p (d + 1) a l = compL p d a' l' := by
  conv => lhs; unfold compL
  rw [if_pos ha, h, if_neg (show ¬ ((-1 : Int) ≥ 0) by decide)]
/-- A quoted text, wherever it stands in a pattern: its bytes, one by one. -/
theorem comp_quote : ∀ (s pre post : List Int) (l : List PTh) (d : Nat), compL (pre ++ quoteV s ++ post) (s.length + d) pre.length l = compL (pre ++ quoteV s ++ post) d (pre.length + (quoteV s).length) (l ++ s.map lit) := by
  intro s
  induction s with
  | nil => intro pre post l d; simp [quoteV]
  | cons b s ih =>
    intro pre post l d
    rw [quoteV_cons]
    by_cases h : special b = true
    · rw [if_pos h]
      have hp : pre ++ ([92, b] ++ quoteV s) ++ post = pre ++ 92 :: b :: (quoteV s ++ post) := by simp
      have hp2 : pre ++ ([92, b] ++ quoteV s) ++ post = (pre ++ [92, b]) ++ quoteV s ++ post := by simp
      have hb : b ≠ 60 ∧ b ≠ 62 := by have := special_yes h; omega
      rw [show (b :: s).length + d = (s.length + d) + 1 from by rw [List.length_cons]; omega]
      rw [compL_step (a' := pre.length + 2) (l' := l ++ [lit b]) (by simp) (by rw [hp]; exact next_masked l hb)]
      have := ih (pre ++ [92, b]) post (l ++ [lit b]) d
      rw [← hp2] at this
      rw [show (pre ++ [92, b]).length = pre.length + 2 from by simp] at this
      rw [this]
      congr 1
      · simp; omega
      · simp
    · rw [if_neg h]
      have hp : pre ++ ([b] ++ quoteV s) ++ post = pre ++ b :: (quoteV s ++ post) := by simp
      have hp2 : pre ++ ([b] ++ quoteV s) ++ post = (pre ++ [b]) ++ quoteV s ++ post := by simp
      rw [show (b :: s).length + d = (s.length + d) + 1 from by rw [List.length_cons]; omega]
      rw [compL_step (a' := pre.length + 1) (l' := l ++ [lit b]) (by simp) (by rw [hp]; exact next_plain l h)]
      have := ih (pre ++ [b]) post (l ++ [lit b]) d
      rw [← hp2] at this
      rw [show (pre ++ [b]).length = pre.length + 1 from by simp] at this
      rw [this]
      congr 1
      · simp; omega
      · simp
theorem compile_quote {s : List Int} (h : (quoteV s).length ≤ 256) : compileV (quoteV s) = (some (s.map lit), 0, 0) := by
  have hl := (quoteV_len s).1
  have e := comp_quote s [] [] [] ((quoteV s).length + 1 - s.length)
  simp only [List.nil_append, List.append_nil, List.length_nil, Nat.zero_add] at e
  rw [show s.length + ((quoteV s).length + 1 - s.length) = (quoteV s).length + 1 from by omega] at e
  rw [compL_end (p := quoteV s) (a := (quoteV s).length) (Nat.lt_irrefl _)] at e
  unfold compileV
  rw [if_neg (by omega), e, if_neg (show ¬ ((-1 : Int) ≥ 0) by decide)]
/-- The text stands at a place. -/
def occ (line s : List Int) (i : Nat) : Prop := (line.drop i).take s.length = s
theorem occ_cons {line s : List Int} {b : Int} {i : Nat} : occ line (b :: s) i ↔ i < line.length ∧ rd line i = b ∧ occ line s (i + 1) := by
  unfold occ
  by_cases h : i < line.length
  · rw [List.drop_eq_getElem_cons h, List.length_cons, List.take_succ_cons]
    constructor
    · intro e
      injection e with e1 e2
      exact ⟨h, by unfold rd; rw [Int.toNat_natCast, List.getD_eq_getElem?_getD, List.getElem?_eq_getElem h]; exact e1, e2⟩
    · intro ⟨_, e1, e2⟩
      unfold rd at e1
      rw [Int.toNat_natCast, List.getD_eq_getElem?_getD, List.getElem?_eq_getElem h] at e1
      rw [e2, show line[i] = b from e1]
  · constructor
    · intro e
      rw [List.drop_eq_nil_of_le (by omega)] at e
      cases e
    · intro e; exact absurd e.1 h
theorem occ_fit {line s : List Int} {i : Nat} (h : occ line s i) (hi : i ≤ line.length) : i + s.length ≤ line.length := by
  have e := congrArg List.length h
  rw [List.length_take, List.length_drop] at e
  omega
theorem ends_lit (line : List Int) (hu : ∀ i, 0 ≤ rd line i ∧ rd line i ≤ 255) : ∀ (s : List Int), (∀ x ∈ s, 0 ≤ x ∧ x ≤ 255) → ∀ i : Nat, i ≤ line.length → (occ line s i → rd (endsV line (s.map lit)) (i : Int) = i + s.length) ∧ (¬ occ line s i → rd (endsV line (s.map lit)) (i : Int) = -1) := by
  intro s
  induction s with
  | nil =>
    intro _ i hi
    have e : rd (endsV line []) (i : Int) = (i : Int) := rd_gen _ (fun i : Nat => (i : Int)) (show i < line.length + 1 by omega)
    exact ⟨fun _ => by rw [List.map_nil, e]; simp, fun h => absurd (show occ line [] i by unfold occ; simp) h⟩
  | cons b s ih =>
    intro hs i hi
    have hb := hs b (by simp)
    have ih' := ih (fun x hx => hs x (by simp [hx]))
    have e : rd (endsV line ((b :: s).map lit)) (i : Int) = if i < line.length ∧ ((rd line (i : Int)).toNat == b.toNat) = true then rd (endsV line (s.map lit)) ((i : Int) + 1) else -1 :=
      rd_gen _ (fun i : Nat => if i < line.length ∧ ((rd line (i : Int)).toNat == b.toNat) = true then rd (endsV line (s.map lit)) ((i : Int) + 1) else -1) (show i < line.length + 1 by omega)
    have hui := hu (i : Int)
    have hbt : ((rd line (i : Int)).toNat == b.toNat) = true ↔ rd line i = b := by rw [beq_iff_eq]; omega
    rw [e, occ_cons]
    constructor
    · intro ⟨h1, h2, h3⟩
      rw [if_pos ⟨h1, hbt.2 h2⟩]
      have := (ih' (i + 1) (by omega)).1 h3
      rw [show ((i : Int) + 1) = ((i + 1 : Nat) : Int) from by omega, this, List.length_cons]
      omega
    · intro h
      by_cases h1 : i < line.length ∧ ((rd line (i : Int)).toNat == b.toNat) = true
      · rw [if_pos h1]
        have := (ih' (i + 1) (by omega)).2 (fun h3 => h ⟨h1.1, hbt.1 h1.2, h3⟩)
        rw [show ((i : Int) + 1) = ((i + 1 : Nat) : Int) from by omega, this]
      · rw [if_neg h1]
theorem quote_out {line : List Int} {pl : List PTh} {f : Int} (h : f < 0 ∨ f > line.length) : findV line pl f = (0, 0, false) := if_pos h
theorem quote_found {line s : List Int} (hu : ∀ i, 0 ≤ rd line i ∧ rd line i ≤ 255) (hs : ∀ x ∈ s, 0 ≤ x ∧ x ≤ 255) {f i : Nat} (hfi : f ≤ i) (hi : i ≤ line.length) (ho : occ line s i) (hno : ∀ j, f ≤ j → j < i → ¬ occ line s j) :
    findV line (s.map lit) f = ((i : Int), (i : Int) + s.length, true) := by
  have hE := ends_lit line hu s hs
  have hsp := find_spec line (s.map lit) f
  generalize findV line (s.map lit) (f : Int) = r at hsp
  obtain ⟨r1, r2, r3⟩ := r
  simp only at hsp
  cases r3 with
  | false =>
    have h2 := (hsp.2 rfl).2 (by omega) (i : Int) (by omega) (by omega)
    have h3 := (hE i hi).1 ho
    omega
  | true =>
    obtain ⟨h1, h2, h3, h4, h5, h6⟩ := hsp.1 rfl
    obtain ⟨a, rfl⟩ : ∃ a : Nat, r1 = (a : Int) := ⟨r1.toNat, by omega⟩
    have ha : a = i := by
      rcases Nat.lt_trichotomy a i with hlt | e | hlt
      · have := (hE a (by omega)).2 (hno a (by omega) hlt)
        omega
      · exact e
      · have h7 := h6 (i : Int) (by omega) (by omega)
        have := (hE i hi).1 ho
        omega
    subst ha
    have := (hE a (by omega)).1 ho
    rw [← h5] at this
    rw [this]
theorem quote_none {line s : List Int} (hu : ∀ i, 0 ≤ rd line i ∧ rd line i ≤ 255) (hs : ∀ x ∈ s, 0 ≤ x ∧ x ≤ 255) {f : Nat} (hf : f ≤ line.length) (hno : ∀ j, f ≤ j → j + s.length ≤ line.length → ¬ occ line s j) :
    findV line (s.map lit) f = (0, 0, false) := by
  have hE := ends_lit line hu s hs
  have hsp := find_spec line (s.map lit) f
  generalize findV line (s.map lit) (f : Int) = r at hsp ⊢
  obtain ⟨r1, r2, r3⟩ := r
  simp only at hsp
  cases r3 with
  | false => exact (hsp.2 rfl).1
  | true =>
    obtain ⟨h1, h2, h3, h4, h5, h6⟩ := hsp.1 rfl
    obtain ⟨a, rfl⟩ : ∃ a : Nat, r1 = (a : Int) := ⟨r1.toNat, by omega⟩
    have : ¬ occ line s a := fun ho => hno a (by omega) (occ_fit ho (by omega)) ho
    have := (hE a (by omega)).2 this
    omega
end Go.Proofs.YtffpkldphkmjmaaDoor.PT
end
section
namespace Go.Proofs.YtffpkldphkmjmaaDoor.PT
open Go.RowKit Go.Proofs.YtffpkldphkmjmaaDoorW.PrintWords Go.Proofs.YtffpkldphkmjmaaDoorW.PrintMore
set_option linter.unusedVariables false
/-- The kind of a byte of a line. -/
def clW (line : List Int) (i : Nat) : Int := (X.class_Of.f 1 (rd line i) false).getD 0
theorem clW_ev {line : List Int} (hu : ∀ i, 0 ≤ rd line i ∧ rd line i ≤ 255) (i : Nat) : ∀ k, 1 ≤ k → X.class_Of.f k (rd line i) false = some (clW line i) := by
  obtain ⟨r, hr⟩ := class_all (rd line i) false (hu i)
  have e : clW line i = r := by unfold clW; rw [hr]; rfl
  rw [e]
  intro k hk
  induction k with
  | zero => omega
  | succ k ih =>
    rcases Nat.eq_zero_or_pos k with h | h
    · subst h; exact hr
    · exact X.class_Of.mono _ _ k r (ih h)
theorem isW_cl {line : List Int} (hu : ∀ i, 0 ≤ rd line i ∧ rd line i ≤ 255) {i : Nat} (hi : i < line.length) : isW line i = true ↔ clW line i = 2 := by
  unfold isW
  rw [decide_eq_true (show (0 : Int) ≤ i by omega), decide_eq_true (show (i : Int) < line.length by omega), clW_ev hu i 1 (Nat.le_refl _)]
  simp
/-- The ends of a line's runs, from a run's beginning on. -/
def RunsL (line : List Int) : Nat → List Int → Prop
  | f, [] => f = line.length
  | f, e :: R => ∃ m : Nat, e = (m : Int) ∧ f < m ∧ m ≤ line.length ∧ (∀ i, f ≤ i → i < m → clW line i = clW line f) ∧ (m < line.length → clW line m ≠ clW line f) ∧ RunsL line m R
theorem runs_scan {line : List Int} (hu : ∀ i, 0 ≤ rd line i ∧ rd line i ≤ 255) (hn : line.length ≤ 1048576) : ∀ (d i f k : Nat) (acc : List Int), i + d = line.length → f ≤ i → (i = line.length → f = line.length) → (∀ j, f ≤ j → j ≤ i → j < line.length → clW line j = clW line f) → d + 2 ≤ k → acc.length ≤ i →
    ∃ R, RunsL line f R ∧ X.class_Runs.l0 k line false acc (line.length : Int) (i : Int) = some (acc ++ R) := by
  intro d
  induction d with
  | zero =>
    intro i f k acc hi hf he hc hk ha
    obtain ⟨k, rfl⟩ : ∃ k', k = k' + 1 := ⟨k - 1, by omega⟩
    refine ⟨[], he (by omega), ?_⟩
    unfold X.class_Runs.l0
    rw [if_neg (by omega), List.append_nil]
  | succ d ih =>
    intro i f k acc hi hf he hc hk ha
    obtain ⟨k, rfl⟩ : ∃ k', k = k' + 1 := ⟨k - 1, by omega⟩
    have ew : wrap64 ((i : Int) + 1) = ((i + 1 : Nat) : Int) := by unfold wrap64; omega
    unfold X.class_Runs.l0
    rw [if_pos (by omega), ew]
    by_cases hl : i + 1 = line.length
    · rw [if_pos (by omega), if_pos (by omega)]
      obtain ⟨R, h1, h2⟩ := ih (i + 1) (i + 1) k (acc ++ [((i + 1 : Nat) : Int)]) (by omega) (Nat.le_refl _) (fun h => h) (fun j h1 h2 h3 => by omega) (by omega) (by rw [List.length_append, List.length_singleton]; omega)
      refine ⟨((i + 1 : Nat) : Int) :: R, ⟨i + 1, rfl, by omega, by omega, fun j h3 h4 => hc j h3 (by omega) (by omega), fun h => by omega, h1⟩, ?_⟩
      rw [h2]
      simp
    · rw [if_neg (by omega), if_pos (by omega), if_pos (by omega), clW_ev hu i k (by omega), Option.bind_some, if_pos (by omega), if_pos (by omega), clW_ev hu (i + 1) k (by omega), Option.bind_some]
      have hci := hc i hf (Nat.le_refl _) (by omega)
      by_cases hq : clW line i = clW line (i + 1)
      · rw [if_pos hq]
        refine ih (i + 1) f k acc (by omega) (by omega) (fun h => absurd h hl) (fun j h1 h2 h3 => ?_) (by omega) (by omega)
        rcases Nat.lt_or_ge j (i + 1) with h4 | h4
        · exact hc j h1 (by omega) h3
        · rw [show j = i + 1 from by omega, ← hq, hci]
      · rw [if_neg hq, if_pos (by omega)]
        obtain ⟨R, h1, h2⟩ := ih (i + 1) (i + 1) k (acc ++ [((i + 1 : Nat) : Int)]) (by omega) (Nat.le_refl _) (fun h => h) (fun j h1 h2 h3 => by rw [show j = i + 1 from by omega]) (by omega) (by rw [List.length_append, List.length_singleton]; omega)
        refine ⟨((i + 1 : Nat) : Int) :: R, ⟨i + 1, rfl, by omega, by omega, fun j h3 h4 => hc j h3 (by omega) (by omega), fun h e => hq (by rw [hci, e]), h1⟩, ?_⟩
        rw [h2]
        simp
theorem runs_all {line : List Int} (hu : ∀ i, 0 ≤ rd line i ∧ rd line i ≤ 255) (hn : line.length ≤ 1048576) : ∃ R, RunsL line 0 R ∧ X.class_Runs.f (line.length + 2) line false = some R := by
  obtain ⟨R, h1, h2⟩ := runs_scan hu hn line.length 0 0 (line.length + 2) [] (by omega) (Nat.le_refl _) (fun h => h) (fun j _ h2 _ => by rw [show j = 0 from by omega]) (Nat.le_refl _) (Nat.le_refl _)
  exact ⟨R, h1, by simpa [X.class_Runs.f] using h2⟩
theorem runs_len {line : List Int} : ∀ (R : List Int) (f : Nat), RunsL line f R → f + R.length ≤ line.length := by
  intro R
  induction R with
  | nil => intro f h; have : f = line.length := h; simp; omega
  | cons e R ih =>
    intro f h
    obtain ⟨m, _, h1, _, _, _, h2⟩ := h
    have := ih m h2
    rw [List.length_cons]
    omega
/-- A text that stands whole at a place of a line. -/
def whole (line s : List Int) (a : Nat) : Prop := occ line s a ∧ isW line a = true ∧ isW line ((a : Int) - 1) = false ∧ isW line ((a : Int) + s.length - 1) = true ∧ isW line ((a : Int) + s.length) = false
theorem next_opens (post : List Int) : nextV (92 :: 60 :: post) 0 [] = (2, -1, [.opens]) := by
  have h0 := rd_app [] (60 :: post) 92
  have h1 := rd_app1 [] post 92 60
  simp only [List.nil_append, List.length_nil] at h0 h1
  unfold nextV
  rw [h0, if_neg (fun h => by have := h.1; omega), if_neg (fun h => by have := h.1; omega), if_neg (by omega), if_neg (by omega), if_neg (by omega), if_pos rfl, if_neg (by simp), h1, if_pos rfl]
  rfl
theorem next_closes (pre : List Int) (l : List PTh) : nextV (pre ++ [92, 62]) pre.length l = (pre.length + 2, -1, l ++ [.closes]) := by
  have h0 := rd_app pre [62] 92
  have h1 := rd_app1 pre [] 92 62
  unfold nextV
  rw [h0, if_neg (fun h => by have := h.1; omega), if_neg (fun h => by have := h.1; omega), if_neg (by omega), if_neg (by omega), if_neg (by omega), if_pos rfl, if_neg (by simp), h1, if_neg (by omega), if_pos rfl]
def wordP (s : List Int) : List PTh := .opens :: (s.map lit ++ [.closes])
theorem compile_word {s : List Int} (h : ([92, 60] ++ quoteV s ++ [92, 62]).length ≤ 256) : compileV ([92, 60] ++ quoteV s ++ [92, 62]) = (some (wordP s), 0, 0) := by
  have hl := (quoteV_len s).1
  have hlen : ([92, 60] ++ quoteV s ++ [92, 62]).length = (quoteV s).length + 4 := by simp
  have e1 : compL ([92, 60] ++ quoteV s ++ [92, 62]) (([92, 60] ++ quoteV s ++ [92, 62]).length + 1) 0 [] = compL ([92, 60] ++ quoteV s ++ [92, 62]) (s.length + ((quoteV s).length + 4 - s.length)) 2 [.opens] := by
    have hnx : nextV ([92, 60] ++ quoteV s ++ [92, 62]) 0 [] = (2, -1, [.opens]) := by
      rw [show [92, 60] ++ quoteV s ++ [92, 62] = 92 :: 60 :: (quoteV s ++ [92, 62]) from by simp]
      exact next_opens _
    rw [hlen, compL_step (by rw [hlen]; omega) hnx]
    congr 1
    omega
  have e2 := comp_quote s [92, 60] [92, 62] [.opens] ((quoteV s).length + 4 - s.length)
  have e3 := next_closes ([92, 60] ++ quoteV s) ([.opens] ++ s.map lit)
  have hpl : ([92, 60] ++ quoteV s).length = 2 + (quoteV s).length := by simp; omega
  rw [hpl] at e3
  obtain ⟨d, hd⟩ : ∃ d, (quoteV s).length + 4 - s.length = d + 1 := ⟨(quoteV s).length + 3 - s.length, by omega⟩
  have e4 : compL ([92, 60] ++ quoteV s ++ [92, 62]) (d + 1) (2 + (quoteV s).length) ([.opens] ++ s.map lit) = (-1, wordP s) := by
    rw [compL_step (by rw [hlen]; omega) e3, compL_end (by rw [hlen]; omega)]
    rfl
  rw [hd] at e1 e2
  rw [show ([92, 60] : List Int).length = 2 from rfl] at e2
  rw [e2, e4] at e1
  unfold compileV
  rw [if_neg (by omega), e1, if_neg (show ¬ ((-1 : Int) ≥ 0) by decide)]
theorem ends_lit2 (line : List Int) (hu : ∀ i, 0 ≤ rd line i ∧ rd line i ≤ 255) (E : List Int) : ∀ (s : List Int), (∀ x ∈ s, 0 ≤ x ∧ x ≤ 255) → ∀ i : Nat, i ≤ line.length → (occ line s i → rd ((s.map lit).foldr (stepV line) E) (i : Int) = rd E ((i : Int) + s.length)) ∧ (¬ occ line s i → rd ((s.map lit).foldr (stepV line) E) (i : Int) = -1) := by
  intro s
  induction s with
  | nil =>
    intro _ i hi
    exact ⟨fun _ => by simp, fun h => absurd (show occ line [] i by unfold occ; simp) h⟩
  | cons b s ih =>
    intro hs i hi
    have hb := hs b (by simp)
    have ih' := ih (fun x hx => hs x (by simp [hx]))
    have e : rd (((b :: s).map lit).foldr (stepV line) E) (i : Int) = if i < line.length ∧ ((rd line (i : Int)).toNat == b.toNat) = true then rd ((s.map lit).foldr (stepV line) E) ((i : Int) + 1) else -1 :=
      rd_gen _ (fun i : Nat => if i < line.length ∧ ((rd line (i : Int)).toNat == b.toNat) = true then rd ((s.map lit).foldr (stepV line) E) ((i : Int) + 1) else -1) (show i < line.length + 1 by omega)
    have hui := hu (i : Int)
    have hbt : ((rd line (i : Int)).toNat == b.toNat) = true ↔ rd line i = b := by rw [beq_iff_eq]; omega
    rw [e, occ_cons]
    constructor
    · intro ⟨h1, h2, h3⟩
      rw [if_pos ⟨h1, hbt.2 h2⟩]
      have := (ih' (i + 1) (by omega)).1 h3
      rw [show ((i : Int) + 1) = ((i + 1 : Nat) : Int) from by omega, this, List.length_cons]
      congr 1
      omega
    · intro h
      by_cases h1 : i < line.length ∧ ((rd line (i : Int)).toNat == b.toNat) = true
      · rw [if_pos h1]
        have := (ih' (i + 1) (by omega)).2 (fun h3 => h ⟨h1.1, hbt.1 h1.2, h3⟩)
        rw [show ((i : Int) + 1) = ((i + 1 : Nat) : Int) from by omega, this]
      · rw [if_neg h1]
/-- What a word's pattern finds at a place. -/
theorem ends_word {line s : List Int} (hu : ∀ i, 0 ≤ rd line i ∧ rd line i ≤ 255) (hs : ∀ x ∈ s, 0 ≤ x ∧ x ≤ 255) {a : Nat} (ha : a ≤ line.length) : (whole line s a → rd (endsV line (wordP s)) (a : Int) = a + s.length) ∧ (¬ whole line s a → rd (endsV line (wordP s)) (a : Int) = -1) := by
  have e0 : endsV line (wordP s) = mask ((s.map lit).foldr (stepV line) (mask (endsI line) (fW line .closes) line.length)) (fW line .opens) line.length := by
    unfold endsV wordP
    rw [List.foldr_cons, List.foldr_append]
    rfl
  have h1 := ends_lit2 line hu (mask (endsI line) (fW line .closes) line.length) s hs a ha
  rw [e0, mask_rd (by omega)]
  unfold whole
  have hf : fW line .opens (a : Int) = (isW line a && !isW line ((a : Int) - 1)) := rfl
  have h2 : occ line s a → rd (mask (endsI line) (fW line .closes) line.length) ((a : Int) + s.length) = if (isW line ((a : Int) + s.length - 1) && !isW line ((a : Int) + s.length)) = true then (a : Int) + s.length else -1 := fun ho => by
    have hfit := occ_fit ho ha
    have := mask_rd (E := endsI line) (f := fW line .closes) (n := line.length) (j := a + s.length) (by omega)
    rw [Int.natCast_add] at this
    rw [this]
    have h3 : rd (endsI line) ((a : Int) + s.length) = (a : Int) + s.length := by
      have := rd_gen (line.length + 1) (fun i : Nat => (i : Int)) (show a + s.length < line.length + 1 by omega)
      rw [Int.natCast_add] at this
      exact this
    rw [h3]
    rfl
  rw [hf]
  constructor
  · intro ⟨ho, w1, w2, w3, w4⟩
    rw [if_pos (by rw [w1, w2]; rfl), h1.1 ho, h2 ho, if_pos (by rw [w3, w4]; rfl)]
  · intro hn
    by_cases ho : occ line s a
    · rw [h1.1 ho, h2 ho]
      by_cases w1 : (isW line a && !isW line ((a : Int) - 1)) = true
      · rw [if_pos w1, if_neg (fun w2 => hn ?_)]
        simp only [Bool.and_eq_true, Bool.not_eq_true'] at w1 w2
        exact ⟨ho, w1.1, w1.2, w2.1, w2.2⟩
      · rw [if_neg w1]
    · rw [h1.2 ho, ite_self]
end Go.Proofs.YtffpkldphkmjmaaDoor.PT
end
section
namespace Go.Proofs.YtffpkldphkmjmaaDoor.PT
open Go.RowKit Go.Proofs.YtffpkldphkmjmaaDoorW.PrintWords Go.Proofs.YtffpkldphkmjmaaDoorW.PrintMore
set_option linter.unusedVariables false
theorem allE_none {E : List Int} {k : Nat} (h : ∀ a : Nat, k ≤ a → a < E.length → rd E (a : Int) = -1) (d : Nat) : allE E d (k : Int) = [] := by
  cases d with
  | zero => rfl
  | succ d =>
    rw [allE_step]
    have hs := first_spec E (E.length + 2) (k : Int) (by omega) (by omega)
    generalize firstV E (E.length + 2) (k : Int) = r at hs ⊢
    cases e : r.2 with
    | false => rw [if_neg (by simp)]
    | true =>
      obtain ⟨h1, h2, h3, h4⟩ := hs.1 e
      have := h r.1.toNat (by omega) (by omega)
      rw [show ((r.1.toNat : Nat) : Int) = r.1 from by omega] at this
      omega
theorem allE_skip {E : List Int} {f m : Nat} (hfm : f ≤ m) (h : ∀ a : Nat, f ≤ a → a < m → rd E (a : Int) = -1) (d : Nat) : allE E d (f : Int) = allE E d (m : Int) := by
  cases d with
  | zero => rfl
  | succ d =>
    rw [allE_step, allE_step]
    have hs := first_spec E (E.length + 2) (f : Int) (by omega) (by omega)
    have ht := first_spec E (E.length + 2) (m : Int) (by omega) (by omega)
    generalize firstV E (E.length + 2) (f : Int) = r at hs ⊢
    generalize firstV E (E.length + 2) (m : Int) = u at ht ⊢
    cases e : r.2 with
    | false =>
      cases e2 : u.2 with
      | false => rw [if_neg (by simp), if_neg (by simp)]
      | true =>
        obtain ⟨h1, h2, h3, h4⟩ := ht.1 e2
        have := (hs.2 e).2 u.1 (by omega) h2
        omega
    | true =>
      obtain ⟨h1, h2, h3, h4⟩ := hs.1 e
      have hge : (m : Int) ≤ r.1 := by
        rcases Int.lt_or_le r.1 m with h5 | h5
        · have := h r.1.toNat (by omega) (by omega)
          rw [show ((r.1.toNat : Nat) : Int) = r.1 from by omega] at this
          omega
        · exact h5
      cases e2 : u.2 with
      | false =>
        have := (ht.2 e2).2 r.1 hge h2
        omega
      | true =>
        obtain ⟨k1, k2, k3, k4⟩ := ht.1 e2
        have hru : r.1 = u.1 := by
          rcases Int.lt_trichotomy r.1 u.1 with h5 | h5 | h5
          · have := k4 r.1 hge h5; omega
          · exact h5
          · have := h4 u.1 (by omega) h5; omega
        rw [if_pos rfl, if_pos rfl, hru]
theorem allE_hit {E : List Int} {f : Nat} {e : Int} (hf : f < E.length) (h : rd E (f : Int) = e) (he : (f : Int) < e) (d : Nat) : allE E (d + 1) (f : Int) = ((f : Int), e) :: allE E d e := by
  rw [allE_step]
  have hs := first_spec E (E.length + 2) (f : Int) (by omega) (by omega)
  generalize firstV E (E.length + 2) (f : Int) = r at hs ⊢
  cases e2 : r.2 with
  | false =>
    have := (hs.2 e2).2 (f : Int) (by omega) (by omega)
    omega
  | true =>
    obtain ⟨h1, h2, h3, h4⟩ := hs.1 e2
    have : r.1 = (f : Int) := by
      rcases Int.lt_or_eq_of_le h1 with h5 | h5
      · have := h4 (f : Int) (by omega) h5; omega
      · exact h5.symm
    rw [if_pos rfl, this, h, Int.max_eq_left (by omega)]
theorem allE_first {E : List Int} {m d : Nat} {x : Int × Int} {l : List (Int × Int)} (h : allE E d (m : Int) = x :: l) : (m : Int) ≤ x.1 := by
  cases d with
  | zero => cases h
  | succ d =>
    rw [allE_step] at h
    have hs := first_spec E (E.length + 2) (m : Int) (by omega) (by omega)
    generalize firstV E (E.length + 2) (m : Int) = r at hs h
    cases e : r.2 with
    | false => rw [e, if_neg (by simp)] at h; cases h
    | true =>
      rw [e, if_pos rfl] at h
      injection h with h1 h2
      rw [← h1]
      exact (hs.1 e).1
/-- A run's first place, from the left. -/
def leftW (line : List Int) (f : Nat) : Prop := f = 0 ∨ clW line (f - 1) ≠ clW line f
theorem isW_off {line : List Int} {i : Int} (h : i < 0 ∨ (line.length : Int) ≤ i) : isW line i = false := by
  unfold isW
  rcases h with h | h
  · rw [decide_eq_false (by omega)]; rfl
  · rw [decide_eq_false (show ¬ i < (line.length : Int) by omega)]; simp
theorem occ_take {line s : List Int} {f m : Nat} (hm : m ≤ line.length) (hs : (line.take m).drop f = s) : occ line s f := by
  unfold occ
  rw [← hs, List.length_drop, List.length_take, List.drop_take, Nat.min_eq_left hm]
theorem occ_rd {line s : List Int} {a : Nat} (h : occ line s a) {j : Nat} (hj : j < s.length) : rd line ((a + j : Nat) : Int) = rd s (j : Int) := by
  unfold occ at h
  unfold rd
  rw [Int.toNat_natCast, Int.toNat_natCast, List.getD_eq_getElem?_getD, List.getD_eq_getElem?_getD]
  conv => rhs; rw [← h]
  rw [List.getElem?_take_of_lt hj, List.getElem?_drop]
/-- All letters. -/
def wordy (s : List Int) : Prop := ∀ j : Nat, j < s.length → X.class_Of.f 1 (rd s j) false = some 2
theorem occ_isW {line s : List Int} {a : Nat} (h : occ line s a) (ha : a ≤ line.length) (hw : wordy s) {j : Nat} (hj : j < s.length) : isW line ((a + j : Nat) : Int) = true := by
  have hf := occ_fit h ha
  unfold isW
  rw [decide_eq_true (show (0 : Int) ≤ ((a + j : Nat) : Int) by omega), decide_eq_true (show ((a + j : Nat) : Int) < line.length by omega), occ_rd h hj, hw j hj]
  simp
section
variable {line s : List Int} (hu : ∀ i, 0 ≤ rd line i ∧ rd line i ≤ 255) (hw : wordy s) (h0 : 0 < s.length)
variable {f m : Nat} (hfm : f < m) (hm : m ≤ line.length) (hsame : ∀ i, f ≤ i → i < m → clW line i = clW line f) (hend : m < line.length → clW line m ≠ clW line f) (hleft : leftW line f)
include hu hw h0 hfm hm hsame hend hleft
omit hw in
theorem run_word (hc : clW line f = 2) (hs : (line.take m).drop f = s) : whole line s f ∧ f + s.length = m := by
  have hl : f + s.length = m := by rw [← hs, List.length_drop, List.length_take]; omega
  refine ⟨⟨occ_take hm hs, (isW_cl hu (by omega)).2 hc, ?_, ?_, ?_⟩, hl⟩
  · rcases hleft with h | h
    · exact isW_off (by omega)
    · rcases Nat.eq_zero_or_pos f with h1 | h1
      · exact isW_off (by omega)
      · rw [show ((f : Int) - 1) = ((f - 1 : Nat) : Int) from by omega]
        rw [Bool.eq_false_iff]
        intro e
        exact h (by rw [(isW_cl hu (i := f - 1) (by omega)).1 e, hc])
  · rw [show ((f : Int) + s.length - 1) = ((m - 1 : Nat) : Int) from by omega]
    exact (isW_cl hu (by omega)).2 (by rw [hsame (m - 1) (by omega) (by omega), hc])
  · rw [show ((f : Int) + s.length) = ((m : Nat) : Int) from by omega]
    rcases Nat.lt_or_ge m line.length with h | h
    · rw [Bool.eq_false_iff]
      intro e
      exact hend h (by rw [(isW_cl hu h).1 e, hc])
    · exact isW_off (by omega)
theorem run_only {a : Nat} (ha : f ≤ a) (ham : a < m) (h : whole line s a) : a = f ∧ clW line f = 2 ∧ (line.take m).drop f = s := by
  obtain ⟨ho, h1, h2, h3, h4⟩ := h
  have hfit := occ_fit ho (by omega)
  have hca := (isW_cl hu (by omega)).1 h1
  have hcf : clW line f = 2 := by rw [← hsame a ha ham, hca]
  have haf : a = f := by
    rcases Nat.lt_or_ge f a with h5 | h5
    · have h6 := (isW_cl hu (show a - 1 < line.length by omega)).2 (by rw [hsame (a - 1) (by omega) (by omega), hcf])
      rw [show (((a - 1 : Nat)) : Int) = (a : Int) - 1 from by omega, h2] at h6
      cases h6
    · omega
  subst haf
  have hlen : a + s.length = m := by
    rcases Nat.lt_trichotomy (a + s.length) m with h5 | h5 | h5
    · have h6 := (isW_cl hu (show a + s.length < line.length by omega)).2 (by rw [hsame _ (by omega) h5, hcf])
      rw [show ((a + s.length : Nat) : Int) = (a : Int) + s.length from by omega, h4] at h6
      cases h6
    · exact h5
    · have h6 := occ_isW ho (by omega) hw (j := m - a) (by omega)
      rw [show a + (m - a) = m from by omega] at h6
      exact absurd (by rw [(isW_cl hu (i := m) (by omega)).1 h6, hcf]) (hend (by omega))
  refine ⟨rfl, hcf, ?_⟩
  rw [List.drop_take, show m - a = s.length from by omega]
  exact ho
end
end Go.Proofs.YtffpkldphkmjmaaDoor.PT
end
section
namespace Go.Proofs.YtffpkldphkmjmaaDoor.PT
open Go.RowKit Go.Proofs.YtffpkldphkmjmaaDoorW.PrintWords Go.Proofs.YtffpkldphkmjmaaDoorW.PrintMore
set_option linter.unusedVariables false
/-- A line of a text, and where it begins. -/
def Ln (t : List Int) (st : Nat) (line : List Int) : Prop := ∃ pre post, t = pre ++ line ++ post ∧ pre.length = st ∧ (pre = [] ∨ ∃ p, pre = p ++ [10]) ∧ (∀ x ∈ line, x ≠ 10) ∧ (post = [] ∨ ∃ p, post = 10 :: p)
theorem Ln_cons {t line : List Int} {st : Nat} (h : Ln t st line) : Ln (10 :: t) (st + 1) line := by
  obtain ⟨pre, post, h1, h2, h3, h4, h5⟩ := h
  refine ⟨10 :: pre, post, by rw [h1]; simp, by simp [h2], .inr ?_, h4, h5⟩
  rcases h3 with rfl | ⟨p, rfl⟩
  · exact ⟨[], rfl⟩
  · exact ⟨10 :: p, rfl⟩
theorem split_lines (t : List Int) : ∀ i, i < (X.splitR t).length → Ln t (tot ((X.splitR t).take i)) ((X.splitR t).getD i []) := by
  induction t with
  | nil =>
    intro i hi
    have : i = 0 := by simp [X.splitR] at hi; omega
    subst this
    exact ⟨[], [], rfl, rfl, .inl rfl, fun x hx => by simp [X.splitR] at hx, .inl rfl⟩
  | cons x t ih =>
    intro i hi
    by_cases h : x = 10
    · have e : X.splitR (x :: t) = [] :: X.splitR t := by
        conv => lhs; unfold X.splitR
        rw [if_pos h]
      rw [e] at hi ⊢
      subst h
      cases i with
      | zero => exact ⟨[], 10 :: t, rfl, rfl, .inl rfl, (fun x hx => by simp at hx), .inr ⟨t, rfl⟩⟩
      | succ i =>
        have := Ln_cons (ih i (by simpa using hi))
        rw [List.take_succ_cons, tot_cons, List.getD_cons_succ]
        rw [show ([] : List Int).length + 1 + tot ((X.splitR t).take i) = tot ((X.splitR t).take i) + 1 from by simp; omega]
        exact this
    · cases e0 : X.splitR t with
      | nil => exact absurd e0 (X.splitR_ne t)
      | cons p r =>
        have e : X.splitR (x :: t) = (x :: p) :: r := by
          conv => lhs; unfold X.splitR
          rw [if_neg h, e0]
        rw [e] at hi ⊢
        cases i with
        | zero =>
          have h0 := ih 0 (by rw [e0]; simp)
          rw [e0] at h0
          obtain ⟨pre, post, h1, h2, h3, h4, h5⟩ := h0
          have hp : pre = [] := List.eq_nil_of_length_eq_zero (by rw [h2]; rfl)
          subst hp
          refine ⟨[], post, by simp only [List.getD_cons_zero] at h1 ⊢; rw [h1]; simp, rfl, .inl rfl, fun y hy => ?_, h5⟩
          simp only [List.getD_cons_zero] at h4 hy
          rcases List.mem_cons.1 hy with e3 | e3
          · rw [e3]; exact h
          · exact h4 y e3
        | succ i =>
          have h0 := ih (i + 1) (by rw [e0]; simpa using hi)
          rw [e0, List.take_succ_cons, tot_cons, List.getD_cons_succ] at h0
          rw [List.take_succ_cons, tot_cons, List.getD_cons_succ]
          obtain ⟨pre, post, h1, h2, h3, h4, h5⟩ := h0
          refine ⟨x :: pre, post, by rw [h1]; simp, by simp only [List.length_cons, h2]; omega, .inr ?_, h4, h5⟩
          rcases h3 with rfl | ⟨p', rfl⟩
          · simp only [List.length_nil] at h2
            omega
          · exact ⟨x :: p', rfl⟩
theorem line_cover (t : List Int) : ∀ b : Nat, b < t.length → rd t (b : Int) ≠ 10 → ∃ i a, i < (X.splitR t).length ∧ a < ((X.splitR t).getD i []).length ∧ tot ((X.splitR t).take i) + a = b := by
  induction t with
  | nil => intro b h; simp at h
  | cons x t ih =>
    intro b hb h10
    have hrd : ∀ b' : Nat, rd (x :: t) ((b' + 1 : Nat) : Int) = rd t (b' : Int) := fun b' => by unfold rd; rw [Int.toNat_natCast, Int.toNat_natCast, List.getD_cons_succ]
    have h0 : rd (x :: t) ((0 : Nat) : Int) = x := rfl
    by_cases h : x = 10
    · have e : X.splitR (x :: t) = [] :: X.splitR t := by
        conv => lhs; unfold X.splitR
        rw [if_pos h]
      rw [e]
      cases b with
      | zero => rw [h0] at h10; exact absurd h h10
      | succ b =>
        rw [hrd] at h10
        obtain ⟨i, a, h1, h2, h3⟩ := ih b (by simpa using hb) h10
        refine ⟨i + 1, a, by simpa using h1, by simpa using h2, ?_⟩
        rw [List.take_succ_cons, tot_cons, List.length_nil]
        omega
    · cases e0 : X.splitR t with
      | nil => exact absurd e0 (X.splitR_ne t)
      | cons p r =>
        have e : X.splitR (x :: t) = (x :: p) :: r := by
          conv => lhs; unfold X.splitR
          rw [if_neg h, e0]
        rw [e]
        cases b with
        | zero => exact ⟨0, 0, by simp, by simp, by simp [tot]⟩
        | succ b =>
          rw [hrd] at h10
          obtain ⟨i, a, h1, h2, h3⟩ := ih b (by simpa using hb) h10
          rw [e0] at h1 h2 h3
          cases i with
          | zero => exact ⟨0, a + 1, by simp, by simpa using h2, by simp [tot] at h3 ⊢; omega⟩
          | succ i =>
            refine ⟨i + 1, a, by simpa using h1, by simpa using h2, ?_⟩
            rw [List.take_succ_cons, tot_cons] at h3 ⊢
            rw [List.length_cons]
            omega
theorem isW_nl {t : List Int} {i : Int} (h : rd t i = 10) : isW t i = false := by
  unfold isW
  rw [h, show X.class_Of.f 1 10 false = some 3 from rfl]
  simp
theorem isW_some {t : List Int} {i : Int} (h : isW t i = true) : 0 ≤ i ∧ i < t.length ∧ X.class_Of.f 1 (rd t i) false = some 2 := by
  unfold isW at h
  simp only [Bool.and_eq_true, decide_eq_true_eq, beq_iff_eq] at h
  exact ⟨h.1.1, h.1.2, h.2⟩
theorem whole_line {t line s : List Int} {st a : Nat} (h : Ln t st line) (ha : a < line.length) (h0 : 0 < s.length) (hw : wordy s) (hwh : whole t s (st + a)) : whole line s a := by
  obtain ⟨pre, post, rfl, rfl, h3, h4, h5⟩ := h
  have hlen : (pre ++ line ++ post).length = pre.length + line.length + post.length := by simp; omega
  obtain ⟨ho, w1, w2, w3, w4⟩ := hwh
  have hin : ∀ j : Nat, j < line.length → isW line (j : Int) = isW (pre ++ line ++ post) ((pre.length + j : Nat) : Int) := fun j hj => by
    have e : rd (pre ++ line ++ post) ((pre.length + j : Nat) : Int) = rd line (j : Int) := by
      unfold rd
      rw [Int.toNat_natCast, Int.toNat_natCast, List.append_assoc, List.getD_eq_getElem?_getD, List.getElem?_append_right (by omega), show pre.length + j - pre.length = j from by omega, List.getElem?_append_left (by omega), ← List.getD_eq_getElem?_getD]
    unfold isW
    rw [e, hlen, decide_eq_true (show (0 : Int) ≤ (j : Int) by omega), decide_eq_true (show (j : Int) < line.length by omega), decide_eq_true (show (0 : Int) ≤ ((pre.length + j : Nat) : Int) by omega), decide_eq_true (show ((pre.length + j : Nat) : Int) < ((pre.length + line.length + post.length : Nat) : Int) by omega)]
  have hout : isW (pre ++ line ++ post) ((pre.length + line.length : Nat) : Int) = false := by
    rcases h5 with rfl | ⟨p, rfl⟩
    · exact isW_off (.inr (by simp))
    · refine isW_nl ?_
      have := rd_app (pre ++ line) p 10
      rw [List.length_append] at this
      exact this
  have hall : ∀ j : Nat, j < s.length → isW (pre ++ line ++ post) ((pre.length + a + j : Nat) : Int) = true := fun j hj => occ_isW ho (by omega) hw hj
  have hfit : a + s.length ≤ line.length := by
    rcases Nat.lt_or_ge line.length (a + s.length) with h6 | h6
    · have := hall (line.length - a) (by omega)
      rw [show pre.length + a + (line.length - a) = pre.length + line.length from by omega, hout] at this
      cases this
    · exact h6
  refine ⟨?_, ?_, ?_, ?_, ?_⟩
  · unfold occ at ho ⊢
    rw [List.append_assoc, List.drop_append, List.drop_eq_nil_of_le (by omega), List.nil_append, show pre.length + a - pre.length = a from by omega, List.drop_append_of_le_length (by omega), List.take_append_of_le_length (by rw [List.length_drop]; omega)] at ho
    exact ho
  · rw [hin a ha]; exact w1
  · rcases Nat.eq_zero_or_pos a with h6 | h6
    · exact isW_off (by omega)
    · rw [show ((a : Int) - 1) = ((a - 1 : Nat) : Int) from by omega, hin _ (by omega), show ((pre.length + (a - 1) : Nat) : Int) = ((pre.length + a : Nat) : Int) - 1 from by omega]
      exact w2
  · rw [show ((a : Int) + s.length - 1) = ((a + s.length - 1 : Nat) : Int) from by omega, hin _ (by omega), show ((pre.length + (a + s.length - 1) : Nat) : Int) = ((pre.length + a : Nat) : Int) + s.length - 1 from by omega]
    exact w3
  · rcases Nat.lt_or_ge (a + s.length) line.length with h6 | h6
    · rw [show ((a : Int) + s.length) = ((a + s.length : Nat) : Int) from by omega, hin _ h6, show ((pre.length + (a + s.length) : Nat) : Int) = ((pre.length + a : Nat) : Int) + s.length from by omega]
      exact w4
    · exact isW_off (by omega)
theorem backU_spec (t : List Int) : ∀ a : Nat, (∀ i : Nat, backU t a ≤ i → i < a → isW t (i : Int) = true) ∧ isW t ((backU t a : Int) - 1) = false := by
  intro a
  induction a with
  | zero => exact ⟨fun i h1 h2 => by omega, isW_off (by unfold backU; omega)⟩
  | succ a ih =>
    unfold backU
    by_cases h : isW t (a : Int) = true
    · rw [if_pos h]
      refine ⟨fun i h1 h2 => ?_, ih.2⟩
      rcases Nat.lt_or_ge i a with h3 | h3
      · exact ih.1 i h1 h3
      · rw [show i = a from by omega]; exact h
    · rw [if_neg h]
      refine ⟨fun i h1 h2 => by omega, ?_⟩
      rw [show (((a + 1 : Nat) : Int) - 1) = (a : Int) from by omega]
      simpa using h
theorem endU_spec (t : List Int) : ∀ (d b : Nat), t.length ≤ b + d → (∀ i : Nat, b ≤ i → i < endU t d b → isW t (i : Int) = true) ∧ isW t (endU t d b : Int) = false := by
  intro d
  induction d with
  | zero => intro b hb; exact ⟨fun i h1 h2 => by unfold endU at h2; omega, isW_off (by unfold endU; omega)⟩
  | succ d ih =>
    intro b hb
    unfold endU
    by_cases h : isW t (b : Int) = true
    · rw [if_pos h]
      have := ih (b + 1) (by omega)
      refine ⟨fun i h1 h2 => ?_, this.2⟩
      rcases Nat.lt_or_ge b i with h3 | h3
      · exact this.1 i (by omega) h2
      · rw [show i = b from by omega]; exact h
    · rw [if_neg h]
      exact ⟨fun i h1 h2 => by omega, by simpa using h⟩
/-- What the word under a place is: letters, and whole in one of the lines. -/
theorem under_word {t w : List Int} {p : Int} (hu : ∀ x ∈ t, 0 ≤ x ∧ x ≤ 255) (h : underV t p = (w, 0)) : ∃ s, w = [92, 60] ++ quoteV s ++ [92, 62] ∧ ([92, 60] ++ quoteV s ++ [92, 62]).length ≤ 256 ∧ wordy s ∧ 0 < s.length ∧ (∀ x ∈ s, 0 ≤ x ∧ x ≤ 255) ∧ ∃ i a, i < (X.splitR t).length ∧ a < ((X.splitR t).getD i []).length ∧ whole ((X.splitR t).getD i []) s a := by
  unfold underV at h
  split at h
  · injection h with h1 h2; cases h2
  · split at h
    · injection h with h1 h2; cases h2
    · rename_i a hg
      obtain ⟨hpa, hat, hwa⟩ := goU_lt _ _ _ hg
      unfold finU at h
      split at h
      · injection h with h1 h2; cases h2
      · rename_i hle
        injection h with h1 h2
        obtain ⟨b1, b2⟩ := backU_spec t a
        obtain ⟨e1, e2⟩ := endU_spec t (t.length - a) a (by omega)
        have hb := backU_le t a
        have he := endU_le t (t.length - a) a
        unfold wordU at h1 hle
        generalize backU t a = b at b1 b2 hb h1 hle
        generalize endU t (t.length - a) a = e at e1 e2 he h1 hle
        have hae : a < e := by
          rcases Nat.lt_or_ge a e with h5 | h5
          · exact h5
          · rw [show (e : Int) = (a : Int) from by omega] at e2
            rw [hwa] at e2; cases e2
        have hall : ∀ i : Nat, b ≤ i → i < e → isW t (i : Int) = true := fun i h5 h6 => by
          rcases Nat.lt_or_ge i a with h7 | h7
          · exact b1 i h5 h7
          · exact e1 i h7 h6
        have hsl : ((t.take e).drop b).length = e - b := by rw [List.length_drop, List.length_take]; omega
        have hocc : occ t ((t.take e).drop b) b := occ_take (m := e) (by omega) rfl
        have hwy : wordy ((t.take e).drop b) := fun j hj => by
          rw [← occ_rd hocc hj]
          exact (isW_some (hall (b + j) (by omega) (by omega))).2.2
        have hwh : whole t ((t.take e).drop b) b := by
          refine ⟨hocc, hall b (Nat.le_refl _) (by omega), b2, ?_, ?_⟩
          · rw [hsl, show ((b : Int) + ((e - b : Nat) : Int) - 1) = ((e - 1 : Nat) : Int) from by omega]
            exact hall (e - 1) (by omega) (by omega)
          · rw [hsl, show ((b : Int) + ((e - b : Nat) : Int)) = (e : Int) from by omega]
            exact e2
        have hnt : rd t (b : Int) ≠ 10 := fun h5 => by
          have := hall b (Nat.le_refl _) (by omega)
          rw [isW_nl h5] at this
          cases this
        refine ⟨_, h1.symm, by omega, hwy, by omega, fun x hx => hu x (List.mem_of_mem_take (List.mem_of_mem_drop hx)), ?_⟩
        obtain ⟨i, a', k1, k2, k3⟩ := line_cover t b (by omega) hnt
        refine ⟨i, a', k1, k2, ?_⟩
        refine whole_line (split_lines t i k1) k2 (by omega) hwy ?_
        rw [k3]
        exact hwh
theorem quote_u8 {l : List Int} (h : ∀ x ∈ l, 0 ≤ x ∧ x ≤ 255) : ∀ x ∈ quoteV l, 0 ≤ x ∧ x ≤ 255 := by
  intro x hx
  unfold quoteV at hx
  obtain ⟨b, hb, hx⟩ := List.mem_flatMap.1 hx
  have := h b hb
  split at hx
  · rcases List.mem_cons.1 hx with e | e
    · omega
    · rw [List.mem_singleton.1 e]; exact this
  · rw [List.mem_singleton.1 hx]; exact this
theorem tot_mem {ls : List (List Int)} {l : List Int} (h : l ∈ ls) : l.length + 1 ≤ tot ls := by
  induction ls with
  | nil => cases h
  | cons x ls ih =>
    rw [tot_cons]
    rcases List.mem_cons.1 h with e | e
    · rw [e]; omega
    · have := ih e; omega
end Go.Proofs.YtffpkldphkmjmaaDoor.PT
end
section
namespace Go.Proofs.YtffpkldphkmjmaaDoor.PT
open Go.RowKit Go.Proofs.YtffpkldphkmjmaaDoorW.PrintWords Go.Proofs.YtffpkldphkmjmaaDoorW.PrintMore
set_option linter.unusedVariables false
theorem nums_back (l : List Int) (h : ∀ x ∈ l, 0 ≤ x ∧ x ≤ 255) : (strOfNums l).data.toList.map (fun b => (b.toNat : Int)) = l := by
  unfold strOfNums
  induction l with
  | nil => rfl
  | cons a l ih =>
    have h1 := h a (by simp)
    have h2 := ih (fun x hx => h x (by simp [hx]))
    simp only [List.map_cons, List.map_map] at h2 ⊢
    rw [h2]
    congr 1
    show ((a.toNat.toUInt8.toNat : Nat) : Int) = a
    rw [show a.toNat.toUInt8.toNat = a.toNat % 256 from rfl]
    omega
theorem str_inj {xs ys : List Int} (hx : ∀ x ∈ xs, 0 ≤ x ∧ x ≤ 255) (hy : ∀ x ∈ ys, 0 ≤ x ∧ x ≤ 255) (h : (strOfNums xs).toList = (strOfNums ys).toList) : xs = ys := by
  rw [ByteArray.toList_eq, ByteArray.toList_eq] at h
  rw [← nums_back xs hx, ← nums_back ys hy, h]
theorem str_ne {l : List Int} (h : 0 < l.length) : (strOfNums l).toList.isEmpty = false := by
  rw [ByteArray.toList_eq, show (strOfNums l).data.toList = l.map (fun n => UInt8.ofNat n.toNat) from rfl]
  cases l with
  | nil => simp at h
  | cons a l => rfl
theorem str_size (l : List Int) : (strOfNums l).size = l.length := by
  rw [← data_length, show (strOfNums l).data.toList = l.map (fun n => UInt8.ofNat n.toNat) from rfl, List.length_map]
theorem str_word (Q : List Int) : strOfNums ([92, 60] ++ Q ++ [92, 62]) = (⟨#[92, 60]⟩ ++ strOfNums Q) ++ ⟨#[92, 62]⟩ := by
  apply ByteArray.ext
  unfold strOfNums
  simp [ByteArray.data_append]
/-- A row of bytes made of a string. -/
theorem bytes_row (W : World) {s : List Int} (hs : ∀ x ∈ s, 0 ≤ x ∧ x ≤ 255) (hl : s.length ≤ 1048576) : ∃ c, s.length ≤ c ∧ (convert 9 22 (.string (strOfNums s))).run Tryd.prog W = .ok (.slice (some ⟨W.heap.size, 0, none⟩) s.length c) (Lib.bytesWorld W 5 (strOfNums s)) ∧ Kd.C (Kd.int .u8) (Lib.bytesWorld W 5 (strOfNums s)) (some ⟨W.heap.size, 0, none⟩) s.length s := by
  have h1 := print_bytes (P := Tryd.prog) 9 22 5 Tryd.underlying9 Tryd.underlying22 Tryd.underlying5 (strOfNums s) W
  have h2 := bytes_reads W 5 (strOfNums s) (by rw [str_size]; omega)
  rw [str_size] at h1 h2
  rw [show bytesOf (strOfNums s) = s from nums_back s hs] at h2
  refine ⟨_, grownCap_ge W s.length 0 5, h1, Kd.C_of_reads (enc := Value.int .u8) (d := (0 : Int)) (h1 := fun _ => rfl) ⟨rfl, by omega, fun hp => ?_⟩⟩
  obtain ⟨ad, e, hc⟩ := h2.2.2 hp
  exact ⟨ad, e, fun j hj => hc j hj⟩
end Go.Proofs.YtffpkldphkmjmaaDoor.PT
end
section
namespace Go.Proofs.YtffpkldphkmjmaaDoor.XO
open Go.RowKit Go.Proofs.YtffpkldphkmjmaaDoorW.PrintWords Go.Proofs.YtffpkldphkmjmaaDoor.X
def okS24 (x : S24) : Prop := (okSl 1 okU8) x.f0 ∧ (okSl 1 okU8) x.f1 ∧ okI64 x.f2 ∧ okI64 x.f3 ∧ okBool x.f4
def szS24 (x : S24) : Nat := ((szSl szOne) x.f0 + ((szSl szOne) x.f1 + (szOne x.f2 + (szOne x.f3 + szOne x.f4)))) + 1
theorem opens24 : Opens Tryd.prog 24 k24 okS24 szS24 := by
  have h := opens_iso (f := fun x : S24 => (x.f0, x.f1, x.f2, x.f3, x.f4)) (fun a => ⟨a.1, a.2.1, a.2.2.1, a.2.2.2.1, a.2.2.2.2⟩) (fun _ => rfl) (opens_struct Tryd.underlying24 (by kernel_rfl) (of_cons rfl (by kernel_rfl) (opens_sl (B := 1) Tryd.underlying22 (opens_u8 Tryd.underlying5) (by kernel_rfl) (by kernel_rfl)) (of_cons rfl (by kernel_rfl) (opens_sl (B := 1) Tryd.underlying22 (opens_u8 Tryd.underlying5) (by kernel_rfl) (by kernel_rfl)) (of_cons rfl (by kernel_rfl) (opens_i64 Tryd.underlying3) (of_cons rfl (by kernel_rfl) (opens_i64 Tryd.underlying3) (of_last rfl (by kernel_rfl) (opens_bool Tryd.underlying4)))))))
  exact h
end Go.Proofs.YtffpkldphkmjmaaDoor.XO
end
section
namespace Go.Proofs.YtffpkldphkmjmaaDoor.WalkHuntWords
open Go.RowKit Go.Proofs.YtffpkldphkmjmaaDoorW.PrintWords Go.Proofs.YtffpkldphkmjmaaDoorW.PrintMore Go.Proofs.YtffpkldphkmjmaaDoor.X Go.Proofs.YtffpkldphkmjmaaDoor.XO Go.Proofs.YtffpkldphkmjmaaDoor.PT
set_option linter.unusedVariables false
set_option linter.unusedSimpArgs false
theorem sum_len (l : List Int) : l.length ≤ (l.map szOne).sum := by
  induction l with
  | nil => simp
  | cons x l ih => have : szOne x = 1 := rfl; simp only [List.map_cons, List.sum_cons, List.length_cons]; omega
theorem u8_all (l : List Int) (h : okSl 1 okU8 l) : ∀ i, 0 ≤ rd l i ∧ rd l i ≤ 255 := rd_mem (P := fun x => 0 ≤ x ∧ x ≤ 255) l (fun x hx => h.2 x hx) (by decide)
theorem under_bad {t q : List Int} {p e : Int} (h : underV t p = (q, e)) (he : e ≠ 0) : q = [] ∧ (e = 1 ∨ e = 2 ∨ e = 120) := by
  unfold underV finU at h
  split at h
  · injection h with h1 h2; subst h1 h2; exact ⟨rfl, by simp⟩
  · split at h
    · injection h with h1 h2; subst h1 h2; exact ⟨rfl, by simp⟩
    · split at h
      · injection h with h1 h2; subst h1 h2; exact ⟨rfl, by simp⟩
      · injection h with h1 h2; exact absurd h2.symm he
/-- The word so far. -/
def wdV (b : Bool) (s : List Int) : Value := .string (if b = true then strOfNums s else ⟨#[]⟩)
set_option maxHeartbeats 8000000 in
set_option maxRecDepth 100000 in
theorem walk (A0 : Option Addr) (c0 : Nat) (t : List Int) (p0 : Int) (w : World) (hr0 : Kd.C (Kd.int .u8) w A0 t.length t) (hc0 : t.length ≤ c0) (o0 : (okSl 1 okU8) t) (o1 : okI64 p0) (hb : ((szSl szOne) t + szOne p0 ≤ 1048576)) :
    Calls Tryd.prog 7 #[.slice A0 t.length c0, .int .i64 p0] w fun e w' => e = .returned (.bool true) ∧ Below w.heap.size w w' := by
  have hl0 : t.length ≤ 1048576 := by have := sum_len t; unfold szSl at hb; omega
  have hu := u8_all t o0
  have hm : ∀ x ∈ t, 0 ≤ x ∧ x ≤ 255 := fun x hx => o0.2 x hx
  clear hb o0 o1
  have HA : ∀ W, Aside0 _ := fun W => ⟨awake_calls (w := W)⟩
  by_cases hbig : 5000 < t.length
  · have g1 : (5000 < (t.length : Int)) = True := eq_true (by omega)
    go_enter Tryd.func7, Tryd.ntmps7
    go_wp2_with (first
      | (go_at_call 9; (with_reducible refine (HA _).out.mono ?_); rintro e w1 ⟨rfl, hx⟩; have H1 := Aside0.mk hx; clear hx))
    exact bodyPost_ret (v := .bool true) (by simp [results, Tryd.results7, go_sem]) rfl ⟨rfl, H1.out⟩
  have g1 : (5000 < (t.length : Int)) = False := eq_false (by omega)
  have HU : Aside0 (∀ W, Below w.heap.size w W → Calls Tryd.prog 15 #[.slice A0 t.length c0, .int .i64 p0] W fun e w' => ∃ v, e = .returned (.tuple #[v, .int .i64 (underV t p0).2]) ∧ Below W.heap.size W w' ∧ (Kd.int .u8).R 5 w' W.heap.size (fun _ => True) v (underV t p0).1) := ⟨fun W h => under_calls (Kd.C_below hr0 h) hu (by omega) hc0⟩
  have hbad := fun (q : List Int) (e : Int) => under_bad (t := t) (p := p0) (q := q) (e := e)
  have hgood := fun (q : List Int) => under_word (t := t) (p := p0) (w := q) hm
  generalize underV t p0 = r at HU hbad hgood
  obtain ⟨q, f⟩ := r
  simp only at HU
  by_cases hf : f = 0
  case neg =>
    obtain ⟨rfl, he⟩ := hbad q f rfl hf
    clear hbad hgood hf hr0 hu hm
    rcases he with rfl | rfl | rfl
    all_goals
      go_enter Tryd.func7, Tryd.ntmps7
      go_wp2_with (first
        | (go_at_call 9; (with_reducible refine (HA _).out.mono ?_); rintro e w1 ⟨rfl, hx⟩; have H1 := Aside0.mk hx; clear hx)
        | (go_at_call 15; (with_reducible refine (HU.out _ H1.out).mono ?_); rintro e w2 ⟨v2, rfl, hx, hv⟩; have H2 := Aside0.mk (And.intro (below_step H1.out hx) hv); clear hx hv; obtain ⟨A2, c2, e2⟩ := Kd.R_slice H2.out.2; subst e2))
      exact bodyPost_ret (v := .bool true) (by simp [results, Tryd.results7, go_sem]) rfl ⟨rfl, H2.out.1⟩
  subst hf
  clear hbad
  obtain ⟨s, hq, hq256, hwy, hs0, hsu, hex⟩ := hgood q rfl
  clear hgood
  have hcv := compile_word hq256
  rw [← hq] at hcv hq256
  have hqu : ∀ x ∈ q, 0 ≤ x ∧ x ≤ 255 := by
    rw [hq]
    intro x hx
    rcases List.mem_append.1 hx with h | h
    · rcases List.mem_append.1 h with h | h
      · simp at h; omega
      · exact quote_u8 hsu x h
    · simp at h; omega
  have HQ := Aside0.mk hq
  clear hq
  have HC : Aside0 (∀ (W : World) (A : Option Addr) (c : Nat), Kd.C (Kd.int .u8) W A q.length q → Calls Tryd.prog 16 #[.slice A q.length c] W fun e w' => ∃ v, e = .returned (.tuple #[v, .int .i64 0, .int .i64 0]) ∧ Below W.heap.size W w' ∧ PatO w' W.heap.size v (some (wordP s))) := ⟨fun W A c h => by
    have h2 := compile_calls (c := c) h (rd_mem (P := fun x => 0 ≤ x ∧ x ≤ 255) q hqu (by decide))
    rw [hcv] at h2
    exact h2⟩
  clear hcv
  have HSP : Aside0 (∀ W, Below w.heap.size w W → Calls Tryd.prog 17 #[.slice A0 t.length c0] W fun e w' => ∃ v, e = .returned v ∧ Kd.S (Kd.slice 5 (Kd.int .u8)) 22 w' W.heap.size (fun _ => True) v (X.splitR t) ∧ Below W.heap.size W w') := ⟨fun W h => X.lines_Split.calls A0 c0 t (X.splitR t) W (Kd.C_below hr0 h) hc0 (by
    unfold X.lines_Split.f
    rw [if_pos (by
      unfold X.u8s
      rw [List.all_eq_true]
      intro x hx
      have := hm x hx
      simp; omega), if_pos (by omega)])⟩
  have htot := tot_split t
  have hby := split_bytes (P := fun x => 0 ≤ x ∧ x ≤ 255) t hm
  have hrl := tot_len (X.splitR t)
  have hln : ∀ l ∈ X.splitR t, l.length + 1 ≤ t.length + 1 := fun l hl => by
    rw [← htot]
    exact tot_mem hl
  have HEX := Aside0.mk hex
  clear hex hr0 hu hm hc0
  generalize X.splitR t = rows at HSP hby hln hrl htot HEX
  have HBY := Aside0.mk (And.intro hby (And.intro hln (And.intro hqu (And.intro hsu (And.intro hwy HQ.out)))))
  clear hby hln hqu hsu hwy HQ
  go_enter Tryd.func7, Tryd.ntmps7
  go_wp2_with (first
    | (go_at_call 9; (with_reducible refine (HA _).out.mono ?_); rintro e w1 ⟨rfl, hx⟩; have H1 := Aside0.mk hx; clear hx)
    | (go_at_call 15; (with_reducible refine (HU.out _ H1.out).mono ?_); rintro e w2 ⟨v2, rfl, hx, hv⟩; have H2 := Aside0.mk (And.intro (below_step H1.out hx) hv); clear hx hv; obtain ⟨A2, c2, e2⟩ := Kd.R_slice H2.out.2; subst e2)
    | (go_at_call 16; (with_reducible refine (HC.out _ _ _ (Kd.R_reads' H2.out.2).2.2).mono ?_); rintro e w3 ⟨v3, rfl, hx, hp⟩; have H3 := Aside0.mk (And.intro (below_step H2.out.1 hx) (And.intro hp (Kd.C_below (Kd.R_reads' H2.out.2).2.2 hx))); clear hx hp)
    | (go_at_call 17; (with_reducible refine (HSP.out _ H3.out.1).mono ?_); rintro e W4 ⟨v4, rfl, hv, hx⟩; have H4 := Aside0.mk (And.intro (below_step H3.out.1 hx) (And.intro (PatO_below H3.out.2.1 hx) (And.intro (Kd.C_below H3.out.2.2 hx) hv))); clear hx hv; obtain ⟨AS, cS, eS⟩ := Kd.R_slice (Kd.S_R H4.out.2.2.2); subst eS))
  have HK := Aside0.mk (Kd.R_reads' (Kd.S_R H4.out.2.2.2)).2.2
  clear HSP HC HU HA
  go_loopg [11, 12] 2 (fun g v11 v12 wl => ∃ (k : Nat) (b : Bool), k + g = 2 ∧ v12 = .int .i64 k ∧ v11 = wdV b s ∧ Aside0 (Below W4.heap.size W4 wl ∧ (b = true ∨ k = 0)))
  case atStart => exact ⟨0, false, by omega, rfl, rfl, ⟨Below.refl _ _, .inr rfl⟩⟩
  case round =>
    obtain ⟨k, b, hk, rfl, rfl, HL1⟩ := hrel
    cases gk with
    | zero =>
      have hbt : b = true := HL1.out.2.elim id (fun h => by omega)
      subst hbt
      rw [show wdV true s = .string (strOfNums s) from rfl]
      have hn0 := str_ne hs0
      have hsl : s.length ≤ 256 := by
        have h1 := (quoteV_len s).1
        have h2 := congrArg List.length HBY.out.2.2.2.2.2
        simp only [List.length_append, List.length_cons, List.length_nil] at h2
        omega
      have hql : (quoteV s).length ≤ 256 := by
        have h2 := congrArg List.length HBY.out.2.2.2.2.2
        simp only [List.length_append, List.length_cons, List.length_nil] at h2
        omega
      have kA := Kd.C_string (P := Tryd.prog) (c := c2) Tryd.underlying22 Tryd.underlying5 Tryd.underlying9 (Kd.C_drew (Kd.C_below H4.out.2.2.1 HL1.out.1))
      obtain ⟨cap, WB, hWB⟩ : ∃ (cap : Nat) (WB : World), s.length ≤ cap ∧ (convert 9 22 (.string (strOfNums s))).run Tryd.prog wr.drew = .ok (.slice (some ⟨wr.heap.size, 0, none⟩) s.length cap) WB ∧ Kd.C (Kd.int .u8) WB (some ⟨wr.heap.size, 0, none⟩) s.length s ∧ Below wr.heap.size wr WB := by
        obtain ⟨c, h1, h2, h3⟩ := bytes_row wr.drew HBY.out.2.2.2.1 (by omega)
        exact ⟨c, _, h1, h2, h3, bytes_below (pw_below_drewN (Below.refl _ _) 1) (Nat.le_refl _) 5 _⟩
      have kB := hWB.2.1
      have kA2 := Kd.C_string (P := Tryd.prog) (c := c2) Tryd.underlying22 Tryd.underlying5 Tryd.underlying9 (Kd.C_below (Kd.C_below H4.out.2.2.1 HL1.out.1) hWB.2.2.2)
      have HRQ := Aside0.mk (rquote_calls (c := cap) hWB.2.2.1 (rd_mem (P := fun x => 0 ≤ x ∧ x ≤ 255) s HBY.out.2.2.2.1 (by decide)) hWB.1 (by omega))
      have HWB := Aside0.mk hWB
      clear hWB
      have hqz : strOfNums q = (⟨#[92, 60]⟩ ++ strOfNums (quoteV s)) ++ ⟨#[92, 62]⟩ := by rw [HBY.out.2.2.2.2.2]; exact str_word _
      have hzs := str_size (quoteV s)
      rw [hqz] at kA kA2
      have z1 : (9223372036854775807 < 2 + (strOfNums (quoteV s)).size) = False := eq_false (by omega)
      have z2 : (9223372036854775807 < 2 + (strOfNums (quoteV s)).size + 2) = False := eq_false (by omega)
      clear hzs
      go_wp2
      go_region_with (go_at_call 21; (with_reducible refine HRQ.out.mono ?_); rintro e w7 ⟨v7, rfl, hr7, hx7⟩; obtain ⟨A7, c7, e7⟩ := Kd.R_slice hr7; subst e7; have kC := Kd.C_string (P := Tryd.prog) (c := c7) Tryd.underlying22 Tryd.underlying5 Tryd.underlying9 (Kd.R_reads' hr7).2.2; have kD := Kd.C_string (P := Tryd.prog) (c := c2) Tryd.underlying22 Tryd.underlying5 Tryd.underlying9 (Kd.C_below (Kd.C_below (Kd.C_below H4.out.2.2.1 HL1.out.1) HWB.out.2.2.2) hx7); rw [hqz] at kD; have H7 := Aside0.mk (below_step HWB.out.2.2.2 hx7); clear hr7 hx7)
      all_goals go_wp2
      all_goals exact bodyPost_ret (v := .bool true) (by simp [results, Tryd.results7, go_sem]) rfl ⟨rfl, below_step (below_step H4.out.1 HL1.out.1) H7.out⟩
    | succ g1 =>
      have q1 : ((k : Int) < 2) = True := eq_true (by omega)
      go_wp2
      go_loopg [11, 13] rows.length (fun g v11 v13 wl => ∃ (i : Nat) (b : Bool), i + g = rows.length ∧ v13 = .int .i64 i ∧ v11 = wdV b s ∧ Aside0 (Below W4.heap.size W4 wl ∧ (b = true ∨ (k = 0 ∧ ∀ i', i' < i → ∀ a, a < (rows.getD i' []).length → ¬ whole (rows.getD i' []) s a))))
      case atStart => exact ⟨0, b, by omega, rfl, rfl, ⟨HL1.out.1, HL1.out.2.imp id (fun h => ⟨h, fun i' h => by omega⟩)⟩⟩
      case round =>
        clear HL1
        obtain ⟨i, b, hi, rfl, rfl, HL2⟩ := hrel
        cases gk with
        | zero =>
          have hie : i = rows.length := by omega
          subst hie
          have hbt : b = true := HL2.out.2.elim id (fun h => by
            obtain ⟨i', a, h1, h2, h3⟩ := HEX.out
            exact absurd h3 (h.2 i' h1 a h2))
          subst hbt
          go_wp2
          go_roundg g1
          case measure => omega
          case rel => exact ⟨k + 1, true, by omega, by go_num, rfl, ⟨HL2.out.1, .inl rfl⟩⟩
        | succ g2 =>
          have hlt : i < rows.length := by omega
          obtain ⟨ad, A', c', rfl, hx, hlc, hC⟩ := line_of HK.out hlt
          have hmem : rows.getD i [] ∈ rows := by
            rw [List.getD_eq_getElem?_getD, List.getElem?_eq_getElem hlt]
            exact List.getElem_mem hlt
          have hll : (rows.getD i []).length ≤ 5000 := by have := HBY.out.2.1 _ hmem; omega
          have HB := Aside0.mk (rd_mem (P := fun x => 0 ≤ x ∧ x ≤ 255) (rows.getD i []) (HBY.out.1 _ hmem) (by decide))
          have HM := Aside0.mk (HBY.out.1 _ hmem)
          have HE2 := Aside0.mk HL2.out.2
          have HSTEP : Aside0 (∀ b' : Bool, (b' = true ∨ (k = 0 ∧ (∀ i', i' < i → ∀ a, a < (rows.getD i' []).length → ¬ whole (rows.getD i' []) s a) ∧ ∀ a, a < (rows.getD i []).length → ¬ whole (rows.getD i []) s a)) → (b' = true ∨ (k = 0 ∧ ∀ i', i' < i + 1 → ∀ a, a < (rows.getD i' []).length → ¬ whole (rows.getD i' []) s a))) := ⟨fun b' h => h.imp id (fun h => ⟨h.1, fun i' h1 a h2 => by
            rcases Nat.lt_or_ge i' i with h3 | h3
            · exact h.2.1 i' h3 a h2
            · have e : i' = i := by omega
              subst e
              exact h.2.2 a h2⟩)⟩
          generalize rows.getD i [] = line at hx hlc hC hll HB HM HSTEP
          clear hmem
          have hx0 := Aside0.mk hx
          replace hx := pw_cell_below HL2.out.1 hx
          have q2 : ((i : Int) < (rows.length : Int)) = True := eq_true (by omega)
          have q3 : (0 ≤ (i : Int)) = True := eq_true (by omega)
          obtain ⟨R, hR1, hR2⟩ := runs_all HB.out (by omega)
          have hRl := runs_len R 0 hR1
          have HR1 := Aside0.mk hR1
          have HC0 := Aside0.mk hC
          have HRN := Aside0.mk (X.class_Runs.calls (line.length + 2) A' c' line false R wr (Kd.C_below hC HL2.out.1) hlc hR2)
          have HAL : Aside0 (∀ W, Below W4.heap.size W4 W → Calls Tryd.prog 19 #[v3, .slice A' line.length c'] W fun e w' => ∃ v, e = .returned v ∧ Below W.heap.size W w' ∧ kP.R 52 w' W.heap.size (fun _ => True) v (allV line (wordP s))) := ⟨fun W h => all_calls (Kd.C_below HC0.out h) HB.out (by omega) hlc (PatO_below H4.out.2.1 h)⟩
          have HV := Aside0.mk (show allV line (wordP s) = allE (endsV line (wordP s)) (line.length + 2) ((0 : Nat) : Int) from rfl)
          have HEN := Aside0.mk (fun (a : Nat) (ha : a ≤ line.length) => ends_word (a := a) HB.out HBY.out.2.2.2.1 ha)
          have HEL := Aside0.mk (endsV_len line (wordP s))
          generalize allV line (wordP s) = hits at HAL HV
          generalize endsV line (wordP s) = E at HV HEN HEL
          clear hR1 hR2 hC
          go_wp2_with (first
            | (go_at_call 18; (with_reducible refine HRN.out.mono ?_); rintro e w5 ⟨v5, rfl, hr5, hx5⟩; have H5 := Aside0.mk (And.intro (below_step HL2.out.1 hx5) hr5); have hx2 := pw_cell_below hx5 hx; clear hr5 hx5; obtain ⟨AR, cR, eR⟩ := Kd.R_slice H5.out.2; subst eR)
            | (go_at_call 19; (with_reducible refine (HAL.out _ H5.out.1).mono ?_); rintro e w6 ⟨v6, rfl, hx6, hr6⟩; obtain ⟨AH, cH, eH⟩ := Kd.R_slice hr6; subst eH; have H6 := Aside0.mk (And.intro (below_step H5.out.1 hx6) (And.intro (Kd.C_below (Kd.R_reads' H5.out.2).2.2 hx6) (Kd.R_reads' hr6).2.2)); have hx3 := pw_cell_below hx6 hx2; clear hr6 hx6))
          clear HRN HAL hx hx2 HL2
          go_loopg [11, 14, 17, 18] R.length (fun g v11 v14 v17 v18 wl => ∃ (j f n nd : Nat) (b : Bool), j + g = R.length ∧ v18 = .int .i64 j ∧ v14 = .int .i64 f ∧ v17 = .int .i64 n ∧ v11 = wdV b s ∧ wl = w6.drewN nd ∧ n ≤ hits.length ∧ n ≤ f ∧ f ≤ line.length ∧ Aside0 (RunsL line f (R.drop j) ∧ (f < line.length → leftW line f) ∧ (∃ d, hits.drop n = allE E d (f : Int) ∧ line.length + 2 ≤ d + f) ∧ (b = true ∨ (k = 0 ∧ (∀ i', i' < i → ∀ a, a < (rows.getD i' []).length → ¬ whole (rows.getD i' []) s a) ∧ ∀ a, a < f → ¬ whole line s a))))
          case atStart => exact ⟨0, 0, 0, 0, b, by omega, rfl, rfl, rfl, rfl, rfl, by omega, by omega, by omega, ⟨HR1.out, fun _ => .inl rfl, ⟨_, HV.out, by omega⟩, HE2.out.imp id (fun h => ⟨h.1, h.2, fun a h => by omega⟩)⟩⟩
          case round =>
            obtain ⟨j, f, n, nd, b, hj, rfl, rfl, rfl, rfl, rfl, hnl, hnf, hfl, HL3⟩ := hrel
            clear HE2 HR1 HV
            cases gk with
            | zero =>
              have hje : j = R.length := by omega
              subst hje
              obtain ⟨hr1, hr2, ⟨d, hr3, hr4⟩, hr5⟩ := HL3.out
              rw [List.drop_eq_nil_of_le (Nat.le_refl _)] at hr1
              have hfe : f = line.length := hr1
              subst hfe
              have hn : n = hits.length := by
                rw [allE_none (fun a h1 h2 => (HEN.out a (by have := HEL.out; omega)).2 (fun hw => by
                  have h6 := hw.2.1
                  rw [isW_off (by have := HEL.out; omega)] at h6
                  cases h6))] at hr3
                have := congrArg List.length hr3
                rw [List.length_drop, List.length_nil] at this
                omega
              subst hn
              have HS2 := Aside0.mk (HSTEP.out b hr5)
              clear HL3 hr1 hr2 hr3 hr4 hr5
              go_wp2
              go_roundg g2
              case measure => omega
              case rel => exact ⟨i + 1, b, by omega, by go_num, rfl, ⟨pw_below_drewN H6.out.1 _, HS2.out⟩⟩
            | succ g3 =>
              have hjl : j < R.length := by omega
              obtain ⟨hr1, hr2, ⟨d, hr3, hr4⟩, hr5⟩ := HL3.out
              clear HL3
              rw [List.drop_eq_getElem_cons hjl] at hr1
              obtain ⟨m, he, hfm, hml, hsame, hend, hrest⟩ := hr1
              have hrj : rd R (j : Int) = (m : Int) := by unfold rd; rw [Int.toNat_natCast, List.getD_eq_getElem?_getD, List.getElem?_eq_getElem hjl]; exact he
              clear he
              obtain ⟨adR, rfl, hcR⟩ := Kd.at_int H6.out.2.1 (j : Int) (by omega) (by omega)
              rw [Int.toNat_natCast, hrj] at hcR
              clear hrj
              have hCL := Kd.C_below HC0.out H6.out.1
              obtain ⟨adL, rfl, hcL⟩ := Kd.at_int hCL (f : Int) (by omega) (by omega)
              rw [Int.toNat_natCast] at hcL
              have hl1' : ((line.take m).drop f).length = m - f := by rw [List.length_drop, List.length_take]; omega
              obtain ⟨i0, hi0, hsz⟩ : ∃ i, Tryd.prog.info? 5 = some i ∧ i.size = 1 := ⟨_, rfl, rfl⟩
              have hcut := cut_mid (P := Tryd.prog) 22 5 .i64 .i64 Tryd.underlying22 hi0 1 hsz (some adL) line.length c' (f : Int) (m : Int) (by omega) (by omega) (by omega) hlc
              have hC1 := Kd.C_mid (c := c') (lo := f) (hi := m) hCL (by omega) (by omega) hlc
              clear hCL hi0 hsz
              rw [Int.toNat_natCast, Int.toNat_natCast] at hcut
              rw [hl1'] at hC1
              replace hC1 : (Kd.int .u8).C w6 (if c' = f then some adL else Option.map (fun x => x.add (f * 1)) (some adL)) (m - f) ((line.take m).drop f) := hC1
              generalize (if c' = f then some adL else Option.map (fun x => x.add (f * 1)) (some adL)) = AP at hcut hC1
              have hup : ∀ x ∈ (line.take m).drop f, 0 ≤ x ∧ x ≤ 255 := fun x hx => HM.out x (List.mem_of_mem_take (List.mem_of_mem_drop hx))
              have HRW := Aside0.mk (fun hc hs => run_word HB.out hs0 hfm hml hsame hend (hr2 (by omega)) hc hs)
              have HRO := Aside0.mk (fun (a : Nat) (ha : f ≤ a) (ham : a < m) h => run_only HB.out HBY.out.2.2.2.2.1 hs0 hfm hml hsame hend (hr2 (by omega)) ha ham h)
              have hlw : m < line.length → leftW line m := fun h => .inr (by rw [hsame (m - 1) (by omega) (by omega)]; exact (hend h).symm)
              have HNX := Aside0.mk (And.intro hrest hlw)
              clear hrest hlw hsame hend hr2
              have HCO : Aside0 (∀ W, Calls Tryd.prog 20 #[.int .u8 (rd line f), .bool false] W fun e w' => e = .returned (.int .i64 (clW line f)) ∧ Drawn0 W w') := ⟨fun W => X.class_Of.calls 1 (rd line f) false _ W (clW_ev HB.out f 1 (Nat.le_refl _))⟩
              generalize clW line f = kc at HRW HRO HCO
              generalize rd line (f : Int) = by0 at hcL HCO
              generalize (line.take m).drop f = piece at hC1 hup hl1' HRW HRO
              have k1 : ∀ n : Nat, (convert 22 9 (.slice AP (m - f) (c' - f))).run Tryd.prog (w6.drewN n) = .ok (.string (strOfNums piece)) (w6.drewN n) := fun n => Kd.C_string (P := Tryd.prog) Tryd.underlying22 Tryd.underlying5 Tryd.underlying9 (Kd.C_drewN hC1 n)
              clear hC1
              have e1 : (0 ≤ (f : Int)) = True := eq_true (by omega)
              have e2 : ((f : Int) < (line.length : Int)) = True := eq_true (by omega)
              have e3 : (0 ≤ (j : Int)) = True := eq_true (by omega)
              have e4 : ((j : Int) < (R.length : Int)) = True := eq_true (by omega)
              have e5 : (0 ≤ (n : Int)) = True := eq_true (by omega)
              have hne0 : ∀ {l : List Int}, 0 < l.length → (strOfNums l).toList.isEmpty = false := fun {l} h => str_ne h
              by_cases hcase : kc = 2 ∧ piece = s
              · obtain ⟨rfl, hps⟩ := hcase
                have hps2 := hps.symm
                obtain ⟨hwh, hfs⟩ := HRW.out rfl hps
                clear HRW HRO hps
                subst hps2
                obtain ⟨d, rfl⟩ : ∃ d', d = d' + 1 := ⟨d - 1, by omega⟩
                have hEf := (HEN.out f (by omega)).1 hwh
                rw [allE_hit (e := (m : Int)) (by have := HEL.out; omega) (by rw [hEf]; omega) (by omega)] at hr3
                have hnlt : n < hits.length := by
                  rcases Nat.lt_or_ge n hits.length with h | h
                  · exact h
                  · rw [List.drop_eq_nil_of_le h] at hr3; cases hr3
                rw [List.drop_eq_getElem_cons hnlt] at hr3
                injection hr3 with hr6 hr7
                have HD := Aside0.mk hr7
                obtain ⟨adH, rfl, ca, cb⟩ := kP_at H6.out.2.2 hnlt
                have hgd : hits.getD n (0, 0) = ((f : Int), (m : Int)) := by rw [List.getD_eq_getElem?_getD, List.getElem?_eq_getElem hnlt]; exact hr6
                rw [hgd] at ca cb
                simp only at ca cb
                clear hgd hr6 hr7 hEf hwh hr5
                have e6 : ((n : Int) < (hits.length : Int)) = True := eq_true (by omega)
                have e7 : decide ((n : Int) < (hits.length : Int)) = true := decide_eq_true (by omega)
                have qe := eq2
                have hn0 := hne0 (l := s) hs0
                cases b with
                | true =>
                  rw [show wdV true s = .string (strOfNums s) from rfl]
                  go_wp2
                  go_region
                  go_wp2_with (go_at_call 20; (with_reducible refine (HCO.out _).mono ?_); rintro e w' ⟨rfl, ⟨nd2, rfl⟩⟩)
                  go_quiet (fail)
                  go_wp2
                  go_roundg g3
                  case measure => omega
                  case rel => exact ⟨j + 1, m, n + 1, _, true, by omega, by go_num, rfl, by go_num, rfl, rfl, by omega, by omega, by omega, ⟨HNX.out.1, HNX.out.2, ⟨d, HD.out, by omega⟩, .inl rfl⟩⟩
                | false =>
                  rw [show wdV false s = .string ⟨#[]⟩ from rfl]
                  go_wp2
                  go_region
                  go_wp2_with (go_at_call 20; (with_reducible refine (HCO.out _).mono ?_); rintro e w' ⟨rfl, ⟨nd2, rfl⟩⟩)
                  go_quiet (fail)
                  go_wp2
                  go_roundg g3
                  case measure => omega
                  case rel => exact ⟨j + 1, m, n + 1, _, true, by omega, by go_num, rfl, by go_num, rfl, rfl, by omega, by omega, by omega, ⟨HNX.out.1, HNX.out.2, ⟨d, HD.out, by omega⟩, .inl rfl⟩⟩
              · have hno : ∀ a : Nat, f ≤ a → a < m → ¬ whole line s a := fun a h1 h2 h3 => hcase (by have h4 := HRO.out a h1 h2 h3; exact h4.2)
                rw [allE_skip (m := m) (by omega) (fun a h1 h2 => (HEN.out a (by omega)).2 (hno a h1 h2))] at hr3
                have HD := Aside0.mk hr3
                have hE5 : ∀ b : Bool, (b = true ∨ (k = 0 ∧ (∀ i', i' < i → ∀ a, a < (rows.getD i' []).length → ¬ whole (rows.getD i' []) s a) ∧ ∀ a, a < f → ¬ whole line s a)) → (b = true ∨ (k = 0 ∧ (∀ i', i' < i → ∀ a, a < (rows.getD i' []).length → ¬ whole (rows.getD i' []) s a) ∧ ∀ a, a < m → ¬ whole line s a)) := fun b h => h.imp id (fun h => ⟨h.1, h.2.1, fun a ha => by
                  rcases Nat.lt_or_ge a f with h3 | h3
                  · exact h.2.2 a h3
                  · exact hno a h3 ha⟩)
                have HE5 := Aside0.mk (hE5 b hr5)
                clear hE5 hr5 HRW HRO hno
                have hp0 := hne0 (l := piece) (by omega)
                have hn0 := hne0 (l := s) hs0
                have qe := eq2
                by_cases hnlt : n < hits.length
                · rw [List.drop_eq_getElem_cons hnlt] at hr3
                  have hge := allE_first hr3.symm
                  obtain ⟨adH, rfl, ca, cb⟩ := kP_at H6.out.2.2 hnlt
                  have hgd : hits.getD n (0, 0) = hits[n] := by rw [List.getD_eq_getElem?_getD, List.getElem?_eq_getElem hnlt]; rfl
                  rw [hgd] at ca cb
                  clear hr3 hgd
                  generalize hits[n] = xy at ca cb hge
                  obtain ⟨x, y⟩ := xy
                  simp only at ca cb hge
                  have e6 : ((n : Int) < (hits.length : Int)) = True := eq_true (by omega)
                  have e7 : decide ((n : Int) < (hits.length : Int)) = true := decide_eq_true (by omega)
                  have e8 : (x == (f : Int)) = false := beq_eq_false_iff_ne.2 (by omega)
                  by_cases hk2 : kc = 2
                  · have hps : piece ≠ s := fun e => hcase ⟨hk2, e⟩
                    subst hk2
                    have k3 : ((strOfNums piece).toList == (strOfNums s).toList) = false := beq_eq_false_iff_ne.2 (fun e => hps (str_inj hup HBY.out.2.2.2.1 e))
                    clear hps hcase
                    cases b with
                    | true =>
                      rw [show wdV true s = .string (strOfNums s) from rfl]
                      go_wp2
                      go_region
                      go_wp2_with (go_at_call 20; (with_reducible refine (HCO.out _).mono ?_); rintro e w' ⟨rfl, ⟨nd2, rfl⟩⟩)
                      go_quiet (fail)
                      go_wp2
                      go_roundg g3
                      case measure => omega
                      case rel => exact ⟨j + 1, m, n, _, true, by omega, by go_num, rfl, rfl, rfl, rfl, by omega, by omega, by omega, ⟨HNX.out.1, HNX.out.2, ⟨d, HD.out, by omega⟩, .inl rfl⟩⟩
                    | false =>
                      rw [show wdV false s = .string ⟨#[]⟩ from rfl]
                      go_wp2
                      go_region
                      go_wp2_with (go_at_call 20; (with_reducible refine (HCO.out _).mono ?_); rintro e w' ⟨rfl, ⟨nd2, rfl⟩⟩)
                      go_quiet (fail)
                      go_wp2
                      go_roundg g3
                      case measure => omega
                      case rel => exact ⟨j + 1, m, n, _, false, by omega, by go_num, rfl, rfl, rfl, rfl, by omega, by omega, by omega, ⟨HNX.out.1, HNX.out.2, ⟨d, HD.out, by omega⟩, HE5.out⟩⟩
                  · have e9 : (kc = 2) = False := eq_false hk2
                    have e10 : (kc == 2) = false := beq_eq_false_iff_ne.2 hk2
                    clear hcase
                    cases b with
                    | true =>
                      rw [show wdV true s = .string (strOfNums s) from rfl]
                      go_wp2
                      go_region
                      go_wp2_with (go_at_call 20; (with_reducible refine (HCO.out _).mono ?_); rintro e w' ⟨rfl, ⟨nd2, rfl⟩⟩)
                      go_quiet (fail)
                      go_wp2
                      go_roundg g3
                      case measure => omega
                      case rel => exact ⟨j + 1, m, n, _, true, by omega, by go_num, rfl, rfl, rfl, rfl, by omega, by omega, by omega, ⟨HNX.out.1, HNX.out.2, ⟨d, HD.out, by omega⟩, .inl rfl⟩⟩
                    | false =>
                      rw [show wdV false s = .string ⟨#[]⟩ from rfl]
                      go_wp2
                      go_region
                      go_wp2_with (go_at_call 20; (with_reducible refine (HCO.out _).mono ?_); rintro e w' ⟨rfl, ⟨nd2, rfl⟩⟩)
                      go_quiet (fail)
                      go_wp2
                      go_roundg g3
                      case measure => omega
                      case rel => exact ⟨j + 1, m, n, _, false, by omega, by go_num, rfl, rfl, rfl, rfl, by omega, by omega, by omega, ⟨HNX.out.1, HNX.out.2, ⟨d, HD.out, by omega⟩, HE5.out⟩⟩
                · clear hr3
                  have e6 : ((n : Int) < (hits.length : Int)) = False := eq_false (by omega)
                  have e7 : decide ((n : Int) < (hits.length : Int)) = false := decide_eq_false (by omega)
                  by_cases hk2 : kc = 2
                  · have hps : piece ≠ s := fun e => hcase ⟨hk2, e⟩
                    subst hk2
                    have k3 : ((strOfNums piece).toList == (strOfNums s).toList) = false := beq_eq_false_iff_ne.2 (fun e => hps (str_inj hup HBY.out.2.2.2.1 e))
                    clear hps hcase
                    cases b with
                    | true =>
                      rw [show wdV true s = .string (strOfNums s) from rfl]
                      go_wp2
                      go_region
                      go_wp2_with (go_at_call 20; (with_reducible refine (HCO.out _).mono ?_); rintro e w' ⟨rfl, ⟨nd2, rfl⟩⟩)
                      go_quiet (fail)
                      go_wp2
                      go_roundg g3
                      case measure => omega
                      case rel => exact ⟨j + 1, m, n, _, true, by omega, by go_num, rfl, rfl, rfl, rfl, by omega, by omega, by omega, ⟨HNX.out.1, HNX.out.2, ⟨d, HD.out, by omega⟩, .inl rfl⟩⟩
                    | false =>
                      rw [show wdV false s = .string ⟨#[]⟩ from rfl]
                      go_wp2
                      go_region
                      go_wp2_with (go_at_call 20; (with_reducible refine (HCO.out _).mono ?_); rintro e w' ⟨rfl, ⟨nd2, rfl⟩⟩)
                      go_quiet (fail)
                      go_wp2
                      go_roundg g3
                      case measure => omega
                      case rel => exact ⟨j + 1, m, n, _, false, by omega, by go_num, rfl, rfl, rfl, rfl, by omega, by omega, by omega, ⟨HNX.out.1, HNX.out.2, ⟨d, HD.out, by omega⟩, HE5.out⟩⟩
                  · have e9 : (kc = 2) = False := eq_false hk2
                    have e10 : (kc == 2) = false := beq_eq_false_iff_ne.2 hk2
                    clear hcase
                    cases b with
                    | true =>
                      rw [show wdV true s = .string (strOfNums s) from rfl]
                      go_wp2
                      go_region
                      go_wp2_with (go_at_call 20; (with_reducible refine (HCO.out _).mono ?_); rintro e w' ⟨rfl, ⟨nd2, rfl⟩⟩)
                      go_quiet (fail)
                      go_wp2
                      go_roundg g3
                      case measure => omega
                      case rel => exact ⟨j + 1, m, n, _, true, by omega, by go_num, rfl, rfl, rfl, rfl, by omega, by omega, by omega, ⟨HNX.out.1, HNX.out.2, ⟨d, HD.out, by omega⟩, .inl rfl⟩⟩
                    | false =>
                      rw [show wdV false s = .string ⟨#[]⟩ from rfl]
                      go_wp2
                      go_region
                      go_wp2_with (go_at_call 20; (with_reducible refine (HCO.out _).mono ?_); rintro e w' ⟨rfl, ⟨nd2, rfl⟩⟩)
                      go_quiet (fail)
                      go_wp2
                      go_roundg g3
                      case measure => omega
                      case rel => exact ⟨j + 1, m, n, _, false, by omega, by go_num, rfl, rfl, rfl, rfl, by omega, by omega, by omega, ⟨HNX.out.1, HNX.out.2, ⟨d, HD.out, by omega⟩, HE5.out⟩⟩
end Go.Proofs.YtffpkldphkmjmaaDoor.WalkHuntWords
end
