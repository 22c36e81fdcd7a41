/-
  Texts of one proof in one file (wip/some.py): X61, X62, X63, X64, X65, HR0, HR1, XS, WalkHuntRests.
  Conditions: none.
-/
import Derived.Test.YtffpkldphkmjmaaDoorX0
import Derived.Test.YtffpkldphkmjmaaDoorX2
import Derived.Test.YtffpkldphkmjmaaDoorRTM
import Derived.Test.YtffpkldphkmjmaaDoorXO
section
-- Written by wip/xprint.py over the kit's print.py: the Lean function of each Go function, and the proof that the Go text comes to it.
namespace Go.Proofs.YtffpkldphkmjmaaDoor.X
open Go.RowKit Go.Proofs.YtffpkldphkmjmaaDoorW.PrintWords Go.Proofs.YtffpkldphkmjmaaDoorW.PrintLast Go.Proofs.YtffpkldphkmjmaaDoorW.PrintMore
attribute [local go_sem] max2_int min2_int max_two min_two max_three min_three max_four min_four   -- for this text's walks alone
set_option linter.unusedVariables false
set_option linter.unusedSimpArgs false

/-! ### bytealg_LastIndexByte: function 73 -/
def bytealg_LastIndexByte.l0 : Nat → List Int → Int → Int → Option (Int)
  | 0, _, _, _ => none
  | k + 1, x0, x1, x5 => if x5 ≥ 0 then (if 0 ≤ x5 then (if x5 < (x0.length : Int) then (if (rd x0 x5) = x1 then (some x5) else (bytealg_LastIndexByte.l0 k x0 x1 (wrap64 (x5 - 1)))) else (none)) else (none)) else (some (-1))
def bytealg_LastIndexByte.f (k : Nat) (l0 : List Int) (a1 : Int) : Option (Int) := bytealg_LastIndexByte.l0 k l0 a1 (wrap64 ((l0.length : Int) - 1))
theorem bytealg_LastIndexByte.mono_l : ∀ k, (∀ y0 y1 y2, LeO (bytealg_LastIndexByte.l0 k y0 y1 y2) (bytealg_LastIndexByte.l0 (k + 1) y0 y1 y2))
  | 0 => fun _ _ _ r h => by simp [bytealg_LastIndexByte.l0] at h
  | k + 1 => by
    have ih0 := bytealg_LastIndexByte.mono_l k
    · intro y0 y1 y2
      unfold bytealg_LastIndexByte.l0
      repeat' first
      | (with_reducible exact ih0 _ _ _)
      | (with_reducible exact LeO.refl _)
      | (with_reducible exact LeO.none _)
      | (with_reducible refine LeO.ite ?_ ?_)
      | (with_reducible refine LeO.bind ?_ (fun _ => ?_))
      | exact ih0 _ _ _
      | exact LeO.none _
      | refine LeO.ite ?_ ?_
      | refine LeO.bind ?_ (fun _ => ?_)
theorem bytealg_LastIndexByte.mono : ∀ a0 a1 k, LeO (bytealg_LastIndexByte.f k a0 a1) (bytealg_LastIndexByte.f (k + 1) a0 a1) := by
  intro a0 a1 k
  have ih0 := bytealg_LastIndexByte.mono_l k
  unfold bytealg_LastIndexByte.f
  repeat' first
      | (with_reducible exact ih0 _ _ _)
      | (with_reducible exact LeO.refl _)
      | (with_reducible exact LeO.none _)
      | (with_reducible refine LeO.ite ?_ ?_)
      | (with_reducible refine LeO.bind ?_ (fun _ => ?_))
      | exact ih0 _ _ _
      | exact LeO.none _
      | refine LeO.ite ?_ ?_
      | refine LeO.bind ?_ (fun _ => ?_)
set_option maxHeartbeats 8000000 in
set_option maxRecDepth 100000 in
theorem bytealg_LastIndexByte.calls (k : Nat) (A0 : Option Addr) (c0 : Nat) (l0 : List Int) (a1 : Int) (r : Int) (w : World) (hr0 : Kd.C (Kd.int .u8) w A0 l0.length l0) (hc0 : l0.length ≤ c0) (h : bytealg_LastIndexByte.f k l0 a1 = some r) :
    Calls Tryd.prog 73 #[.slice A0 l0.length c0, .int .u8 a1] w fun e w' => e = .returned (.int .i64 r) ∧ Drawn0 w w' := by
  have HR0 := Aside0.mk hr0
  have HC0 := Aside0.mk hc0
  clear hr0 hc0
  have H : (bytealg_LastIndexByte.l0 k l0 a1 (wrap64 ((l0.length : Int) - 1))) = some r := h
  clear h
  have H' := Aside0.mk H
  clear H
  go_enter Tryd.func73, Tryd.ntmps73
  go_wp2
  go_loopg [5] k (fun kq v5 w' => ∃ (x5_1 : Int), v5 = .int .i64 x5_1 ∧ Aside0 (bytealg_LastIndexByte.l0 kq l0 a1 x5_1 = some r) ∧ Aside0 (kq ≤ k) ∧ Drawn0 w w')
  case atStart => exact ⟨(wrap64 ((l0.length : Int) - 1)), (by first | rfl | (simp; done) | (simp [*]; done)), H', ⟨Nat.le_refl _⟩, by repeat (first | exact Drawn0.refl _ | apply Drawn0.step)⟩
  case round =>
    clear H'
    try clear p2
    obtain ⟨x5_1, rfl, HA, HK1, ⟨m1, rfl⟩⟩ := hrel
    cases gk with
    | zero => exact absurd HA.out (by simp [bytealg_LastIndexByte.l0])
    | succ k1 =>
      have H := HA.out
      clear HA
      simp only [bytealg_LastIndexByte.l0] at H
      by_cases c3 : x5_1 ≥ 0
      · rw [if_pos c3] at H
        have c3b0 : decide (0 ≤ x5_1) = true := decide_eq_true c3
        clear c3
        by_cases c4 : 0 ≤ x5_1
        · rw [if_pos c4] at H
          have c4b0 : decide (0 ≤ x5_1) = true := decide_eq_true c4
          clear c4
          by_cases c5 : x5_1 < (l0.length : Int)
          · rw [if_pos c5] at H
            have c5b0 : decide (x5_1 < (l0.length : Int)) = true := decide_eq_true c5
            clear c5
            by_cases c6 : (rd l0 x5_1) = a1
            · rw [if_pos c6] at H
              have c6b0 : ((rd l0 x5_1) == a1) = true := beq_iff_eq.mpr c6
              have c6b1 : ((rd l0 x5_1) != a1) = false := bne_eq_false_iff_eq.mpr c6
              clear c6
              obtain rfl := Option.some.inj H
              have p173 : 0 ≤ (x5_1 : Int) := of_decide_eq_true (by first | (with_reducible assumption) | assumption)
              have q173 : x5_1 < (l0.length : Int) := of_decide_eq_true (by first | (with_reducible assumption) | assumption)
              obtain ⟨ad173, e173, hx173_0⟩ := Kd.at_int HR0.out x5_1 p173 q173
              cases e173
              replace p173 := eq_true p173
              replace q173 := eq_true q173
              go_wp2
              go_ret
              exact ⟨by first | rfl | (simp; done) | (simp [*]; done), by repeat (first | exact Drawn0.refl _ | apply Drawn0.step)⟩
            · rw [if_neg c6] at H
              have c6b0 : ((rd l0 x5_1) == a1) = false := beq_eq_false_iff_ne.mpr c6
              have c6b1 : ((rd l0 x5_1) != a1) = true := bne_iff_ne.mpr c6
              have H' := Aside0.mk H
              clear H
              have p173 : 0 ≤ (x5_1 : Int) := of_decide_eq_true (by first | (with_reducible assumption) | assumption)
              have q173 : x5_1 < (l0.length : Int) := of_decide_eq_true (by first | (with_reducible assumption) | assumption)
              obtain ⟨ad173, e173, hx173_0⟩ := Kd.at_int HR0.out x5_1 p173 q173
              cases e173
              replace p173 := eq_true p173
              replace q173 := eq_true q173
              go_wp2
              go_roundg k1
              case measure => have := HK1.out; omega
              case rel => exact ⟨(wrap64 (x5_1 - 1)), (by first | rfl | (simp; done) | (simp [*]; done)), H', ⟨by have := HK1.out; omega⟩, by repeat (first | exact Drawn0.refl _ | apply Drawn0.step)⟩
          · rw [if_neg c5] at H
            exact absurd H (by simp)
        · rw [if_neg c4] at H
          exact absurd H (by simp)
      · rw [if_neg c3] at H
        have c3b0 : decide (0 ≤ x5_1) = false := decide_eq_false c3
        clear c3
        obtain rfl := Option.some.inj H
        go_wp2
        go_ret
        exact ⟨by first | rfl | (simp; done) | (simp [*]; done), by repeat (first | exact Drawn0.refl _ | apply Drawn0.step)⟩

end Go.Proofs.YtffpkldphkmjmaaDoor.X
end
section
-- Written by wip/xprint.py over the kit's print.py: the Lean function of each Go function, and the proof that the Go text comes to it.
namespace Go.Proofs.YtffpkldphkmjmaaDoor.X
open Go.RowKit Go.Proofs.YtffpkldphkmjmaaDoorW.PrintWords Go.Proofs.YtffpkldphkmjmaaDoorW.PrintLast Go.Proofs.YtffpkldphkmjmaaDoorW.PrintMore
attribute [local go_sem] max2_int min2_int max_two min_two max_three min_three max_four min_four   -- for this text's walks alone
set_option linter.unusedVariables false
set_option linter.unusedSimpArgs false

/-! ### bytes_LastIndexByte: function 60 -/
def bytes_LastIndexByte.f (k : Nat) (l0 : List Int) (a1 : Int) : Option (Int) := (bytealg_LastIndexByte.f k l0 a1).bind fun t174 => (some t174)
theorem bytes_LastIndexByte.mono : ∀ a0 a1 k, LeO (bytes_LastIndexByte.f k a0 a1) (bytes_LastIndexByte.f (k + 1) a0 a1) := by
  intro a0 a1 k
  unfold bytes_LastIndexByte.f
  repeat' first
      | (with_reducible exact bytealg_LastIndexByte.mono _ _ _)
      | (with_reducible exact LeO.refl _)
      | (with_reducible exact LeO.none _)
      | (with_reducible refine LeO.ite ?_ ?_)
      | (with_reducible refine LeO.bind ?_ (fun _ => ?_))
      | exact bytealg_LastIndexByte.mono _ _ _
      | exact LeO.none _
      | refine LeO.ite ?_ ?_
      | refine LeO.bind ?_ (fun _ => ?_)
set_option maxHeartbeats 8000000 in
set_option maxRecDepth 100000 in
theorem bytes_LastIndexByte.calls (k : Nat) (A0 : Option Addr) (c0 : Nat) (l0 : List Int) (a1 : Int) (r : Int) (w : World) (hr0 : Kd.C (Kd.int .u8) w A0 l0.length l0) (hc0 : l0.length ≤ c0) (h : bytes_LastIndexByte.f k l0 a1 = some r) :
    Calls Tryd.prog 60 #[.slice A0 l0.length c0, .int .u8 a1] w fun e w' => e = .returned (.int .i64 r) ∧ Drawn0 w w' := by
  have HR0 := Aside0.mk hr0
  have HC0 := Aside0.mk hc0
  clear hr0 hc0
  have H : ((bytealg_LastIndexByte.f k l0 a1).bind fun t174 => (some t174)) = some r := h
  clear h
  replace H := Option.bind_eq_some_iff.mp H
  obtain ⟨t174, A30, H⟩ := H
  replace H : (some t174) = some r := H
  have A3 := Aside0.mk A30
  clear A30
  obtain rfl := Option.some.inj H
  go_enter Tryd.func60, Tryd.ntmps60
  go_wp2_with (first | ((with_reducible refine gate_callee (f := 73) rfl ?_); refine goesL_ (some 7) rfl rfl Tryd.func73 (by kernel_rfl) rfl #[.slice A0 l0.length c0, .int .u8 a1] rfl (by (try simp only [List.map_toArray, List.map_cons, List.map_nil]); first | done | rfl | (simp only [List.length_drop, List.length_take]; rfl)) ?_; (with_reducible refine (bytealg_LastIndexByte.calls k _ _ l0 a1 t174 _ ?side1 ?side2 A3.out).mono ?_); (case side1 => repeat (first | exact HR0.out | (with_reducible refine Kd.C_alloc ?_ _) | (with_reducible refine Kd.C_drewN ?_ _) | (with_reducible refine Kd.C_drew ?_))); (case side2 => exact HC0.out); rintro e w' ⟨rfl, ⟨nd, rfl⟩⟩; refine ⟨_, rfl, ?_⟩))
  go_ret
  exact ⟨by first | rfl | (simp; done) | (simp [*]; done), by repeat (first | exact Drawn0.refl _ | apply Drawn0.step)⟩

end Go.Proofs.YtffpkldphkmjmaaDoor.X
end
section
-- Written by wip/xprint.py over the kit's print.py: the Lean function of each Go function, and the proof that the Go text comes to it.
namespace Go.Proofs.YtffpkldphkmjmaaDoor.X
open Go.RowKit Go.Proofs.YtffpkldphkmjmaaDoorW.PrintWords Go.Proofs.YtffpkldphkmjmaaDoorW.PrintLast Go.Proofs.YtffpkldphkmjmaaDoorW.PrintMore
attribute [local go_sem] max2_int min2_int max_two min_two max_three min_three max_four min_four   -- for this text's walks alone
set_option linter.unusedVariables false
set_option linter.unusedSimpArgs false

/-! ### lines_head: function 37 -/
def lines_head.f (k : Nat) (l0 : List Int) (a1 : Int) : Option (Int) := if 0 ≤ a1 then (if a1 ≤ (l0.length : Int) then ((bytes_LastIndexByte.f k (l0.take (a1 : Int).toNat) 10).bind fun t176 => (some (wrap64 (t176 + 1)))) else (none)) else (none)
theorem lines_head.mono : ∀ a0 a1 k, LeO (lines_head.f k a0 a1) (lines_head.f (k + 1) a0 a1) := by
  intro a0 a1 k
  unfold lines_head.f
  repeat' first
      | (with_reducible exact bytes_LastIndexByte.mono _ _ _)
      | (with_reducible exact LeO.refl _)
      | (with_reducible exact LeO.none _)
      | (with_reducible refine LeO.ite ?_ ?_)
      | (with_reducible refine LeO.bind ?_ (fun _ => ?_))
      | exact bytes_LastIndexByte.mono _ _ _
      | exact LeO.none _
      | refine LeO.ite ?_ ?_
      | refine LeO.bind ?_ (fun _ => ?_)
set_option maxHeartbeats 8000000 in
set_option maxRecDepth 100000 in
theorem lines_head.calls (k : Nat) (A0 : Option Addr) (c0 : Nat) (l0 : List Int) (a1 : Int) (r : Int) (w : World) (hr0 : Kd.C (Kd.int .u8) w A0 l0.length l0) (hc0 : l0.length ≤ c0) (h : lines_head.f k l0 a1 = some r) :
    Calls Tryd.prog 37 #[.slice A0 l0.length c0, .int .i64 a1] w fun e w' => e = .returned (.int .i64 r) ∧ Drawn0 w w' := by
  have HR0 := Aside0.mk hr0
  have HC0 := Aside0.mk hc0
  clear hr0 hc0
  have H : (if 0 ≤ a1 then (if a1 ≤ (l0.length : Int) then ((bytes_LastIndexByte.f k (l0.take (a1 : Int).toNat) 10).bind fun t176 => (some (wrap64 (t176 + 1)))) else (none)) else (none)) = some r := h
  clear h
  by_cases c3 : 0 ≤ a1
  · rw [if_pos c3] at H
    have c3b0 := eq_true c3
    have c3b1 : decide (0 ≤ a1) = true := decide_eq_true c3
    clear c3
    by_cases c4 : a1 ≤ (l0.length : Int)
    · rw [if_pos c4] at H
      have c4b0 := eq_true c4
      have c4b1 : decide (a1 ≤ (l0.length : Int)) = true := decide_eq_true c4
      clear c4
      replace H := Option.bind_eq_some_iff.mp H
      obtain ⟨t176, A50, H⟩ := H
      replace H : (some (wrap64 (t176 + 1))) = some r := H
      have A5 := Aside0.mk A50
      clear A50
      obtain rfl := Option.some.inj H
      obtain ⟨i06, hi06, _, hsz6, _⟩ := info_parts info5
      obtain ⟨hcut6, hA6, hC6⟩ := print_take_of (P := Tryd.prog) (Value.int .u8) 0 22 5 .i64 Tryd.underlying22 hi06 hsz6 A0 c0 l0 a1 (of_decide_eq_true (by first | (with_reducible assumption) | assumption)) (of_decide_eq_true (by first | (with_reducible assumption) | assumption)) HC0.out
      have HR175 := Aside0.mk (Kd.C_of_reads (h1 := fun _ => rfl) (hA6 _ (Kd.reads_of_C HR0.out)))
      have HC175 := Aside0.mk hC6
      clear hA6 hC6 hi06 hsz6
      go_enter Tryd.func37, Tryd.ntmps37
      go_wp2_with (first | ((with_reducible refine gate_callee (f := 60) rfl ?_); refine goesL_ (some 8) rfl rfl Tryd.func60 (by kernel_rfl) rfl #[.slice A0 (l0.take (a1 : Int).toNat).length c0, .int .u8 10] rfl (by (try simp only [List.map_toArray, List.map_cons, List.map_nil]); first | done | (rw [show (l0.take (a1 : Int).toNat).length = a1.toNat from (by rw [List.length_take]; have h_ : (a1 : Int) ≤ (l0.length : Int) := of_decide_eq_true (by first | (with_reducible assumption) | assumption); omega)] <;> rfl) | rfl | (simp only [List.length_drop, List.length_take]; rfl)) ?_; (with_reducible refine (bytes_LastIndexByte.calls k _ _ (l0.take (a1 : Int).toNat) 10 t176 _ ?side1 ?side2 A5.out).mono ?_); (case side1 => repeat (first | exact HR175.out | (with_reducible refine Kd.C_alloc ?_ _) | (with_reducible refine Kd.C_drewN ?_ _) | (with_reducible refine Kd.C_drew ?_))); (case side2 => exact HC175.out); rintro e w' ⟨rfl, ⟨nd, rfl⟩⟩; refine ⟨_, rfl, ?_⟩))
      go_ret
      exact ⟨by first | rfl | (simp; done) | (simp [*]; done), by repeat (first | exact Drawn0.refl _ | apply Drawn0.step)⟩
    · rw [if_neg c4] at H
      exact absurd H (by simp)
  · rw [if_neg c3] at H
    exact absurd H (by simp)

end Go.Proofs.YtffpkldphkmjmaaDoor.X
end
section
-- Written by wip/xprint.py over the kit's print.py: the Lean function of each Go function, and the proof that the Go text comes to it.
namespace Go.Proofs.YtffpkldphkmjmaaDoor.X
open Go.RowKit Go.Proofs.YtffpkldphkmjmaaDoorW.PrintWords Go.Proofs.YtffpkldphkmjmaaDoorW.PrintLast Go.Proofs.YtffpkldphkmjmaaDoorW.PrintMore
attribute [local go_sem] max2_int min2_int max_two min_two max_three min_three max_four min_four   -- for this text's walks alone
set_option linter.unusedVariables false
set_option linter.unusedSimpArgs false

/-! ### lines_tail: function 38 -/
def lines_tail.f (l0 : List Int) (a1 : Int) : Option (Int) := if 0 ≤ a1 then (if a1 ≤ (l0.length : Int) then ((bytes_IndexByte.f (l0.drop (a1 : Int).toNat) 10).bind fun t178 => (if t178 ≥ 0 then (some (wrap64 (a1 + t178))) else (some (l0.length : Int)))) else (none)) else (none)
set_option maxHeartbeats 8000000 in
set_option maxRecDepth 100000 in
theorem lines_tail.calls (A0 : Option Addr) (c0 : Nat) (l0 : List Int) (a1 : Int) (r : Int) (w : World) (hr0 : Kd.C (Kd.int .u8) w A0 l0.length l0) (hc0 : l0.length ≤ c0) (h : lines_tail.f l0 a1 = some r) :
    Calls Tryd.prog 38 #[.slice A0 l0.length c0, .int .i64 a1] w fun e w' => e = .returned (.int .i64 r) ∧ Drawn0 w w' := by
  have HR0 := Aside0.mk hr0
  have HC0 := Aside0.mk hc0
  clear hr0 hc0
  have H : (if 0 ≤ a1 then (if a1 ≤ (l0.length : Int) then ((bytes_IndexByte.f (l0.drop (a1 : Int).toNat) 10).bind fun t178 => (if t178 ≥ 0 then (some (wrap64 (a1 + t178))) else (some (l0.length : Int)))) else (none)) else (none)) = some r := h
  clear h
  by_cases c3 : 0 ≤ a1
  · rw [if_pos c3] at H
    have c3b0 := eq_true c3
    have c3b1 : decide (0 ≤ a1) = true := decide_eq_true c3
    clear c3
    by_cases c4 : a1 ≤ (l0.length : Int)
    · rw [if_pos c4] at H
      have c4b0 := eq_true c4
      have c4b1 : decide (a1 ≤ (l0.length : Int)) = true := decide_eq_true c4
      clear c4
      replace H := Option.bind_eq_some_iff.mp H
      obtain ⟨t178, A50, H⟩ := H
      replace H : (if t178 ≥ 0 then (some (wrap64 (a1 + t178))) else (some (l0.length : Int))) = some r := H
      have A5 := Aside0.mk A50
      clear A50
      by_cases c6 : t178 ≥ 0
      · rw [if_pos c6] at H
        have c6b0 : decide (0 ≤ t178) = true := decide_eq_true c6
        clear c6
        obtain rfl := Option.some.inj H
        obtain ⟨i07, hi07, _, hsz7, _⟩ := info_parts info5
        obtain ⟨A7, hcut7, hA7, hC7⟩ := print_drop_of (P := Tryd.prog) (Value.int .u8) 0 22 5 .i64 Tryd.underlying22 hi07 hsz7 A0 c0 l0 a1 (of_decide_eq_true (by first | (with_reducible assumption) | assumption)) (of_decide_eq_true (by first | (with_reducible assumption) | assumption)) HC0.out
        have HR177 := Aside0.mk (Kd.C_of_reads (h1 := fun _ => rfl) (hA7 _ (Kd.reads_of_C HR0.out)))
        have HC177 := Aside0.mk hC7
        clear hA7 hC7 hi07 hsz7
        go_enter Tryd.func38, Tryd.ntmps38
        go_wp2_with (first | ((with_reducible refine gate_callee (f := 61) rfl ?_); refine goesL_ (some 9) rfl rfl Tryd.func61 (by kernel_rfl) rfl #[.slice A7 (l0.drop (a1 : Int).toNat).length (c0 - a1.toNat), .int .u8 10] rfl (by (try simp only [List.map_toArray, List.map_cons, List.map_nil]); first | done | (rw [show (l0.drop (a1 : Int).toNat).length = (l0.length - a1.toNat) from List.length_drop] <;> rfl) | rfl | (simp only [List.length_drop, List.length_take]; rfl)) ?_; (with_reducible refine (bytes_IndexByte.calls _ _ (l0.drop (a1 : Int).toNat) 10 t178 _ ?side1 ?side2 A5.out).mono ?_); (case side1 => repeat (first | exact HR177.out | (with_reducible refine Kd.C_alloc ?_ _) | (with_reducible refine Kd.C_drewN ?_ _) | (with_reducible refine Kd.C_drew ?_))); (case side2 => exact HC177.out); rintro e w' ⟨rfl, ⟨nd, rfl⟩⟩; refine ⟨_, rfl, ?_⟩))
        go_ret
        exact ⟨by first | rfl | (simp; done) | (simp [*]; done), by repeat (first | exact Drawn0.refl _ | apply Drawn0.step)⟩
      · rw [if_neg c6] at H
        have c6b0 : decide (0 ≤ t178) = false := decide_eq_false c6
        clear c6
        obtain rfl := Option.some.inj H
        obtain ⟨i08, hi08, _, hsz8, _⟩ := info_parts info5
        obtain ⟨A8, hcut8, hA8, hC8⟩ := print_drop_of (P := Tryd.prog) (Value.int .u8) 0 22 5 .i64 Tryd.underlying22 hi08 hsz8 A0 c0 l0 a1 (of_decide_eq_true (by first | (with_reducible assumption) | assumption)) (of_decide_eq_true (by first | (with_reducible assumption) | assumption)) HC0.out
        have HR177 := Aside0.mk (Kd.C_of_reads (h1 := fun _ => rfl) (hA8 _ (Kd.reads_of_C HR0.out)))
        have HC177 := Aside0.mk hC8
        clear hA8 hC8 hi08 hsz8
        go_enter Tryd.func38, Tryd.ntmps38
        go_wp2_with (first | ((with_reducible refine gate_callee (f := 61) rfl ?_); refine goesL_ (some 9) rfl rfl Tryd.func61 (by kernel_rfl) rfl #[.slice A8 (l0.drop (a1 : Int).toNat).length (c0 - a1.toNat), .int .u8 10] rfl (by (try simp only [List.map_toArray, List.map_cons, List.map_nil]); first | done | (rw [show (l0.drop (a1 : Int).toNat).length = (l0.length - a1.toNat) from List.length_drop] <;> rfl) | rfl | (simp only [List.length_drop, List.length_take]; rfl)) ?_; (with_reducible refine (bytes_IndexByte.calls _ _ (l0.drop (a1 : Int).toNat) 10 t178 _ ?side1 ?side2 A5.out).mono ?_); (case side1 => repeat (first | exact HR177.out | (with_reducible refine Kd.C_alloc ?_ _) | (with_reducible refine Kd.C_drewN ?_ _) | (with_reducible refine Kd.C_drew ?_))); (case side2 => exact HC177.out); rintro e w' ⟨rfl, ⟨nd, rfl⟩⟩; refine ⟨_, rfl, ?_⟩))
        go_ret
        exact ⟨by first | rfl | (simp; done) | (simp [*]; done), by repeat (first | exact Drawn0.refl _ | apply Drawn0.step)⟩
    · rw [if_neg c4] at H
      exact absurd H (by simp)
  · rw [if_neg c3] at H
    exact absurd H (by simp)

end Go.Proofs.YtffpkldphkmjmaaDoor.X
end
section
-- Written by wip/xprint.py over the kit's print.py: the Lean function of each Go function, and the proof that the Go text comes to it.
namespace Go.Proofs.YtffpkldphkmjmaaDoor.X
open Go.RowKit Go.Proofs.YtffpkldphkmjmaaDoorW.PrintWords Go.Proofs.YtffpkldphkmjmaaDoorW.PrintLast Go.Proofs.YtffpkldphkmjmaaDoorW.PrintMore
attribute [local go_sem] max2_int min2_int max_two min_two max_three min_three max_four min_four   -- for this text's walks alone
set_option linter.unusedVariables false
set_option linter.unusedSimpArgs false

/-! ### lines_Rest: function 22 -/
def lines_Rest.f (k : Nat) (l0 : List Int) (a1 : Int) : Option (Int) := (lines_head.f k l0 (mn (mx a1 0) (l0.length : Int))).bind fun t179 => (if (mn (mx a1 0) (l0.length : Int)) > t179 then ((lines_tail.f l0 (mn (mx a1 0) (l0.length : Int))).bind fun t180 => (if (mn (mx a1 0) (l0.length : Int)) = t180 then (some (wrap64 ((mn (mx a1 0) (l0.length : Int)) - 1))) else (some (mn (mx a1 0) (l0.length : Int))))) else (some (mn (mx a1 0) (l0.length : Int))))
theorem lines_Rest.mono : ∀ a0 a1 k, LeO (lines_Rest.f k a0 a1) (lines_Rest.f (k + 1) a0 a1) := by
  intro a0 a1 k
  unfold lines_Rest.f
  repeat' first
      | (with_reducible exact lines_head.mono _ _ _)
      | (with_reducible exact LeO.refl _)
      | (with_reducible exact LeO.none _)
      | (with_reducible refine LeO.ite ?_ ?_)
      | (with_reducible refine LeO.bind ?_ (fun _ => ?_))
      | exact lines_head.mono _ _ _
      | exact LeO.none _
      | refine LeO.ite ?_ ?_
      | refine LeO.bind ?_ (fun _ => ?_)
set_option maxHeartbeats 8000000 in
set_option maxRecDepth 100000 in
theorem lines_Rest.calls (k : Nat) (A0 : Option Addr) (c0 : Nat) (l0 : List Int) (a1 : Int) (r : Int) (w : World) (hr0 : Kd.C (Kd.int .u8) w A0 l0.length l0) (hc0 : l0.length ≤ c0) (h : lines_Rest.f k l0 a1 = some r) :
    Calls Tryd.prog 22 #[.slice A0 l0.length c0, .int .i64 a1] w fun e w' => e = .returned (.int .i64 r) ∧ Below w.heap.size w w' := by
  have HR0 := Aside0.mk hr0
  have HC0 := Aside0.mk hc0
  clear hr0 hc0
  have HB := Aside0.mk (Below.refl w.heap.size w)
  have H : ((lines_head.f k l0 (mn (mx a1 0) (l0.length : Int))).bind fun t179 => (if (mn (mx a1 0) (l0.length : Int)) > t179 then ((lines_tail.f l0 (mn (mx a1 0) (l0.length : Int))).bind fun t180 => (if (mn (mx a1 0) (l0.length : Int)) = t180 then (some (wrap64 ((mn (mx a1 0) (l0.length : Int)) - 1))) else (some (mn (mx a1 0) (l0.length : Int))))) else (some (mn (mx a1 0) (l0.length : Int))))) = some r := h
  clear h
  obtain ⟨ji3, hji3⟩ : ∃ j_ : Int, (mx a1 0) = j_ := ⟨_, rfl⟩
  replace H : ((lines_head.f k l0 (mn (ji3) (l0.length : Int))).bind fun t179 => (if (mn (ji3) (l0.length : Int)) > t179 then ((lines_tail.f l0 (mn (ji3) (l0.length : Int))).bind fun t180 => (if (mn (ji3) (l0.length : Int)) = t180 then (some (wrap64 ((mn (ji3) (l0.length : Int)) - 1))) else (some (mn (ji3) (l0.length : Int))))) else (some (mn (ji3) (l0.length : Int))))) = some r := by first | (rw [hji3] at H; exact H) | (simp only [hji3] at H ⊢; exact H)
  (try (have hji3l : 0 ≤ ji3 := by (rw [← hji3]; unfold mx; (repeat' split) <;> omega)))
  (try (have hji3m : 0 ≤ ji3 := by omega))
  have hji3_ : (if a1 < 0 then 0 else a1) = ji3 := hji3
  obtain ⟨ji4, hji4⟩ : ∃ j_ : Int, (mn (ji3) (l0.length : Int)) = j_ := ⟨_, rfl⟩
  replace H : ((lines_head.f k l0 (ji4)).bind fun t179 => (if (ji4) > t179 then ((lines_tail.f l0 (ji4)).bind fun t180 => (if (ji4) = t180 then (some (wrap64 ((ji4) - 1))) else (some ji4))) else (some ji4))) = some r := by first | (rw [hji4] at H; exact H) | (simp only [hji4] at H ⊢; exact H)
  have hji4_ : (if (l0.length : Int) < (ji3) then (l0.length : Int) else (ji3)) = ji4 := hji4
  replace H := Option.bind_eq_some_iff.mp H
  obtain ⟨t179, A50, H⟩ := H
  replace H : (if (ji4) > t179 then ((lines_tail.f l0 (ji4)).bind fun t180 => (if (ji4) = t180 then (some (wrap64 ((ji4) - 1))) else (some ji4))) else (some ji4)) = some r := H
  have A5 := Aside0.mk A50
  clear A50
  by_cases c6 : (ji4) > t179
  · rw [if_pos c6] at H
    have c6b0 : decide (t179 < (ji4)) = true := decide_eq_true c6
    clear c6
    replace H := Option.bind_eq_some_iff.mp H
    obtain ⟨t180, A70, H⟩ := H
    replace H : (if (ji4) = t180 then (some (wrap64 ((ji4) - 1))) else (some ji4)) = some r := H
    have A7 := Aside0.mk A70
    clear A70
    by_cases c8 : (ji4) = t180
    · rw [if_pos c8] at H
      have c8b0 : ((ji4) == t180) = true := beq_iff_eq.mpr c8
      have c8b1 : ((ji4) != t180) = false := bne_eq_false_iff_eq.mpr c8
      clear c8
      obtain rfl := Option.some.inj H
      go_enter Tryd.func22, Tryd.ntmps22
      go_wp2_with (first | ((with_reducible refine gate_callee (f := 37) rfl ?_); refine goesL_ (some 13) rfl rfl Tryd.func37 (by kernel_rfl) rfl #[.slice A0 l0.length c0, .int .i64 ji4] rfl (by (try simp only [List.map_toArray, List.map_cons, List.map_nil]); first | done | (simp only [hji4]; rfl) | rfl | (simp only [List.length_drop, List.length_take]; rfl)) ?_; (with_reducible refine (lines_head.calls k _ _ l0 ji4 t179 _ ?side1 ?side2 A5.out).mono ?_); (case side1 => repeat (first | exact HR0.out | (with_reducible refine Kd.C_alloc ?_ _) | (with_reducible refine Kd.C_drewN ?_ _) | (with_reducible refine Kd.C_drew ?_))); (case side2 => exact HC0.out); rintro e w' ⟨rfl, ⟨nd, rfl⟩⟩; refine ⟨_, rfl, ?_⟩) | (go_at_call 38; (with_reducible refine (lines_tail.calls _ _ l0 ji4 t180 _ ?side1 ?side2 A7.out).mono ?_); (case side1 => repeat (first | exact HR0.out | (with_reducible refine Kd.C_alloc ?_ _) | (with_reducible refine Kd.C_drewN ?_ _) | (with_reducible refine Kd.C_drew ?_))); (case side2 => exact HC0.out); rintro e w' ⟨rfl, ⟨nd, rfl⟩⟩))
      go_ret
      exact ⟨by first | rfl | (simp [errW_none, errW_some] <;> rfl) | (simp only [← hji3, ← hji4]; first | rfl | (simp [errW_none, errW_some] <;> rfl)) | (simp [*, errW_none, errW_some] <;> rfl), by repeat (first | (with_reducible first | exact HB.out | apply below_alloc | apply pw_below_drewN | apply below_drew1) | exact HB.out)⟩
    · rw [if_neg c8] at H
      have c8b0 : ((ji4) == t180) = false := beq_eq_false_iff_ne.mpr c8
      have c8b1 : ((ji4) != t180) = true := bne_iff_ne.mpr c8
      obtain rfl := Option.some.inj H
      go_enter Tryd.func22, Tryd.ntmps22
      go_wp2_with (first | ((with_reducible refine gate_callee (f := 37) rfl ?_); refine goesL_ (some 13) rfl rfl Tryd.func37 (by kernel_rfl) rfl #[.slice A0 l0.length c0, .int .i64 ji4] rfl (by (try simp only [List.map_toArray, List.map_cons, List.map_nil]); first | done | (simp only [hji4]; rfl) | rfl | (simp only [List.length_drop, List.length_take]; rfl)) ?_; (with_reducible refine (lines_head.calls k _ _ l0 ji4 t179 _ ?side1 ?side2 A5.out).mono ?_); (case side1 => repeat (first | exact HR0.out | (with_reducible refine Kd.C_alloc ?_ _) | (with_reducible refine Kd.C_drewN ?_ _) | (with_reducible refine Kd.C_drew ?_))); (case side2 => exact HC0.out); rintro e w' ⟨rfl, ⟨nd, rfl⟩⟩; refine ⟨_, rfl, ?_⟩) | (go_at_call 38; (with_reducible refine (lines_tail.calls _ _ l0 ji4 t180 _ ?side1 ?side2 A7.out).mono ?_); (case side1 => repeat (first | exact HR0.out | (with_reducible refine Kd.C_alloc ?_ _) | (with_reducible refine Kd.C_drewN ?_ _) | (with_reducible refine Kd.C_drew ?_))); (case side2 => exact HC0.out); rintro e w' ⟨rfl, ⟨nd, rfl⟩⟩))
      go_ret
      exact ⟨by first | rfl | (simp [errW_none, errW_some] <;> rfl) | (simp only [← hji3, ← hji4]; first | rfl | (simp [errW_none, errW_some] <;> rfl)) | (simp [*, errW_none, errW_some] <;> rfl), by repeat (first | (with_reducible first | exact HB.out | apply below_alloc | apply pw_below_drewN | apply below_drew1) | exact HB.out)⟩
  · rw [if_neg c6] at H
    have c6b0 : decide (t179 < (ji4)) = false := decide_eq_false c6
    clear c6
    obtain rfl := Option.some.inj H
    go_enter Tryd.func22, Tryd.ntmps22
    go_wp2_with (first | ((with_reducible refine gate_callee (f := 37) rfl ?_); refine goesL_ (some 13) rfl rfl Tryd.func37 (by kernel_rfl) rfl #[.slice A0 l0.length c0, .int .i64 ji4] rfl (by (try simp only [List.map_toArray, List.map_cons, List.map_nil]); first | done | (simp only [hji4]; rfl) | rfl | (simp only [List.length_drop, List.length_take]; rfl)) ?_; (with_reducible refine (lines_head.calls k _ _ l0 ji4 t179 _ ?side1 ?side2 A5.out).mono ?_); (case side1 => repeat (first | exact HR0.out | (with_reducible refine Kd.C_alloc ?_ _) | (with_reducible refine Kd.C_drewN ?_ _) | (with_reducible refine Kd.C_drew ?_))); (case side2 => exact HC0.out); rintro e w' ⟨rfl, ⟨nd, rfl⟩⟩; refine ⟨_, rfl, ?_⟩))
    go_ret
    exact ⟨by first | rfl | (simp [errW_none, errW_some] <;> rfl) | (simp only [← hji3, ← hji4]; first | rfl | (simp [errW_none, errW_some] <;> rfl)) | (simp [*, errW_none, errW_some] <;> rfl), by repeat (first | (with_reducible first | exact HB.out | apply below_alloc | apply pw_below_drewN | apply below_drew1) | exact HB.out)⟩

end Go.Proofs.YtffpkldphkmjmaaDoor.X
end
section
namespace Go.Proofs.YtffpkldphkmjmaaDoor.PT
open Go.RowKit Go.Proofs.YtffpkldphkmjmaaDoorW.PrintWords Go.Proofs.YtffpkldphkmjmaaDoorW.PrintMore
set_option linter.unusedVariables false
/-- A line of a text, and where it begins. -/
def Ln (t : List Int) (st : Nat) (line : List Int) : Prop := ∃ pre post, t = pre ++ line ++ post ∧ pre.length = st ∧ (pre = [] ∨ ∃ p, pre = p ++ [10]) ∧ (∀ x ∈ line, x ≠ 10) ∧ (post = [] ∨ ∃ p, post = 10 :: p)
theorem Ln_cons {t line : List Int} {st : Nat} (h : Ln t st line) : Ln (10 :: t) (st + 1) line := by
  obtain ⟨pre, post, h1, h2, h3, h4, h5⟩ := h
  refine ⟨10 :: pre, post, by rw [h1]; simp, by simp [h2], .inr ?_, h4, h5⟩
  rcases h3 with rfl | ⟨p, rfl⟩
  · exact ⟨[], rfl⟩
  · exact ⟨10 :: p, rfl⟩
theorem split_lines (t : List Int) : ∀ i, i < (X.splitR t).length → Ln t (tot ((X.splitR t).take i)) ((X.splitR t).getD i []) := by
  induction t with
  | nil =>
    intro i hi
    have : i = 0 := by simp [X.splitR] at hi; omega
    subst this
    exact ⟨[], [], rfl, rfl, .inl rfl, fun x hx => by simp [X.splitR] at hx, .inl rfl⟩
  | cons x t ih =>
    intro i hi
    by_cases h : x = 10
    · have e : X.splitR (x :: t) = [] :: X.splitR t := by
        conv => lhs; unfold X.splitR
        rw [if_pos h]
      rw [e] at hi ⊢
      subst h
      cases i with
      | zero => exact ⟨[], 10 :: t, rfl, rfl, .inl rfl, (fun x hx => by simp at hx), .inr ⟨t, rfl⟩⟩
      | succ i =>
        have := Ln_cons (ih i (by simpa using hi))
        rw [List.take_succ_cons, tot_cons, List.getD_cons_succ]
        rw [show ([] : List Int).length + 1 + tot ((X.splitR t).take i) = tot ((X.splitR t).take i) + 1 from by simp; omega]
        exact this
    · cases e0 : X.splitR t with
      | nil => exact absurd e0 (X.splitR_ne t)
      | cons p r =>
        have e : X.splitR (x :: t) = (x :: p) :: r := by
          conv => lhs; unfold X.splitR
          rw [if_neg h, e0]
        rw [e] at hi ⊢
        cases i with
        | zero =>
          have h0 := ih 0 (by rw [e0]; simp)
          rw [e0] at h0
          obtain ⟨pre, post, h1, h2, h3, h4, h5⟩ := h0
          have hp : pre = [] := List.eq_nil_of_length_eq_zero (by rw [h2]; rfl)
          subst hp
          refine ⟨[], post, by simp only [List.getD_cons_zero] at h1 ⊢; rw [h1]; simp, rfl, .inl rfl, fun y hy => ?_, h5⟩
          simp only [List.getD_cons_zero] at h4 hy
          rcases List.mem_cons.1 hy with e3 | e3
          · rw [e3]; exact h
          · exact h4 y e3
        | succ i =>
          have h0 := ih (i + 1) (by rw [e0]; simpa using hi)
          rw [e0, List.take_succ_cons, tot_cons, List.getD_cons_succ] at h0
          rw [List.take_succ_cons, tot_cons, List.getD_cons_succ]
          obtain ⟨pre, post, h1, h2, h3, h4, h5⟩ := h0
          refine ⟨x :: pre, post, by rw [h1]; simp, by simp only [List.length_cons, h2]; omega, .inr ?_, h4, h5⟩
          rcases h3 with rfl | ⟨p', rfl⟩
          · simp only [List.length_nil] at h2
            omega
          · exact ⟨x :: p', rfl⟩
theorem rd_mid (pre post : List Int) (b : Int) : rd (pre ++ b :: post) (pre.length : Int) = b := by
  unfold rd
  rw [Int.toNat_natCast, List.getD_eq_getElem?_getD, List.getElem?_append_right (Nat.le_refl _), Nat.sub_self]
  rfl
theorem last_scan {xs rest : List Int} {pre : List Int} (hx : xs = pre ++ rest) (hp : pre = [] ∨ ∃ p, pre = p ++ [10]) (hr : ∀ x ∈ rest, x ≠ 10) (hb : xs.length ≤ 1000000000000) : ∀ (m k : Nat), m ≤ rest.length → m + 2 ≤ k → X.bytealg_LastIndexByte.l0 k xs 10 ((pre.length : Int) + m - 1) = some ((pre.length : Int) - 1) := by
  have hl : xs.length = pre.length + rest.length := by rw [hx, List.length_append]
  intro m
  induction m with
  | zero =>
    intro k _ hk
    obtain ⟨k, rfl⟩ : ∃ k', k = k' + 1 := ⟨k - 1, by omega⟩
    unfold X.bytealg_LastIndexByte.l0
    rcases hp with rfl | ⟨p, rfl⟩
    · rw [if_neg (by simp)]; rfl
    · have e : ((p ++ [10]).length : Int) + ((0 : Nat) : Int) - 1 = (p.length : Int) := by simp
      have e2 : rd xs (p.length : Int) = 10 := by rw [hx, List.append_assoc]; exact rd_mid p rest 10
      rw [e, if_pos (by omega), if_pos (by omega), if_pos (by rw [hl]; simp; omega), if_pos e2]
      simp
  | succ m ih =>
    intro k hm hk
    obtain ⟨k, rfl⟩ : ∃ k', k = k' + 1 := ⟨k - 1, by omega⟩
    unfold X.bytealg_LastIndexByte.l0
    have e : (pre.length : Int) + ((m + 1 : Nat) : Int) - 1 = ((pre.length + m : Nat) : Int) := by omega
    have e2 : rd xs ((pre.length + m : Nat) : Int) ≠ 10 := by
      unfold rd
      rw [Int.toNat_natCast, hx, List.getD_eq_getElem?_getD, List.getElem?_append_right (by omega), show pre.length + m - pre.length = m from by omega, List.getElem?_eq_getElem (by omega)]
      exact hr _ (List.getElem_mem _)
    rw [e, if_pos (by omega), if_pos (by omega), if_pos (by omega), if_neg e2]
    have ew : wrap64 (((pre.length + m : Nat) : Int) - 1) = (pre.length : Int) + m - 1 := by unfold wrap64; omega
    rw [ew]
    exact ih k (by omega) (by omega)
theorem idx_none {xs : List Int} (h : ∀ x ∈ xs, x ≠ 10) : X.idx 10 xs = -1 := by
  induction xs with
  | nil => rfl
  | cons x xs ih =>
    unfold X.idx
    rw [if_neg (h x (by simp)), ih (fun y hy => h y (by simp [hy])), if_pos rfl]
theorem idx_some {xs post : List Int} (h : ∀ x ∈ xs, x ≠ 10) : X.idx 10 (xs ++ 10 :: post) = xs.length := by
  induction xs with
  | nil => show X.idx 10 (10 :: post) = _; unfold X.idx; rw [if_pos rfl]; rfl
  | cons x xs ih =>
    have e := ih (fun y hy => h y (by simp [hy]))
    show X.idx 10 (x :: (xs ++ 10 :: post)) = _
    unfold X.idx
    rw [if_neg (h x (by simp)), e, if_neg (by omega)]
    simp
theorem head_at {t line : List Int} {st a : Nat} (h : Ln t st line) (ha : a ≤ line.length) (hb : t.length ≤ 1000000000000) (k : Nat) (hk : t.length + 2 ≤ k) : X.lines_head.f k t ((st + a : Nat) : Int) = some (st : Int) := by
  obtain ⟨pre, post, rfl, rfl, h3, h4, h5⟩ := h
  have hlen : (pre ++ line ++ post).length = pre.length + line.length + post.length := by simp; omega
  unfold X.lines_head.f
  rw [if_pos (by omega), if_pos (by rw [hlen]; omega), Int.toNat_natCast]
  have ht : (pre ++ line ++ post).take (pre.length + a) = pre ++ line.take a := by
    rw [List.append_assoc, List.take_append, List.take_of_length_le (by omega), show pre.length + a - pre.length = a from by omega, List.take_append_of_le_length ha]
  rw [ht]
  have hs := last_scan (xs := pre ++ line.take a) (rest := line.take a) rfl h3 (fun x hx => h4 x (List.mem_of_mem_take hx)) (by rw [List.length_append, List.length_take]; omega) a k (by rw [List.length_take]; omega) (by omega)
  unfold X.bytes_LastIndexByte.f X.bytealg_LastIndexByte.f
  have ew : wrap64 (((pre ++ line.take a).length : Int) - 1) = (pre.length : Int) + a - 1 := by
    have : (pre ++ line.take a).length = pre.length + a := by rw [List.length_append, List.length_take]; omega
    rw [this]
    unfold wrap64; omega
  rw [ew, hs]
  show some (wrap64 (((pre.length : Int) - 1) + 1)) = some (pre.length : Int)
  congr 1
  unfold wrap64; omega
theorem tail_at {t line : List Int} {st a : Nat} (h : Ln t st line) (ha : a ≤ line.length) (hb : t.length ≤ 1000000000000) (hu : ∀ x ∈ t, 0 ≤ x ∧ x ≤ 255) : X.lines_tail.f t ((st + a : Nat) : Int) = some ((st : Int) + line.length) := by
  obtain ⟨pre, post, rfl, rfl, h3, h4, h5⟩ := h
  have hlen : (pre ++ line ++ post).length = pre.length + line.length + post.length := by simp; omega
  unfold X.lines_tail.f
  rw [if_pos (by omega), if_pos (by rw [hlen]; omega), Int.toNat_natCast]
  have hd : (pre ++ line ++ post).drop (pre.length + a) = line.drop a ++ post := by
    rw [List.append_assoc, List.drop_append, List.drop_eq_nil_of_le (by omega), List.nil_append, show pre.length + a - pre.length = a from by omega, List.drop_append_of_le_length ha]
  rw [hd]
  have hu8 : X.u8s (line.drop a ++ post) = true := by
    unfold X.u8s
    rw [List.all_eq_true]
    intro x hx
    have := hu x (by
      rcases List.mem_append.1 hx with e | e
      · simp [List.mem_of_mem_drop e]
      · simp [e])
    simp; omega
  have hn : ∀ x ∈ line.drop a, x ≠ 10 := fun x hx => h4 x (List.mem_of_mem_drop hx)
  unfold X.bytes_IndexByte.f
  rw [hu8]
  rcases h5 with rfl | ⟨p, rfl⟩
  · rw [List.append_nil, idx_none hn]
    simp
  · rw [idx_some hn]
    have hdl : (line.drop a).length = line.length - a := List.length_drop
    have e2 : ((line.drop a).length : Int) ≥ 0 := by omega
    have ew : wrap64 (((pre.length + a : Nat) : Int) + ((line.drop a).length : Int)) = (pre.length : Int) + line.length := by
      rw [hdl]
      unfold wrap64; omega
    simp only [Bool.true_and]
    rw [if_pos (by decide), Option.bind_some, if_pos e2, ew]
/-- Where the cursor rests. -/
theorem rest_at {t line : List Int} {st a : Nat} (h : Ln t st line) (ha : a ≤ line.length) (hb : t.length ≤ 1000000000000) (hu : ∀ x ∈ t, 0 ≤ x ∧ x ≤ 255) (k : Nat) (hk : t.length + 2 ≤ k) : X.lines_Rest.f k t ((st + a : Nat) : Int) = some (restH line.length st a) := by
  have h1 := head_at h ha hb k hk
  have h2 := tail_at h ha hb hu
  have hle : st + a ≤ t.length := by
    obtain ⟨pre, post, rfl, rfl, _⟩ := h
    simp; omega
  unfold X.lines_Rest.f
  have e : Go.Proofs.YtffpkldphkmjmaaDoorW.PrintWords.mn (Go.Proofs.YtffpkldphkmjmaaDoorW.PrintWords.mx ((st + a : Nat) : Int) 0) (t.length : Int) = ((st + a : Nat) : Int) := by unfold Go.Proofs.YtffpkldphkmjmaaDoorW.PrintWords.mn Go.Proofs.YtffpkldphkmjmaaDoorW.PrintWords.mx; split <;> split <;> omega
  rw [e, h1, Option.bind_some, h2]
  unfold restH
  by_cases ha0 : 0 < a
  · rw [if_pos (show ((st + a : Nat) : Int) > (st : Int) by omega), Option.bind_some]
    by_cases he : a = line.length
    · rw [if_pos (by omega), if_pos ⟨he, ha0⟩]
      congr 1
      unfold wrap64; omega
    · rw [if_neg (by omega), if_neg (fun h => he h.1)]
      congr 1
  · rw [if_neg (by omega), if_neg (fun h => ha0 h.2)]
    congr 1
/-- A match begins at a place. -/
def Mt (line : List Int) (pl : List PTh) (a : Nat) : Prop := 0 ≤ rd (endsV line pl) (a : Int)
theorem find_at {line : List Int} {pl : List PTh} {a : Nat} (ha : a ≤ line.length) : Mt line pl a ↔ (findV line pl a).2.2 = true ∧ (findV line pl a).1 = a := by
  have hs := find_spec line pl a
  unfold Mt
  constructor
  · intro hm
    cases e : (findV line pl (a : Int)).2.2 with
    | false => have := (hs.2 e).2 (by omega) (a : Int) (by omega) (by omega); omega
    | true =>
      obtain ⟨h1, h2, h3, h4, h5, h6⟩ := hs.1 e
      refine ⟨rfl, ?_⟩
      rcases Int.lt_or_eq_of_le h2 with h7 | h7
      · have := h6 (a : Int) (by omega) h7; omega
      · exact h7.symm
  · intro ⟨e, e1⟩
    obtain ⟨h1, h2, h3, h4, h5, h6⟩ := hs.1 e
    rw [e1] at h5
    omega
theorem push_mem (acc : List Int) (x y : Int) : y ∈ push acc x ↔ y ∈ acc ∨ y = x := by
  unfold push
  split
  · simp
  · rename_i h
    constructor
    · exact .inl
    · rintro (h1 | rfl)
      · exact h1
      · have h2 : acc ≠ [] := fun e => h (.inl e)
        have h3 : rd acc ((acc.length : Int) - 1) = y := by
          by_cases e : rd acc ((acc.length : Int) - 1) = y
          · exact e
          · exact absurd (.inr e) h
        have h0 := List.length_pos_iff.2 h2
        rw [← h3]
        unfold rd
        rw [show ((acc.length : Int) - 1).toNat = acc.length - 1 from by omega, List.getD_eq_getElem?_getD, List.getElem?_eq_getElem (by omega)]
        exact List.getElem_mem _
theorem lineH_mem (line : List Int) (pl : List PTh) (st : Nat) (x : Int) : ∀ (d f : Nat) (acc : List Int), line.length + 2 ≤ f + d → f ≤ line.length + 1 → (x ∈ lineH line pl st d f acc ↔ x ∈ acc ∨ ∃ a, f ≤ a ∧ a ≤ line.length ∧ Mt line pl a ∧ x = restH line.length st a) := by
  intro d
  induction d with
  | zero => intro f acc h1 h2; omega
  | succ d ih =>
    intro f acc h1 h2
    unfold lineH
    have hs := find_spec line pl f
    by_cases h : (findV line pl (f : Int)).2.2 = true
    · rw [if_pos h]
      obtain ⟨k0, k1, k2, k3, k4, k5⟩ := hs.1 h
      obtain ⟨b, hb⟩ : ∃ b : Nat, (findV line pl (f : Int)).1 = (b : Int) := ⟨(findV line pl (f : Int)).1.toNat, by omega⟩
      rw [hb] at k1 k2 k4 k5 ⊢
      rw [Int.toNat_natCast, ih (b + 1) _ (by omega) (by omega), push_mem]
      have hmb : Mt line pl b := by unfold Mt; omega
      constructor
      · rintro ((h3 | h3) | ⟨a, h3, h4, h5, h6⟩)
        · exact .inl h3
        · exact .inr ⟨b, by omega, by omega, hmb, h3⟩
        · exact .inr ⟨a, by omega, h4, h5, h6⟩
      · rintro (h3 | ⟨a, h3, h4, h5, h6⟩)
        · exact .inl (.inl h3)
        · rcases Nat.lt_trichotomy a b with h7 | h7 | h7
          · have := k5 (a : Int) (by omega) (by omega)
            unfold Mt at h5
            omega
          · exact .inl (.inr (by rw [h6, h7]))
          · exact .inr ⟨a, by omega, h4, h5, h6⟩
    · rw [if_neg h]
      have hf : (findV line pl (f : Int)).2.2 = false := by simpa using h
      have hn := (hs.2 hf).2 (by omega)
      constructor
      · exact .inl
      · rintro (h3 | ⟨a, h3, h4, h5, h6⟩)
        · exact h3
        · have := hn (a : Int) (by omega) (by omega)
          unfold Mt at h5
          omega
theorem linesH_mem (pl : List PTh) (x : Int) : ∀ (ls : List (List Int)) (st : Nat) (acc : List Int), x ∈ linesH pl ls st acc ↔ x ∈ acc ∨ ∃ i a, i < ls.length ∧ a ≤ (ls.getD i []).length ∧ Mt (ls.getD i []) pl a ∧ x = restH (ls.getD i []).length (st + tot (ls.take i)) a := by
  intro ls
  induction ls with
  | nil =>
    intro st acc
    constructor
    · exact .inl
    · rintro (h | ⟨i, a, h, _⟩)
      · exact h
      · simp at h
  | cons l ls ih =>
    intro st acc
    show x ∈ linesH pl ls (st + l.length + 1) (lineH l pl st (l.length + 2) 0 acc) ↔ _
    rw [ih, lineH_mem l pl st x (l.length + 2) 0 acc (by omega) (by omega)]
    constructor
    · rintro ((h | ⟨a, h1, h2, h3, h4⟩) | ⟨i, a, h1, h2, h3, h4⟩)
      · exact .inl h
      · exact .inr ⟨0, a, by simp, h2, h3, by simpa [tot] using h4⟩
      · refine .inr ⟨i + 1, a, by simpa using h1, h2, h3, ?_⟩
        rw [List.take_succ_cons, tot_cons, List.getD_cons_succ, h4]
        congr 1
        omega
    · rintro (h | ⟨i, a, h1, h2, h3, h4⟩)
      · exact .inl (.inl h)
      · cases i with
        | zero => exact .inl (.inr ⟨a, by omega, h2, h3, by simpa [tot] using h4⟩)
        | succ i =>
          refine .inr ⟨i, a, by simpa using h1, h2, h3, ?_⟩
          rw [List.take_succ_cons, tot_cons, List.getD_cons_succ] at h4
          rw [h4]
          congr 1
          omega
/-- Which places are hits. -/
theorem hits_mem (t : List Int) (pl : List PTh) (x : Int) : x ∈ hitsV t pl ↔ ∃ i a, i < (X.splitR t).length ∧ a ≤ ((X.splitR t).getD i []).length ∧ Mt ((X.splitR t).getD i []) pl a ∧ x = restH ((X.splitR t).getD i []).length (tot ((X.splitR t).take i)) a := by
  unfold hitsV
  rw [linesH_mem]
  constructor
  · rintro (h | ⟨i, a, h⟩)
    · cases h
    · rw [Nat.zero_add] at h; exact ⟨i, a, h⟩
  · rintro ⟨i, a, h⟩
    exact .inr ⟨i, a, by rw [Nat.zero_add]; exact h⟩
end Go.Proofs.YtffpkldphkmjmaaDoor.PT
end
section
namespace Go.Proofs.YtffpkldphkmjmaaDoor.PT
open Go.RowKit Go.Proofs.YtffpkldphkmjmaaDoorW.PrintWords Go.Proofs.YtffpkldphkmjmaaDoorW.PrintMore
set_option linter.unusedVariables false
attribute [local go_sem] max2_int min2_int max_two min_two   -- for this text's walks alone
set_option maxHeartbeats 1000000 in
set_option maxRecDepth 100000 in
theorem rest_reads {w : World} {A : Option Addr} {c : Nat} {t : List Int} {x st fi : Nat} {k : Nat} (hr : Kd.C (Kd.int .u8) w A t.length t) (hc : t.length ≤ c) (hx : x ≤ t.length) (hb : t.length ≤ 1000000000000) (hh : X.lines_head.f k t (x : Int) = some (st : Int)) (ht : X.lines_tail.f t (x : Int) = some (fi : Int)) :
    Calls Tryd.prog 22 #[.slice A t.length c, .int .i64 (x : Int)] w fun e w' => e = .returned (.int .i64 (if st < x ∧ x = fi then (x : Int) - 1 else x)) ∧ Drawn0 w w' := by
  have HH : Aside0 (∀ n, Calls Tryd.prog 37 #[.slice A t.length c, .int .i64 (x : Int)] (w.drewN n) fun e w' => e = .returned (.int .i64 (st : Int)) ∧ Drawn0 (w.drewN n) w') := ⟨fun n => X.lines_head.calls k A c t x st _ (Kd.C_drewN hr n) hc hh⟩
  have HT : Aside0 (∀ n, Calls Tryd.prog 38 #[.slice A t.length c, .int .i64 (x : Int)] (w.drewN n) fun e w' => e = .returned (.int .i64 (fi : Int)) ∧ Drawn0 (w.drewN n) w') := ⟨fun n => X.lines_tail.calls A c t x fi _ (Kd.C_drewN hr n) hc ht⟩
  have HH0 := Aside0.mk (X.lines_head.calls k A c t x st w hr hc hh)
  have HT0 := Aside0.mk (X.lines_tail.calls A c t x fi w hr hc ht)
  clear hr hh ht
  have g1 : max (x : Int) 0 = x := by omega
  have g2 : min (x : Int) (t.length : Int) = x := by omega
  have g3 : ((x : Int) < 0) = False := eq_false (by omega)
  have g4 : ((t.length : Int) < (x : Int)) = False := eq_false (by omega)
  by_cases h1 : st < x
  · have q1 : ((st : Int) < (x : Int)) = True := eq_true (by omega)
    by_cases h2 : x = fi
    · rw [if_pos ⟨h1, h2⟩]
      subst h2
      go_enter Tryd.func22, Tryd.ntmps22
      go_wp2_with (first
        | (go_at_call 37; first | (with_reducible refine HH0.out.mono ?_; rintro e w' ⟨rfl, ⟨nd, rfl⟩⟩) | (with_reducible refine (HH.out _).mono ?_; rintro e w' ⟨rfl, ⟨nd, rfl⟩⟩))
        | (go_at_call 38; first | (with_reducible refine HT0.out.mono ?_; rintro e w' ⟨rfl, ⟨nd2, rfl⟩⟩) | (with_reducible refine (HT.out _).mono ?_; rintro e w' ⟨rfl, ⟨nd2, rfl⟩⟩)))
      exact bodyPost_ret (v := .int .i64 ((x : Int) - 1)) (by simp [results, Tryd.results22, go_sem]) rfl ⟨rfl, ⟨_, rfl⟩⟩
    · rw [if_neg (fun h => h2 h.2)]
      have q2 : ((x : Int) = (fi : Int)) = False := eq_false (by omega)
      have q3 : ((x : Int) == (fi : Int)) = false := beq_eq_false_iff_ne.2 (by omega)
      have q4 : (x = fi) = False := eq_false h2
      go_enter Tryd.func22, Tryd.ntmps22
      go_wp2_with (first
        | (go_at_call 37; first | (with_reducible refine HH0.out.mono ?_; rintro e w' ⟨rfl, ⟨nd, rfl⟩⟩) | (with_reducible refine (HH.out _).mono ?_; rintro e w' ⟨rfl, ⟨nd, rfl⟩⟩))
        | (go_at_call 38; first | (with_reducible refine HT0.out.mono ?_; rintro e w' ⟨rfl, ⟨nd2, rfl⟩⟩) | (with_reducible refine (HT.out _).mono ?_; rintro e w' ⟨rfl, ⟨nd2, rfl⟩⟩)))
      exact bodyPost_ret (v := .int .i64 (x : Int)) (by simp [results, Tryd.results22, go_sem]) rfl ⟨rfl, ⟨_, rfl⟩⟩
  · rw [if_neg (fun h => h1 h.1)]
    have q1 : ((st : Int) < (x : Int)) = False := eq_false (by omega)
    go_enter Tryd.func22, Tryd.ntmps22
    go_wp2_with (go_at_call 37; first | (with_reducible refine HH0.out.mono ?_; rintro e w' ⟨rfl, ⟨nd, rfl⟩⟩) | (with_reducible refine (HH.out _).mono ?_; rintro e w' ⟨rfl, ⟨nd, rfl⟩⟩))
    exact bodyPost_ret (v := .int .i64 (x : Int)) (by simp [results, Tryd.results22, go_sem]) rfl ⟨rfl, ⟨_, rfl⟩⟩
/-- Rest in a line. -/
theorem rest_line {w : World} {A : Option Addr} {c : Nat} {t line : List Int} {st a : Nat} (hr : Kd.C (Kd.int .u8) w A t.length t) (hc : t.length ≤ c) (hb : t.length ≤ 1000000000000) (hu : ∀ x ∈ t, 0 ≤ x ∧ x ≤ 255) (h : Ln t st line) (ha : a ≤ line.length) :
    Calls Tryd.prog 22 #[.slice A t.length c, .int .i64 ((st + a : Nat) : Int)] w fun e w' => e = .returned (.int .i64 (restH line.length st a)) ∧ Drawn0 w w' := by
  have hle : st + line.length ≤ t.length := by
    obtain ⟨pre, post, rfl, rfl, _⟩ := h
    simp
  have h2 := rest_reads (x := st + a) (st := st) (fi := st + line.length) (k := t.length + 2) hr hc (by omega) hb (head_at h ha hb _ (Nat.le_refl _)) (by rw [tail_at h ha hb hu]; congr 1)
  have e : (if st < st + a ∧ st + a = st + line.length then ((st + a : Nat) : Int) - 1 else ((st + a : Nat) : Int)) = restH line.length st a := by
    unfold restH
    by_cases h3 : a = line.length ∧ 0 < a
    · rw [if_pos (by omega), if_pos h3]; omega
    · rw [if_neg (by omega), if_neg h3]; omega
  rw [e] at h2
  exact h2
/-- Where one rests, one rests. -/
theorem rest_self {w : World} {A : Option Addr} {c : Nat} {t line : List Int} {st a : Nat} (hr : Kd.C (Kd.int .u8) w A t.length t) (hc : t.length ≤ c) (hb : t.length ≤ 1000000000000) (hu : ∀ x ∈ t, 0 ≤ x ∧ x ≤ 255) (h : Ln t st line) (ha : a ≤ line.length) :
    Calls Tryd.prog 22 #[.slice A t.length c, .int .i64 (restH line.length st a)] w fun e w' => e = .returned (.int .i64 (restH line.length st a)) ∧ Drawn0 w w' := by
  by_cases e : a = line.length ∧ 0 < a
  · have e1 : restH line.length st a = ((st + (a - 1) : Nat) : Int) := by unfold restH; rw [if_pos e]; omega
    have e2 : restH line.length st (a - 1) = ((st + (a - 1) : Nat) : Int) := by unfold restH; rw [if_neg (by omega)]; omega
    have h2 := rest_line hr hc hb hu h (show a - 1 ≤ line.length by omega)
    rw [e2] at h2
    rw [e1]
    exact h2
  · have e1 : restH line.length st a = ((st + a : Nat) : Int) := by unfold restH; rw [if_neg e]; omega
    have h2 := rest_line hr hc hb hu h ha
    rw [e1] at h2 ⊢
    exact h2
end Go.Proofs.YtffpkldphkmjmaaDoor.PT
end
section
namespace Go.Proofs.YtffpkldphkmjmaaDoor.XO
open Go.RowKit Go.Proofs.YtffpkldphkmjmaaDoorW.PrintWords Go.Proofs.YtffpkldphkmjmaaDoor.X
def okS24 (x : S24) : Prop := (okSl 1 okU8) x.f0 ∧ (okSl 1 okU8) x.f1 ∧ okI64 x.f2 ∧ okI64 x.f3 ∧ okBool x.f4
def szS24 (x : S24) : Nat := ((szSl szOne) x.f0 + ((szSl szOne) x.f1 + (szOne x.f2 + (szOne x.f3 + szOne x.f4)))) + 1
theorem opens24 : Opens Tryd.prog 24 k24 okS24 szS24 := by
  have h := opens_iso (f := fun x : S24 => (x.f0, x.f1, x.f2, x.f3, x.f4)) (fun a => ⟨a.1, a.2.1, a.2.2.1, a.2.2.2.1, a.2.2.2.2⟩) (fun _ => rfl) (opens_struct Tryd.underlying24 (by kernel_rfl) (of_cons rfl (by kernel_rfl) (opens_sl (B := 1) Tryd.underlying22 (opens_u8 Tryd.underlying5) (by kernel_rfl) (by kernel_rfl)) (of_cons rfl (by kernel_rfl) (opens_sl (B := 1) Tryd.underlying22 (opens_u8 Tryd.underlying5) (by kernel_rfl) (by kernel_rfl)) (of_cons rfl (by kernel_rfl) (opens_i64 Tryd.underlying3) (of_cons rfl (by kernel_rfl) (opens_i64 Tryd.underlying3) (of_last rfl (by kernel_rfl) (opens_bool Tryd.underlying4)))))))
  exact h
end Go.Proofs.YtffpkldphkmjmaaDoor.XO
end
section
namespace Go.Proofs.YtffpkldphkmjmaaDoor.WalkHuntRests
open Go.RowKit Go.Proofs.YtffpkldphkmjmaaDoorW.PrintWords Go.Proofs.YtffpkldphkmjmaaDoorW.PrintMore Go.Proofs.YtffpkldphkmjmaaDoor.X Go.Proofs.YtffpkldphkmjmaaDoor.XO Go.Proofs.YtffpkldphkmjmaaDoor.PT
set_option linter.unusedVariables false
set_option linter.unusedSimpArgs false
theorem sum_len (l : List Int) : l.length ≤ (l.map szOne).sum := by
  induction l with
  | nil => simp
  | cons x l ih => have : szOne x = 1 := rfl; simp only [List.map_cons, List.sum_cons, List.length_cons]; omega
theorem u8_all (l : List Int) (h : okSl 1 okU8 l) : ∀ i, 0 ≤ rd l i ∧ rd l i ≤ 255 := rd_mem (P := fun x => 0 ≤ x ∧ x ≤ 255) l (fun x hx => h.2 x hx) (by decide)
theorem hunt_ok {n : Nat} {l : List Int} {p c : Int} {back : Bool} (h : ¬ (p < 0 ∨ p > n ∨ c < 0 ∨ c > 9999)) (hl : l ≠ []) : huntV n l p c back = ((p, pickV l p c back, 1), 0) := by
  unfold huntV
  rw [if_neg h, if_neg hl]
/-- A row that stands, over what only makes. -/
theorem blk_b {W w' : World} {k : Nat} {o : Obj} (hx : Below W.heap.size W w') (hb : W.heap[k]? = some o) : w'.heap[k]? = some o := blk_below hb hx
theorem mem_ix {l : List Int} {x : Int} (h : x ∈ l) : ∃ j : Nat, j < l.length ∧ rd l (j : Int) = x := by
  obtain ⟨j, hj, e⟩ := List.mem_iff_getElem.1 h
  refine ⟨j, hj, ?_⟩
  unfold rd
  rw [Int.toNat_natCast, List.getD_eq_getElem?_getD, List.getElem?_eq_getElem hj]
  exact e
theorem ix_mem {l : List Int} {j : Nat} (hj : j < l.length) : rd l (j : Int) ∈ l := by
  unfold rd
  rw [Int.toNat_natCast, List.getD_eq_getElem?_getD, List.getElem?_eq_getElem hj]
  exact List.getElem_mem hj
/-- None is passed by. -/
theorem none_by {l : List Int} (h : l.Pairwise (· < ·)) (hl : l ≠ []) (p r : Int) (hr : r ∈ l) : (p < rd l (pickI l p 1 false : Nat) ∧ p < r ∧ ¬ r < rd l (pickI l p 1 false : Nat)) ∨ (p < rd l (pickI l p 1 false : Nat) ∧ ¬ p < r) ∨ (¬ p < rd l (pickI l p 1 false : Nat) ∧ ¬ p < r ∧ ¬ r < rd l (pickI l p 1 false : Nat)) := by
  have h0 := List.length_pos_iff.2 hl
  have e : pickI l p 1 false = fI l p l.length := by
    unfold pickI
    rw [if_neg (show ¬ (false = true) by simp), show (1 : Int) = ((1 : Nat) : Int) from rfl, more_pos (Nat.le_refl _), if_neg (show ¬ (false = true) by simp), Nat.sub_self, Nat.zero_mod, Nat.add_zero, Nat.mod_eq_of_lt (fI_lt hl p _)]
  rw [e]
  obtain ⟨j, hj, rfl⟩ := mem_ix hr
  have hs := fI_spec l p l.length (Nat.le_refl _)
  rw [Nat.sub_self] at hs
  rcases hs with ⟨h1, h2⟩ | ⟨_, h2, h3, h4⟩
  · rw [h2]
    have h5 := h1 j (by omega) hj
    have h6 := h1 0 (by omega) h0
    have h7 : rd l ((0 : Nat) : Int) ≤ rd l (j : Int) := by
      cases j with
      | zero => exact Int.le_refl _
      | succ j => exact Int.le_of_lt (inc_lt h (Nat.succ_pos j) hj)
    omega
  · rcases Nat.lt_or_ge j (fI l p l.length) with h5 | h5
    · have := h4 j (by omega) h5
      omega
    · have h6 : rd l ((fI l p l.length : Nat) : Int) ≤ rd l (j : Int) := by
        rcases Nat.lt_or_eq_of_le h5 with h7 | h7
        · exact Int.le_of_lt (inc_lt h h7 hj)
        · rw [h7]; exact Int.le_refl _
      omega
theorem tot_take {ls : List (List Int)} {i : Nat} (hi : i < ls.length) : tot (ls.take (i + 1)) = tot (ls.take i) + (ls.getD i []).length + 1 := by
  induction ls generalizing i with
  | nil => simp at hi
  | cons l ls ih =>
    cases i with
    | zero => simp [tot]
    | succ i =>
      rw [List.take_succ_cons, tot_cons, List.take_succ_cons, tot_cons, ih (by simpa using hi), List.getD_cons_succ]
      omega
theorem tot_le (ls : List (List Int)) (i : Nat) : tot (ls.take i) ≤ tot ls := by
  induction ls generalizing i with
  | nil => simp [tot]
  | cons l ls ih =>
    cases i with
    | zero => simp [tot]
    | succ i => rw [List.take_succ_cons, tot_cons, tot_cons]; have := ih i; omega
set_option maxHeartbeats 8000000 in
set_option maxRecDepth 100000 in
theorem walk (x0 : S24) (A0_0 : Option Addr) (c0_0 : Nat) (A0_1 : Option Addr) (c0_1 : Nat) (w : World) (hr0_0 : Kd.C (Kd.int .u8) w A0_0 x0.f0.length x0.f0) (hc0_0 : x0.f0.length ≤ c0_0) (hr0_1 : Kd.C (Kd.int .u8) w A0_1 x0.f1.length x0.f1) (hc0_1 : x0.f1.length ≤ c0_1) (o0 : okS24 x0) (hb : (szS24 x0 ≤ 1048576)) :
    Calls Tryd.prog 8 #[.agg #[.slice A0_0 x0.f0.length c0_0, .slice A0_1 x0.f1.length c0_1, .int .i64 x0.f2, .int .i64 x0.f3, .bool x0.f4]] w fun e w' => e = .returned (.bool true) ∧ Below w.heap.size w w' := by
  obtain ⟨t, q, p0, cnt, bk⟩ := x0
  obtain ⟨o1, o2, _, _, _⟩ := o0
  simp only at hr0_0 hc0_0 hr0_1 hc0_1 hb o1 o2 ⊢
  have hl0 : t.length ≤ 1048576 := by have := sum_len t; unfold szS24 szSl at hb; simp only at hb; omega
  have hm0 : ∀ x ∈ t, 0 ≤ x ∧ x ≤ 255 := fun x hx => o1.2 x hx
  have hu0 := u8_all t o1
  have hu1 := u8_all q o2
  clear hb o1 o2
  have HB := Aside0.mk (below_alloc (Below.refl w.heap.size w) (.cells #[.slice A0_0 t.length c0_0, .slice A0_1 q.length c0_1, .int .i64 p0, .int .i64 cnt, .bool bk] 24))
  have BX := Aside0.mk (blk_new w (.cells #[.slice A0_0 t.length c0_0, .slice A0_1 q.length c0_1, .int .i64 p0, .int .i64 cnt, .bool bk] 24))
  have HA : ∀ W, Aside0 _ := fun W => ⟨awake_calls (w := W)⟩
  have HC : Aside0 (∀ W, Below w.heap.size w W → Calls Tryd.prog 11 #[.agg #[.slice A0_0 t.length c0_0, .slice A0_1 q.length c0_1, .int .i64 p0, .int .i64 cnt, .bool bk]] W fun e w' => ∃ v, e = .returned (.tuple #[v, .bool (compileV q).1.isSome]) ∧ Below W.heap.size W w' ∧ PatO w' W.heap.size v (compileV q).1) := ⟨fun W h => compiled_calls (Kd.C_below hr0_1 h) hu1⟩
  generalize (compileV q).1 = o at HC
  have HN : Aside0 (∀ (pl : List PTh) (W W' : World) (v : Value) (base : Nat) (p c : Int) (b : Bool), PatO W base v (some pl) → Below w.heap.size w W → Below W.heap.size W W' → Calls Tryd.prog 10 #[.slice A0_0 t.length c0_0, .int .i64 p, .int .i64 c, v, .bool b] W' fun e w' => e = .returned (.tuple #[.agg #[.int .i64 (huntV t.length (hitsV t pl) p c b).1.1, .int .i64 (huntV t.length (hitsV t pl) p c b).1.2.1, .int .i64 (huntV t.length (hitsV t pl) p c b).1.2.2], .int .i64 (huntV t.length (hitsV t pl) p c b).2]) ∧ Below W'.heap.size W' w') := ⟨fun pl W W' v base p c b hp h1 h2 => hunt_calls (Kd.C_below hr0_0 (below_step h1 h2)) hu0 (by omega) hc0_0 (PatO_below hp h2)⟩
  have HT := Aside0.mk (And.intro hr0_0 (And.intro hu0 hm0))
  clear hr0_0 hr0_1 hu0 hu1 hm0
  cases o with
  | none =>
    simp only [Option.isSome_none] at HC
    go_enter Tryd.func8, Tryd.ntmps8
    go_wp2_with (first
      | (go_at_call 9; (with_reducible refine (HA _).out.mono ?_); rintro e w1 ⟨rfl, hx⟩; have BK := Aside0.mk (blk_below BX.out hx); have H1 := Aside0.mk (below_step HB.out hx); clear hx; have c0 := (blk_cell BK.out 0).trans rfl; have c1 := (blk_cell BK.out 1).trans rfl; have c2 := (blk_cell BK.out 2).trans rfl; have c3 := (blk_cell BK.out 3).trans rfl; have c4 := (blk_cell BK.out 4).trans rfl)
      | (go_at_call 11; (with_reducible refine (HC.out _ H1.out).mono ?_); rintro e w2 ⟨v2, rfl, hx, hp⟩; have H2 := Aside0.mk hx; clear hx hp))
    exact bodyPost_ret (v := .bool true) (by simp [results, Tryd.results8, go_sem]) rfl ⟨rfl, below_step H1.out H2.out⟩
  | some pl =>
    simp only [Option.isSome_some] at HC
    by_cases h1000 : 1000 < t.length
    · have g1 : (1000 < (t.length : Int)) = True := eq_true (by omega)
      go_enter Tryd.func8, Tryd.ntmps8
      go_wp2_with (first
        | (go_at_call 9; (with_reducible refine (HA _).out.mono ?_); rintro e w1 ⟨rfl, hx⟩; have BK := Aside0.mk (blk_below BX.out hx); have H1 := Aside0.mk (below_step HB.out hx); clear hx; have c0 := (blk_cell BK.out 0).trans rfl; have c1 := (blk_cell BK.out 1).trans rfl; have c2 := (blk_cell BK.out 2).trans rfl; have c3 := (blk_cell BK.out 3).trans rfl; have c4 := (blk_cell BK.out 4).trans rfl)
        | (go_at_call 11; (with_reducible refine (HC.out _ H1.out).mono ?_); rintro e w2 ⟨v2, rfl, hx, hp⟩; have BK2 := Aside0.mk (blk_below BK.out hx); have H2 := Aside0.mk (And.intro (below_step H1.out hx) hp); clear hx hp; have d0 := (blk_cell BK2.out 0).trans rfl; have d1 := (blk_cell BK2.out 1).trans rfl; have d2 := (blk_cell BK2.out 2).trans rfl; have d3 := (blk_cell BK2.out 3).trans rfl; have d4 := (blk_cell BK2.out 4).trans rfl))
      exact bodyPost_ret (v := .bool true) (by simp [results, Tryd.results8, go_sem]) rfl ⟨rfl, H2.out.1⟩
    have g1 : (1000 < (t.length : Int)) = False := eq_false (by omega)
    have hlb := hits_len t pl
    have hin := hits_inc t pl
    replace HN := HN.out pl
    have hmem := hits_mem t pl
    have hln := split_lines t
    have htot := tot_split t
    have hby := split_bytes (P := fun x => 0 ≤ x ∧ x ≤ 255) t HT.out.2.2
    have hrl := tot_len (X.splitR t)
    have HSP : Aside0 (∀ W, Below w.heap.size w W → Calls Tryd.prog 17 #[.slice A0_0 t.length c0_0] W fun e w' => ∃ v0_ : Value, e = .returned (v0_) ∧ Kd.S (Kd.slice 5 (Kd.int .u8)) 22 w' W.heap.size (fun _ => True) v0_ (X.splitR t) ∧ Below W.heap.size W w') := ⟨fun W h => X.lines_Split.calls A0_0 c0_0 t (X.splitR t) W (Kd.C_below HT.out.1 h) hc0_0 (by
      unfold X.lines_Split.f
      rw [if_pos (by
        unfold X.u8s
        rw [List.all_eq_true]
        intro x hx
        have := HT.out.2.2 x hx
        simp; omega), if_pos (by omega)])⟩
    have HRS : Aside0 (∀ W st line a, Below w.heap.size w W → Ln t st line → a ≤ line.length → (Calls Tryd.prog 22 #[.slice A0_0 t.length c0_0, .int .i64 ((st + a : Nat) : Int)] W fun e w' => e = .returned (.int .i64 (restH line.length st a)) ∧ Drawn0 W w') ∧ (Calls Tryd.prog 22 #[.slice A0_0 t.length c0_0, .int .i64 (restH line.length st a)] W fun e w' => e = .returned (.int .i64 (restH line.length st a)) ∧ Drawn0 W w')) := ⟨fun W st line a h hl ha => ⟨rest_line (Kd.C_below HT.out.1 h) hc0_0 (by omega) HT.out.2.2 hl ha, rest_self (Kd.C_below HT.out.1 h) hc0_0 (by omega) HT.out.2.2 hl ha⟩⟩
    generalize X.splitR t = rows at hmem hln htot hby hrl HSP
    generalize hitsV t pl = l at HN hlb hin hmem
    by_cases hg : p0 < 0 ∨ p0 > t.length
    · have hv : huntV t.length l p0 1 false = ((0, 0, 0), 2) := by unfold huntV; rw [if_pos (by omega)]
      have HN1 : Aside0 (∀ (W W' : World) (v : Value) (base : Nat) (hp : PatO W base v (some pl)) (h1 : Below w.heap.size w W) (h2 : Below W.heap.size W W'), _) := ⟨fun W W' v base hp h1 h2 => HN W W' v base p0 1 false hp h1 h2⟩
      simp only [hv] at HN1
      clear HN
      have heq : ∀ W : World, (Op.equalIn 10000 27 (.agg #[.int .i64 0, .int .i64 0, .int .i64 0]) (.agg #[.int .i64 0, .int .i64 0, .int .i64 0])).run Tryd.prog W = .ok true W := fun W => eqT (0, 0, 0) (0, 0, 0) W
      go_enter Tryd.func8, Tryd.ntmps8
      go_wp2_with (first
        | (go_at_call 9; (with_reducible refine (HA _).out.mono ?_); rintro e w1 ⟨rfl, hx⟩; have BK := Aside0.mk (blk_below BX.out hx); have H1 := Aside0.mk (below_step HB.out hx); clear hx; have c0 := (blk_cell BK.out 0).trans rfl; have c1 := (blk_cell BK.out 1).trans rfl; have c2 := (blk_cell BK.out 2).trans rfl; have c3 := (blk_cell BK.out 3).trans rfl; have c4 := (blk_cell BK.out 4).trans rfl)
        | (go_at_call 11; (with_reducible refine (HC.out _ H1.out).mono ?_); rintro e w2 ⟨v2, rfl, hx, hp⟩; have BK2 := Aside0.mk (blk_below BK.out hx); have H2 := Aside0.mk (And.intro (below_step H1.out hx) hp); clear hx hp; have d0 := (blk_cell BK2.out 0).trans rfl; have d1 := (blk_cell BK2.out 1).trans rfl; have d2 := (blk_cell BK2.out 2).trans rfl; have d3 := (blk_cell BK2.out 3).trans rfl; have d4 := (blk_cell BK2.out 4).trans rfl)
        | (go_at_call 10; (with_reducible refine (HN1.out _ _ _ _ H2.out.2 H2.out.1 (Below.refl _ _)).mono ?_); rintro e w3 ⟨rfl, hx⟩; have BK3 := Aside0.mk (blk_below BK2.out hx); have H3 := Aside0.mk hx; clear hx))
      exact bodyPost_ret (v := .bool true) (by simp [results, Tryd.results8, go_sem]) rfl ⟨rfl, below_step H2.out.1 (below_alloc H3.out _)⟩
    by_cases hl : l = []
    · have hv : huntV t.length l p0 1 false = ((0, 0, 0), 120) := by unfold huntV; rw [if_neg (by omega), if_pos hl]
      have HN1 : Aside0 (∀ (W W' : World) (v : Value) (base : Nat) (hp : PatO W base v (some pl)) (h1 : Below w.heap.size w W) (h2 : Below W.heap.size W W'), _) := ⟨fun W W' v base hp h1 h2 => HN W W' v base p0 1 false hp h1 h2⟩
      simp only [hv] at HN1
      clear HN
      have heq : ∀ W : World, (Op.equalIn 10000 27 (.agg #[.int .i64 0, .int .i64 0, .int .i64 0]) (.agg #[.int .i64 0, .int .i64 0, .int .i64 0])).run Tryd.prog W = .ok true W := fun W => eqT (0, 0, 0) (0, 0, 0) W
      go_enter Tryd.func8, Tryd.ntmps8
      go_wp2_with (first
        | (go_at_call 9; (with_reducible refine (HA _).out.mono ?_); rintro e w1 ⟨rfl, hx⟩; have BK := Aside0.mk (blk_below BX.out hx); have H1 := Aside0.mk (below_step HB.out hx); clear hx; have c0 := (blk_cell BK.out 0).trans rfl; have c1 := (blk_cell BK.out 1).trans rfl; have c2 := (blk_cell BK.out 2).trans rfl; have c3 := (blk_cell BK.out 3).trans rfl; have c4 := (blk_cell BK.out 4).trans rfl)
        | (go_at_call 11; (with_reducible refine (HC.out _ H1.out).mono ?_); rintro e w2 ⟨v2, rfl, hx, hp⟩; have BK2 := Aside0.mk (blk_below BK.out hx); have H2 := Aside0.mk (And.intro (below_step H1.out hx) hp); clear hx hp; have d0 := (blk_cell BK2.out 0).trans rfl; have d1 := (blk_cell BK2.out 1).trans rfl; have d2 := (blk_cell BK2.out 2).trans rfl; have d3 := (blk_cell BK2.out 3).trans rfl; have d4 := (blk_cell BK2.out 4).trans rfl)
        | (go_at_call 10; (with_reducible refine (HN1.out _ _ _ _ H2.out.2 H2.out.1 (Below.refl _ _)).mono ?_); rintro e w3 ⟨rfl, hx⟩; have BK3 := Aside0.mk (blk_below BK2.out hx); have H3 := Aside0.mk hx; clear hx))
      exact bodyPost_ret (v := .bool true) (by simp [results, Tryd.results8, go_sem]) rfl ⟨rfl, below_step H2.out.1 (below_alloc H3.out _)⟩
    have hm := List.length_pos_iff.2 hl
    have hv : huntV t.length l p0 1 false = ((p0, rd l (pickI l p0 1 false : Nat), 1), 0) := hunt_ok (by omega) hl
    have hk0 := pickI_lt hl p0 1 false
    have hzm := ix_mem hk0
    have HNB := Aside0.mk (fun r (hr : r ∈ l) => none_by hin.1 hl p0 r hr)
    have HN1 : Aside0 (∀ (W W' : World) (v : Value) (base : Nat) (hp : PatO W base v (some pl)) (h1 : Below w.heap.size w W) (h2 : Below W.heap.size W W'), _) := ⟨fun W W' v base hp h1 h2 => HN W W' v base p0 1 false hp h1 h2⟩
    simp only [hv] at HN1
    generalize rd l (pickI l p0 1 false : Nat) = z at HN1 hzm HNB
    obtain ⟨i0, a0, hi0, ha0, hM0, hz0⟩ := (hmem z).1 hzm
    have HRZ : Aside0 (∀ W, Below w.heap.size w W → Calls Tryd.prog 22 #[.slice A0_0 t.length c0_0, .int .i64 z] W fun e w' => e = .returned (.int .i64 z) ∧ Drawn0 W w') := ⟨fun W h => by rw [hz0]; exact (HRS.out W _ _ a0 h (hln i0 hi0) ha0).2⟩
    have HZ := Aside0.mk (And.intro hM0 hz0)
    have HMM := Aside0.mk (And.intro hmem (And.intro hln hby))
    clear HN hv hin hmem hln hby hM0 hz0 hzm hk0
    go_enter Tryd.func8, Tryd.ntmps8
    go_wp2_with (first
        | (go_at_call 9; (with_reducible refine (HA _).out.mono ?_); rintro e w1 ⟨rfl, hx⟩; have BK := Aside0.mk (blk_below BX.out hx); have H1 := Aside0.mk (below_step HB.out hx); clear hx; have c0 := (blk_cell BK.out 0).trans rfl; have c1 := (blk_cell BK.out 1).trans rfl; have c2 := (blk_cell BK.out 2).trans rfl; have c3 := (blk_cell BK.out 3).trans rfl; have c4 := (blk_cell BK.out 4).trans rfl)
        | (go_at_call 11; (with_reducible refine (HC.out _ H1.out).mono ?_); rintro e w2 ⟨v2, rfl, hx, hp⟩; have BK2 := Aside0.mk (blk_below BK.out hx); have H2 := Aside0.mk (And.intro (below_step H1.out hx) hp); clear hx hp; have d0 := (blk_cell BK2.out 0).trans rfl; have d1 := (blk_cell BK2.out 1).trans rfl; have d2 := (blk_cell BK2.out 2).trans rfl; have d3 := (blk_cell BK2.out 3).trans rfl; have d4 := (blk_cell BK2.out 4).trans rfl)
        | (go_at_call 10; (with_reducible refine (HN1.out _ _ _ _ H2.out.2 H2.out.1 (Below.refl _ _)).mono ?_); rintro e w3 ⟨rfl, hx⟩; have BK3 := Aside0.mk (blk_below BK2.out hx); have H3 := Aside0.mk hx; clear hx))
    have B5 := Aside0.mk (blk_new w3 (.cells #[.int .i64 p0, .int .i64 z, .int .i64 1] 27))
    have BK5 := Aside0.mk (blk_alloc BK3.out (.cells #[.int .i64 p0, .int .i64 z, .int .i64 1] 27))
    have HB5 := Aside0.mk (below_alloc H3.out (.cells #[.int .i64 p0, .int .i64 z, .int .i64 1] 27))
    generalize (w3.alloc (.cells #[.int .i64 p0, .int .i64 z, .int .i64 1] 27)) = W5 at B5 BK5 HB5 ⊢
    generalize w3.heap.size = b5 at B5 ⊢
    clear HN1 HC HA c0 c1 c2 c3 c4 d0 d1 d2 d3 d4
    have e0 := (blk_cell BK5.out 0).trans rfl
    have e2 := (blk_cell BK5.out 2).trans rfl
    have f0 := (blk_cell B5.out 0).trans rfl
    have f1 := (blk_cell B5.out 1).trans rfl
    have f2 := (blk_cell B5.out 2).trans rfl
    have HBW := Aside0.mk (below_step H2.out.1 HB5.out)
    have HZ1 := Aside0.mk (HRZ.out W5 HBW.out)
    have HZ2 : Aside0 (∀ n, _) := ⟨fun n => HRZ.out (W5.drewN n) (pw_below_drewN HBW.out n)⟩
    go_quiet (first | (go_at_call 22; first | (with_reducible refine HZ1.out.mono ?_; rintro e w' ⟨rfl, ⟨nd, rfl⟩⟩) | (with_reducible refine (HZ2.out _).mono ?_; rintro e w' ⟨rfl, ⟨nd, rfl⟩⟩); first | exact ⟨rfl, _, World.drewN_drewN _ _ _⟩ | exact ⟨rfl, _, Eq.trans (World.drewN_drewN _ _ _) (congrArg (World.drewN _) (Nat.add_assoc _ _ _))⟩ | exact ⟨rfl, _, rfl⟩))
    go_wp2_with (go_at_call 17; (with_reducible refine (HSP.out _ (pw_below_drewN HBW.out _)).mono ?_); rintro e W7 ⟨vs, rfl, hx1, hx2⟩; have HS := Aside0.mk (And.intro hx1 (And.intro hx2 (below_step (pw_below_drewN HB5.out _) hx2))); have BK7 := Aside0.mk (blk_b hx2 (blk_drewN BK5.out _)); have B57 := Aside0.mk (blk_b hx2 (blk_drewN B5.out _)); clear hx1 hx2; obtain ⟨AS, cS, eS⟩ := Kd.R_slice (Kd.S_R HS.out.1); subst eS)
    have HK := Aside0.mk (Kd.R_reads' (Kd.S_R HS.out.1)).2.2
    have HP7 := Aside0.mk (PatO_below H2.out.2 HS.out.2.2)
    have HW7 := Aside0.mk (below_step H2.out.1 HS.out.2.2)
    clear e0 e2 f0 f1 f2 HZ1 HZ2
    go_loopg [8, 9, 10] rows.length (fun g v8 v9 v10 wl => ∃ (i : Nat) (h : Bool), i + g = rows.length ∧ v10 = .int .i64 i ∧ v8 = .int .i64 (tot (rows.take i) : Nat) ∧ v9 = .bool h ∧ (i0 < i → h = true) ∧ Aside0 (Below W7.heap.size W7 wl))
    case atStart => exact ⟨0, false, by omega, rfl, rfl, rfl, fun h => by omega, ⟨Below.refl _ _⟩⟩
    case round =>
      obtain ⟨i, h, hi, rfl, rfl, rfl, hh, HL⟩ := hrel
      cases gk with
      | zero =>
        have hie : i = rows.length := by omega
        have hht := hh (by omega)
        subst hie
        subst hht
        go_wp2
        exact bodyPost_ret (v := .bool true) (by simp [results, Tryd.results8, go_sem]) rfl ⟨rfl, below_step HW7.out HL.out⟩
      | succ g =>
        have hlt : i < rows.length := by omega
        obtain ⟨ad, A', c', rfl, hx0, hlc, hC⟩ := line_of HK.out hlt
        have hts := tot_take hlt
        have htl := tot_le rows (i + 1)
        have HLN := Aside0.mk (HMM.out.2.1 i hlt)
        have HBY := Aside0.mk (rd_mem (P := fun x => 0 ≤ x ∧ x ≤ 255) (rows.getD i []) (HMM.out.2.2 _ (by
          rw [List.getD_eq_getElem?_getD, List.getElem?_eq_getElem hlt]
          exact List.getElem_mem hlt)) (by decide))
        have HME := Aside0.mk (fun a (h1 : a ≤ (rows.getD i []).length) (h2 : Mt (rows.getD i []) pl a) => (HMM.out.1 (restH (rows.getD i []).length (tot (rows.take i)) a)).2 ⟨i, a, hlt, h1, h2, rfl⟩)
        have HZI := Aside0.mk (show i0 = i → a0 ≤ (rows.getD i []).length ∧ z = restH (rows.getD i []).length (tot (rows.take i)) a0 ∧ Mt (rows.getD i []) pl a0 from fun e => by subst e; exact ⟨ha0, HZ.out.2, HZ.out.1⟩)
        generalize tot (rows.take (i + 1)) = st' at hts htl
        have HST := Aside0.mk (show tot (rows.take (i + 1)) = tot (rows.take i) + (rows.getD i []).length + 1 from tot_take hlt)
        generalize rows.getD i [] = line at hx0 hlc hC hts HLN HBY HME HZI HST
        obtain ⟨st, hst⟩ : ∃ st, tot (rows.take i) = st := ⟨_, rfl⟩
        rw [hst] at hts HLN HME HZI HST ⊢
        have HC7 := Aside0.mk hC
        have HX0 := Aside0.mk hx0
        have hx := pw_cell_below HL.out hx0
        clear hC hx0 hst
        have q1 : ((i : Int) < (rows.length : Int)) = True := eq_true (by omega)
        have q2 : (0 ≤ (i : Int)) = True := eq_true (by omega)
        go_wp2
        go_loopg [9, 11] (line.length + 1) (fun g2 v9 v11 wl => ∃ (a : Nat) (h : Bool), a + g2 = line.length + 1 ∧ v11 = .int .i64 a ∧ v9 = .bool h ∧ ((i0 < i ∨ (i0 = i ∧ a0 < a)) → h = true) ∧ Aside0 (Below W7.heap.size W7 wl))
        case atStart => exact ⟨0, h, by omega, rfl, rfl, fun h1 => hh (by omega), HL⟩
        case round =>
          clear hx hh HL h
          obtain ⟨a, h, ha, rfl, rfl, hh, HL2⟩ := hrel
          have hx := pw_cell_below HL2.out HX0.out
          cases gk with
          | zero =>
            have q3 : ((a : Int) ≤ (line.length : Int)) = False := eq_false (by omega)
            go_wp2
            go_roundg g
            case measure => omega
            case rel => exact ⟨i + 1, h, by omega, by go_num, by rw [HST.out]; go_num, rfl, fun h1 => hh (by
              by_cases e : i0 = i
              · exact .inr ⟨e, by have := (HZI.out e).1; omega⟩
              · exact .inl (by omega)), HL2⟩
          | succ g =>
            have hal : a ≤ line.length := by omega
            have q3 : ((a : Int) ≤ (line.length : Int)) = True := eq_true (by omega)
            have HF := Aside0.mk (find_calls (from_ := (a : Int)) (Kd.C_below HC7.out HL2.out) HBY.out (by omega) hlc (PatO_below HP7.out HL2.out))
            have hfa := find_at (line := line) (pl := pl) hal
            have hsp := find_spec line pl a
            by_cases hM : Mt line pl a
            · obtain ⟨m1, m2⟩ := hfa.1 hM
              have hzr : i0 = i → a0 = a → restH line.length st a = z := fun e e2 => by rw [(HZI.out e).2.1, e2]
              have hnb := HNB.out _ (HME.out a hal hM)
              have HRL : Aside0 (∀ W, Below W7.heap.size W7 W → Calls Tryd.prog 22 #[.slice A0_0 t.length c0_0, .int .i64 ((st : Int) + (a : Int))] W fun e w' => e = .returned (.int .i64 (restH line.length st a)) ∧ Drawn0 W w') := ⟨fun W h => by
                have h2 := (HRS.out W st line a (below_step HW7.out h) HLN.out hal).1
                rw [show ((st + a : Nat) : Int) = (st : Int) + (a : Int) from by omega] at h2
                exact h2⟩
              clear hfa hsp
              generalize findV line pl (a : Int) = fr at HF m1 m2
              obtain ⟨r1, r2, r3⟩ := fr
              simp only at HF m1 m2
              subst m1 m2
              generalize restH line.length st a = r at HRL hnb hzr
              have HH := Aside0.mk hh
              rcases hnb with hnb | hnb | hnb
              · obtain ⟨n1, n2, n3⟩ := hnb
                have p1 : (p0 < z) = True := eq_true n1
                have p2 : (p0 < r) = True := eq_true n2
                have p3 : (r < z) = False := eq_false (by omega)
                have p4 : (z ≤ p0) = False := eq_false (by omega)
                cases h with
                | true =>
                  go_wp2_with (first
                    | (go_at_call 23; (with_reducible refine HF.out.mono ?_); rintro e w8 ⟨rfl, hx8⟩; have H8 := Aside0.mk (below_step HL2.out hx8); have hx9 := pw_cell_below hx8 hx; have BK8 := Aside0.mk (blk_b hx8 (blk_b HL2.out BK7.out)); have B58 := Aside0.mk (blk_b hx8 (blk_b HL2.out B57.out)); clear hx8; have t0 := (blk_cell BK8.out 0).trans rfl; have t2 := (blk_cell BK8.out 2).trans rfl; have t5 := (blk_cell B58.out 1).trans rfl)
                    | (go_at_call 22; (with_reducible refine (HRL.out _ H8.out).mono ?_); rintro e w9 ⟨rfl, ⟨nd, rfl⟩⟩))
                  go_roundg g
                  case measure => omega
                  case rel => exact ⟨a + 1, true, by omega, by go_num, rfl, (fun _ => rfl), ⟨pw_below_drewN H8.out _⟩⟩
                | false =>
                  by_cases hrz : r = z
                  · have p6 : (r = z) = True := eq_true hrz
                    have p7 : (r == z) = true := beq_iff_eq.2 hrz
                    clear hrz
                    go_wp2_with (first
                      | (go_at_call 23; (with_reducible refine HF.out.mono ?_); rintro e w8 ⟨rfl, hx8⟩; have H8 := Aside0.mk (below_step HL2.out hx8); have hx9 := pw_cell_below hx8 hx; have BK8 := Aside0.mk (blk_b hx8 (blk_b HL2.out BK7.out)); have B58 := Aside0.mk (blk_b hx8 (blk_b HL2.out B57.out)); clear hx8; have t0 := (blk_cell BK8.out 0).trans rfl; have t2 := (blk_cell BK8.out 2).trans rfl; have t5 := (blk_cell B58.out 1).trans rfl)
                      | (go_at_call 22; (with_reducible refine (HRL.out _ H8.out).mono ?_); rintro e w9 ⟨rfl, ⟨nd, rfl⟩⟩))
                    go_roundg g
                    case measure => omega
                    case rel => exact ⟨a + 1, true, by omega, by go_num, rfl, (fun _ => rfl), ⟨pw_below_drewN H8.out _⟩⟩
                  · have p6 : (r = z) = False := eq_false hrz
                    have p7 : (r == z) = false := beq_eq_false_iff_ne.2 hrz
                    go_wp2_with (first
                      | (go_at_call 23; (with_reducible refine HF.out.mono ?_); rintro e w8 ⟨rfl, hx8⟩; have H8 := Aside0.mk (below_step HL2.out hx8); have hx9 := pw_cell_below hx8 hx; have BK8 := Aside0.mk (blk_b hx8 (blk_b HL2.out BK7.out)); have B58 := Aside0.mk (blk_b hx8 (blk_b HL2.out B57.out)); clear hx8; have t0 := (blk_cell BK8.out 0).trans rfl; have t2 := (blk_cell BK8.out 2).trans rfl; have t5 := (blk_cell B58.out 1).trans rfl)
                      | (go_at_call 22; (with_reducible refine (HRL.out _ H8.out).mono ?_); rintro e w9 ⟨rfl, ⟨nd, rfl⟩⟩))
                    go_roundg g
                    case measure => omega
                    case rel => exact ⟨a + 1, false, by omega, by go_num, rfl, (fun h1 => by
                                            rcases h1 with h1 | ⟨h1, h2⟩
                                            · exact hh (.inl h1)
                                            · by_cases e : a0 = a
                                              · exact absurd (hzr h1 e) (fun e2 => hrz e2)
                                              · exact hh (.inr ⟨h1, by omega⟩)), ⟨pw_below_drewN H8.out _⟩⟩
              · obtain ⟨n1, n2⟩ := hnb
                have p1 : (p0 < z) = True := eq_true n1
                have p2 : (p0 < r) = False := eq_false (by omega)
                have p4 : (z ≤ p0) = False := eq_false (by omega)
                cases h with
                | true =>
                  go_wp2_with (first
                    | (go_at_call 23; (with_reducible refine HF.out.mono ?_); rintro e w8 ⟨rfl, hx8⟩; have H8 := Aside0.mk (below_step HL2.out hx8); have hx9 := pw_cell_below hx8 hx; have BK8 := Aside0.mk (blk_b hx8 (blk_b HL2.out BK7.out)); have B58 := Aside0.mk (blk_b hx8 (blk_b HL2.out B57.out)); clear hx8; have t0 := (blk_cell BK8.out 0).trans rfl; have t2 := (blk_cell BK8.out 2).trans rfl; have t5 := (blk_cell B58.out 1).trans rfl)
                    | (go_at_call 22; (with_reducible refine (HRL.out _ H8.out).mono ?_); rintro e w9 ⟨rfl, ⟨nd, rfl⟩⟩))
                  go_roundg g
                  case measure => omega
                  case rel => exact ⟨a + 1, true, by omega, by go_num, rfl, (fun _ => rfl), ⟨pw_below_drewN H8.out _⟩⟩
                | false =>
                  by_cases hrz : r = z
                  · have p6 : (r = z) = True := eq_true hrz
                    have p7 : (r == z) = true := beq_iff_eq.2 hrz
                    clear hrz
                    go_wp2_with (first
                      | (go_at_call 23; (with_reducible refine HF.out.mono ?_); rintro e w8 ⟨rfl, hx8⟩; have H8 := Aside0.mk (below_step HL2.out hx8); have hx9 := pw_cell_below hx8 hx; have BK8 := Aside0.mk (blk_b hx8 (blk_b HL2.out BK7.out)); have B58 := Aside0.mk (blk_b hx8 (blk_b HL2.out B57.out)); clear hx8; have t0 := (blk_cell BK8.out 0).trans rfl; have t2 := (blk_cell BK8.out 2).trans rfl; have t5 := (blk_cell B58.out 1).trans rfl)
                      | (go_at_call 22; (with_reducible refine (HRL.out _ H8.out).mono ?_); rintro e w9 ⟨rfl, ⟨nd, rfl⟩⟩))
                    go_roundg g
                    case measure => omega
                    case rel => exact ⟨a + 1, true, by omega, by go_num, rfl, (fun _ => rfl), ⟨pw_below_drewN H8.out _⟩⟩
                  · have p6 : (r = z) = False := eq_false hrz
                    have p7 : (r == z) = false := beq_eq_false_iff_ne.2 hrz
                    go_wp2_with (first
                      | (go_at_call 23; (with_reducible refine HF.out.mono ?_); rintro e w8 ⟨rfl, hx8⟩; have H8 := Aside0.mk (below_step HL2.out hx8); have hx9 := pw_cell_below hx8 hx; have BK8 := Aside0.mk (blk_b hx8 (blk_b HL2.out BK7.out)); have B58 := Aside0.mk (blk_b hx8 (blk_b HL2.out B57.out)); clear hx8; have t0 := (blk_cell BK8.out 0).trans rfl; have t2 := (blk_cell BK8.out 2).trans rfl; have t5 := (blk_cell B58.out 1).trans rfl)
                      | (go_at_call 22; (with_reducible refine (HRL.out _ H8.out).mono ?_); rintro e w9 ⟨rfl, ⟨nd, rfl⟩⟩))
                    go_roundg g
                    case measure => omega
                    case rel => exact ⟨a + 1, false, by omega, by go_num, rfl, (fun h1 => by
                                            rcases h1 with h1 | ⟨h1, h2⟩
                                            · exact hh (.inl h1)
                                            · by_cases e : a0 = a
                                              · exact absurd (hzr h1 e) (fun e2 => hrz e2)
                                              · exact hh (.inr ⟨h1, by omega⟩)), ⟨pw_below_drewN H8.out _⟩⟩
              · obtain ⟨n1, n2, n3⟩ := hnb
                have p1 : (p0 < z) = False := eq_false (by omega)
                have p2 : (p0 < r) = False := eq_false (by omega)
                have p3 : (r < z) = False := eq_false (by omega)
                have p4 : (z ≤ p0) = True := eq_true (by omega)
                cases h with
                | true =>
                  go_wp2_with (first
                    | (go_at_call 23; (with_reducible refine HF.out.mono ?_); rintro e w8 ⟨rfl, hx8⟩; have H8 := Aside0.mk (below_step HL2.out hx8); have hx9 := pw_cell_below hx8 hx; have BK8 := Aside0.mk (blk_b hx8 (blk_b HL2.out BK7.out)); have B58 := Aside0.mk (blk_b hx8 (blk_b HL2.out B57.out)); clear hx8; have t0 := (blk_cell BK8.out 0).trans rfl; have t2 := (blk_cell BK8.out 2).trans rfl; have t5 := (blk_cell B58.out 1).trans rfl)
                    | (go_at_call 22; (with_reducible refine (HRL.out _ H8.out).mono ?_); rintro e w9 ⟨rfl, ⟨nd, rfl⟩⟩))
                  go_roundg g
                  case measure => omega
                  case rel => exact ⟨a + 1, true, by omega, by go_num, rfl, (fun _ => rfl), ⟨pw_below_drewN H8.out _⟩⟩
                | false =>
                  by_cases hrz : r = z
                  · have p6 : (r = z) = True := eq_true hrz
                    have p7 : (r == z) = true := beq_iff_eq.2 hrz
                    clear hrz
                    go_wp2_with (first
                      | (go_at_call 23; (with_reducible refine HF.out.mono ?_); rintro e w8 ⟨rfl, hx8⟩; have H8 := Aside0.mk (below_step HL2.out hx8); have hx9 := pw_cell_below hx8 hx; have BK8 := Aside0.mk (blk_b hx8 (blk_b HL2.out BK7.out)); have B58 := Aside0.mk (blk_b hx8 (blk_b HL2.out B57.out)); clear hx8; have t0 := (blk_cell BK8.out 0).trans rfl; have t2 := (blk_cell BK8.out 2).trans rfl; have t5 := (blk_cell B58.out 1).trans rfl)
                      | (go_at_call 22; (with_reducible refine (HRL.out _ H8.out).mono ?_); rintro e w9 ⟨rfl, ⟨nd, rfl⟩⟩))
                    go_roundg g
                    case measure => omega
                    case rel => exact ⟨a + 1, true, by omega, by go_num, rfl, (fun _ => rfl), ⟨pw_below_drewN H8.out _⟩⟩
                  · have p6 : (r = z) = False := eq_false hrz
                    have p7 : (r == z) = false := beq_eq_false_iff_ne.2 hrz
                    go_wp2_with (first
                      | (go_at_call 23; (with_reducible refine HF.out.mono ?_); rintro e w8 ⟨rfl, hx8⟩; have H8 := Aside0.mk (below_step HL2.out hx8); have hx9 := pw_cell_below hx8 hx; have BK8 := Aside0.mk (blk_b hx8 (blk_b HL2.out BK7.out)); have B58 := Aside0.mk (blk_b hx8 (blk_b HL2.out B57.out)); clear hx8; have t0 := (blk_cell BK8.out 0).trans rfl; have t2 := (blk_cell BK8.out 2).trans rfl; have t5 := (blk_cell B58.out 1).trans rfl)
                      | (go_at_call 22; (with_reducible refine (HRL.out _ H8.out).mono ?_); rintro e w9 ⟨rfl, ⟨nd, rfl⟩⟩))
                    go_roundg g
                    case measure => omega
                    case rel => exact ⟨a + 1, false, by omega, by go_num, rfl, (fun h1 => by
                                            rcases h1 with h1 | ⟨h1, h2⟩
                                            · exact hh (.inl h1)
                                            · by_cases e : a0 = a
                                              · exact absurd (hzr h1 e) (fun e2 => hrz e2)
                                              · exact hh (.inr ⟨h1, by omega⟩)), ⟨pw_below_drewN H8.out _⟩⟩
            · have hno : ∀ e : i0 = i, a0 ≠ a := fun e e2 => hM (by rw [← e2]; exact (HZI.out e).2.2)
              have hup : (i0 < i ∨ (i0 = i ∧ a0 < a + 1)) → h = true := fun h1 => hh (by
                rcases h1 with h1 | ⟨h1, h2⟩
                · exact .inl h1
                · exact .inr ⟨h1, by have := hno h1; omega⟩)
              have HUP := Aside0.mk hup
              clear hup hno hh
              generalize findV line pl (a : Int) = fr at HF hfa
              obtain ⟨r1, r2, r3⟩ := fr
              simp only at HF hfa
              cases r3 with
              | false =>
                clear hfa hsp
                go_wp2_with (go_at_call 23; (with_reducible refine HF.out.mono ?_); rintro e w8 ⟨rfl, hx8⟩; have H8 := Aside0.mk (below_step HL2.out hx8); have hx9 := pw_cell_below hx8 hx; have BK8 := Aside0.mk (blk_b hx8 (blk_b HL2.out BK7.out)); have B58 := Aside0.mk (blk_b hx8 (blk_b HL2.out B57.out)); clear hx8; have t0 := (blk_cell BK8.out 0).trans rfl; have t2 := (blk_cell BK8.out 2).trans rfl; have t5 := (blk_cell B58.out 1).trans rfl)
                go_roundg g
                case measure => omega
                case rel => exact ⟨a + 1, h, by omega, by go_num, rfl, HUP.out, H8⟩
              | true =>
                have hr1 : r1 ≠ (a : Int) := fun e => hM (hfa.2 ⟨rfl, e⟩)
                have p6 : (r1 = (a : Int)) = False := eq_false hr1
                have p7 : (r1 == (a : Int)) = false := beq_eq_false_iff_ne.2 hr1
                have p8 : (r1 != (a : Int)) = true := bne_iff_ne.2 hr1
                clear hfa hsp
                go_wp2_with (go_at_call 23; (with_reducible refine HF.out.mono ?_); rintro e w8 ⟨rfl, hx8⟩; have H8 := Aside0.mk (below_step HL2.out hx8); have hx9 := pw_cell_below hx8 hx; have BK8 := Aside0.mk (blk_b hx8 (blk_b HL2.out BK7.out)); have B58 := Aside0.mk (blk_b hx8 (blk_b HL2.out B57.out)); clear hx8; have t0 := (blk_cell BK8.out 0).trans rfl; have t2 := (blk_cell BK8.out 2).trans rfl; have t5 := (blk_cell B58.out 1).trans rfl)
                go_roundg g
                case measure => omega
                case rel => exact ⟨a + 1, h, by omega, by go_num, rfl, HUP.out, H8⟩
end Go.Proofs.YtffpkldphkmjmaaDoor.WalkHuntRests
end
