-- Written by wip/xprint.py over the kit's print.py: the Lean function of each Go function, and the proof that the Go text comes to it.
import Derived.Test.YtlcdnpecoaamcaaDoorX0
namespace Go.Proofs.YtlcdnpecoaamcaaDoor.X
open Go.RowKit Go.Proofs.YtlcdnpecoaamcaaDoorW.PrintWords Go.Proofs.YtlcdnpecoaamcaaDoorW.PrintLast Go.Proofs.YtlcdnpecoaamcaaDoorW.PrintMore
attribute [local go_sem] max2_int min2_int max_two min_two max_three min_three max_four min_four   -- for this text's walks alone
set_option linter.unusedVariables false
set_option linter.unusedSimpArgs false

/-! ### extent_blank: function 15, by hand -/
def isblank (l : List Int) : Bool := l.all fun x => decide (x = 32 ∨ x = 9)
def extent_blank.f (l0 : List Int) : Option (Bool) := some (isblank l0)
theorem blank_at {l : List Int} {k : Nat} (hk : k < l.length) : l.take (k + 1) = l.take k ++ [l.getD k 0] := by
  rw [List.take_succ_eq_append_getElem hk, List.getD_eq_getElem?_getD, List.getElem?_eq_getElem hk]; rfl
theorem isblank_take {l : List Int} {k : Nat} (hk : k < l.length) (h : isblank (l.take k) = true) (h2 : l.getD k 0 = 32 ∨ l.getD k 0 = 9) : isblank (l.take (k + 1)) = true := by
  rw [blank_at hk]
  unfold isblank at h ⊢
  rw [List.all_append, h]
  simpa using h2
theorem isblank_no {l : List Int} {k : Nat} (hk : k < l.length) (h2 : ¬ (l.getD k 0 = 32 ∨ l.getD k 0 = 9)) : isblank l = false := by
  cases hb : isblank l with
  | false => rfl
  | true =>
    exfalso
    unfold isblank at hb
    rw [List.all_eq_true] at hb
    have h3 := hb (l.getD k 0) (by rw [List.getD_eq_getElem?_getD, List.getElem?_eq_getElem hk]; exact List.getElem_mem hk)
    exact h2 (of_decide_eq_true h3)
theorem isb_yes (b : Int) (w : World) (h : b = 32 ∨ b = 9) : Calls Tryd.prog 22 #[.int .u8 b] w fun e w' => e = .returned (.bool false) ∧ w = w' := by
  rcases h with rfl | rfl
  · go_enter Tryd.func22, Tryd.ntmps22
    go_wp2
    go_ret
    exact ⟨rfl, rfl⟩
  · go_enter Tryd.func22, Tryd.ntmps22
    go_wp2
    go_ret
    exact ⟨rfl, rfl⟩
theorem isb_no (b : Int) (w : World) (h : ¬ (b = 32 ∨ b = 9)) : Calls Tryd.prog 22 #[.int .u8 b] w fun e w' => e = .returned (.bool true) ∧ w = w' := by
  have e1 : (b == 32) = false := beq_eq_false_iff_ne.mpr (fun e => h (.inl e))
  have e2 : (b != 32) = true := bne_iff_ne.mpr (fun e => h (.inl e))
  have e3 : (b == 9) = false := beq_eq_false_iff_ne.mpr (fun e => h (.inr e))
  have e4 : (b != 9) = true := bne_iff_ne.mpr (fun e => h (.inr e))
  clear h
  go_enter Tryd.func22, Tryd.ntmps22
  go_wp2
  go_ret
  exact ⟨rfl, rfl⟩
set_option maxHeartbeats 1000000 in
theorem indexFunc_calls (A0 : Option Addr) (c0 : Nat) (l0 : List Int) (w : World) (hr0 : Kd.C (Kd.int .u8) w A0 l0.length l0) :
    Calls Tryd.prog 28 #[.slice A0 l0.length c0, .func (.func 22) #[] #[]] w fun e w' => ∃ n : Int, e = .returned (.int .i64 n) ∧ w = w' ∧ Aside0 ((n ≥ 0) ↔ isblank l0 = false) ∧ Aside0 (-1 ≤ n) := by
  obtain ⟨hb0, hA0⟩ := reads_u8 hr0
  have HA := Aside0.mk hA0
  clear hA0 hr0
  go_enter Tryd.func28, Tryd.ntmps28
  go_wp2
  go_loop [8] (fun v => ∃ k : Nat, k ≤ l0.length ∧ v = .int .i64 k ∧ Aside0 (isblank (l0.take k) = true)) (fun v => l0.length - (intOf v).toNat)
  case atStart => exact ⟨0, Nat.zero_le _, rfl, ⟨rfl⟩⟩
  case round =>
    obtain ⟨k, hk, rfl, hbl⟩ := hrel
    by_cases hlt : k < l0.length
    · obtain ⟨ad, hA, hcell⟩ := HA.out (by omega)
      subst hA
      have hc := hcell k hlt
      have HC := Aside0.mk hcell
      clear hcell
      by_cases hx : l0.getD k 0 = 32 ∨ l0.getD k 0 = 9
      · have HX := Aside0.mk hx
        have HN := Aside0.mk (isblank_take hlt hbl.out hx)
        generalize hv : l0.getD k 0 = x at hc hx HX
        have HV := Aside0.mk hv
        clear hv
        go_wp2_with (go_at_call 22; refine (isb_yes _ _ HX.out).mono ?_; rintro e w' ⟨rfl, rfl⟩)
        go_round
        case rel => exact ⟨k + 1, by omega, by go_num, HN⟩
        case measure => simp [intOf]; omega
      · have HX := Aside0.mk hx
        have HN := Aside0.mk (isblank_no hlt hx)
        generalize hv : l0.getD k 0 = x at hc hx HX
        have HV := Aside0.mk hv
        clear hv
        clear hx
        go_wp2_with (go_at_call 22; refine (isb_no _ _ HX.out).mono ?_; rintro e w' ⟨rfl, rfl⟩)
        go_ret
        exact ⟨(k : Int), rfl, rfl, ⟨⟨fun _ => HN.out, fun _ => by omega⟩⟩, ⟨by omega⟩⟩
    · have he : k = l0.length := by omega
      subst he
      have hbl2 : isblank l0 = true := by simpa using hbl.out
      have HB := Aside0.mk hbl2
      clear hbl2 hbl
      go_wp2
      go_ret
      exact ⟨-1, rfl, rfl, ⟨⟨fun h => absurd h (by omega), fun h => by rw [HB.out] at h; cases h⟩⟩, ⟨by omega⟩⟩
theorem containsFunc_calls (A0 : Option Addr) (c0 : Nat) (l0 : List Int) (w : World) (hr0 : Kd.C (Kd.int .u8) w A0 l0.length l0) :
    Calls Tryd.prog 21 #[.slice A0 l0.length c0, .func (.func 22) #[] #[]] w fun e w' => ∃ b : Bool, e = .returned (.bool b) ∧ w = w' ∧ Aside0 (b = !isblank l0) := by
  have HR := Aside0.mk hr0
  clear hr0
  go_enter Tryd.func21, Tryd.ntmps21
  go_wp2_with fail
  refine (indexFunc_calls _ _ _ _ HR.out).mono ?_
  rintro e w' ⟨n, rfl, rfl, h1, h2⟩
  cases hb : isblank l0 with
  | true =>
    have hn : ¬ (n ≥ 0) := fun h => by have := h1.out.1 h; rw [hb] at this; cases this
    have hn2 : decide (0 ≤ n) = false := decide_eq_false hn
    have HB := Aside0.mk hb
    clear hn h1 h2 hb
    go_wp2
    go_ret
    exact ⟨false, rfl, rfl, ⟨by rw [HB.out]; rfl⟩⟩
  | false =>
    have hn : n ≥ 0 := h1.out.2 hb
    have hn2 : decide (0 ≤ n) = true := decide_eq_true hn
    have HB := Aside0.mk hb
    clear hn h1 h2 hb
    go_wp2
    go_ret
    exact ⟨true, rfl, rfl, ⟨by rw [HB.out]; rfl⟩⟩
set_option maxHeartbeats 1000000 in
theorem extent_blank.calls (A0 : Option Addr) (c0 : Nat) (l0 : List Int) (r : Bool) (w : World) (hr0 : Kd.C (Kd.int .u8) w A0 l0.length l0) (hc0 : l0.length ≤ c0) (h : extent_blank.f l0 = some r) :
    Calls Tryd.prog 15 #[.slice A0 l0.length c0] w fun e w' => e = .returned (.bool r) ∧ Drawn0 w w' := by
  unfold extent_blank.f at h
  obtain rfl := Option.some.inj h
  clear h
  have HR := Aside0.mk hr0
  clear hr0
  go_enter Tryd.func15, Tryd.ntmps15
  go_wp2_with fail
  refine (containsFunc_calls _ _ _ _ HR.out).mono ?_
  rintro e w' ⟨b, rfl, rfl, hb⟩
  go_wp2
  go_ret
  have e := hb.out
  subst e
  cases isblank l0 <;> exact ⟨rfl, Drawn0.refl _⟩

end Go.Proofs.YtlcdnpecoaamcaaDoor.X
