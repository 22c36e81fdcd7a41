-- Written by wip/xprint.py over the kit's print.py: the Lean function of each Go function, and the proof that the Go text comes to it.
import Derived.Test.YtofkcdnkbjpmmaaX0
namespace Go.Proofs.Ytofkcdnkbjpmmaa.X
open Go.RowKit Go.Proofs.YtofkcdnkbjpmmaaW.PrintWords Go.Proofs.YtofkcdnkbjpmmaaW.PrintLast Go.Proofs.YtofkcdnkbjpmmaaW.PrintMore
attribute [local go_sem] max2_int min2_int max_two min_two max_three min_three max_four min_four   -- for this text's walks alone
set_option linter.unusedVariables false
set_option linter.unusedSimpArgs false

/-! ### bytes_Count: function 32, by hand -/
def bytes_Count.f (l0 : List Int) (l1 : List Int) : Option (Int) := if (u8s l0 && u8s l1) = true then (if l1.length = 1 then some (cnt (rd l1 0) l0) else none) else none
set_option maxHeartbeats 2000000 in
set_option maxRecDepth 1000000 in
theorem bytes_Count.calls (A0 : Option Addr) (c0 : Nat) (l0 : List Int) (A1 : Option Addr) (c1 : Nat) (l1 : List Int) (r : Int) (w : World) (hr0 : Kd.C (Kd.int .u8) w A0 l0.length l0) (hc0 : l0.length ≤ c0) (hr1 : Kd.C (Kd.int .u8) w A1 l1.length l1) (hc1 : l1.length ≤ c1) (h : bytes_Count.f l0 l1 = some r) :
  Calls Try.prog 32 #[.slice A0 l0.length c0, .slice A1 l1.length c1] w fun e w' => e = .returned (.int .i64 r) ∧ Drawn0 w w' := by
 unfold bytes_Count.f at h
 by_cases hu : (u8s l0 && u8s l1) = true
 case neg => rw [if_neg hu] at h; cases h
 rw [if_pos hu] at h
 by_cases hl : l1.length = 1
 case neg => rw [if_neg hl] at h; cases h
 rw [if_pos hl] at h
 obtain rfl := Option.some.inj h
 obtain ⟨v, rfl⟩ : ∃ v, l1 = [v] := by
  match l1, hl with
  | [v], _ => exact ⟨v, rfl⟩
 rw [Bool.and_eq_true] at hu
 have hv := (u8s_cons hu.2).1
 have hcnt := cnt_eq hv l0 hu.1
 have hrd : rd [v] 0 = v := rfl
 rw [hrd, ← hcnt]
 obtain ⟨ad, rfl, hcell⟩ := read0_u8 hr1
 have hcell2 : w.cell? ad = some (.int .u8 v) := by rw [Addr.add_zero'] at hcell; exact hcell
 obtain ⟨hb0, hA⟩ := reads_u8 hr0
 have hrun : (Extern.BytealgCount.count #[.slice A0 l0.length c0, .int .u8 v]).run Try.prog w = .ok (.int .i64 (Lib.countByte (Lib.bytesOf l0) v.toNat.toUInt8)) w := by
  cases A0 with
  | none =>
   have h0 : l0 = [] := by
    cases l0 with
    | nil => rfl
    | cons x l => obtain ⟨_, h1, _⟩ := hA (by simp); cases h1
   subst h0
   exact Lib.run_countNil w _ _ v
  | some a =>
   refine Lib.run_countAt w a _ _ l0 rfl (fun i hi => ?_) v
   obtain ⟨a', h1, h2⟩ := hA (by omega)
   obtain rfl := Option.some.inj h1
   exact h2 i hi
 have HA := Aside0.mk hA
 have HR := Aside0.mk hrun
 clear hA hrun hcnt hrd hr0 hr1 hu h
 go_enter Try.func32, Try.ntmps32
 go_wp2
 rw [run_callFunc_extern Try.func47 (by kernel_rfl) (by kernel_rfl) (by kernel_rfl) (e := Extern.BytealgCount.count) (by kernel_rfl), HR.out]
 simp only [Result.andThen]
 rw [Oper.upon_value]
 go_wp2
 go_ret
 exact ⟨rfl, Drawn0.refl _⟩

end Go.Proofs.Ytofkcdnkbjpmmaa.X
