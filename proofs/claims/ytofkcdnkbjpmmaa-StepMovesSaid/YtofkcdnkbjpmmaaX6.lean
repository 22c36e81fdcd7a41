-- Written by wip/xprint.py over the kit's print.py: the Lean function of each Go function, and the proof that the Go text comes to it.
import Derived.Test.YtofkcdnkbjpmmaaX0
namespace Go.Proofs.Ytofkcdnkbjpmmaa.X
open Go.RowKit Go.Proofs.YtofkcdnkbjpmmaaW.PrintWords Go.Proofs.YtofkcdnkbjpmmaaW.PrintLast Go.Proofs.YtofkcdnkbjpmmaaW.PrintMore
attribute [local go_sem] max2_int min2_int max_two min_two max_three min_three max_four min_four   -- for this text's walks alone
set_option linter.unusedVariables false
set_option linter.unusedSimpArgs false

/-! ### bytes_IndexByte: function 41, by hand -/
def bytes_IndexByte.f (l0 : List Int) (a1 : Int) : Option (Int) := if (u8s l0 && decide (0 ≤ a1 ∧ a1 ≤ 255)) = true then some (idx a1 l0) else none
set_option maxHeartbeats 2000000 in
set_option maxRecDepth 1000000 in
theorem bytes_IndexByte.calls (A0 : Option Addr) (c0 : Nat) (l0 : List Int) (a1 : Int) (r : Int) (w : World) (hr0 : Kd.C (Kd.int .u8) w A0 l0.length l0) (hc0 : l0.length ≤ c0) (h : bytes_IndexByte.f l0 a1 = some r) :
  Calls Try.prog 41 #[.slice A0 l0.length c0, .int .u8 a1] w fun e w' => e = .returned (.int .i64 r) ∧ Drawn0 w w' := by
 unfold bytes_IndexByte.f at h
 by_cases hu : (u8s l0 && decide (0 ≤ a1 ∧ a1 ≤ 255)) = true
 case neg => rw [if_neg hu] at h; cases h
 rw [if_pos hu] at h
 obtain rfl := Option.some.inj h
 rw [Bool.and_eq_true, decide_eq_true_iff] at hu
 have hidx := idx_eq hu.2 l0 hu.1
 rw [← hidx]
 obtain ⟨hb0, hA⟩ := reads_u8 hr0
 have hrun : (Extern.BytealgIndexByte.indexByte #[.slice A0 l0.length c0, .int .u8 a1]).run Try.prog w = .ok (.int .i64 (Lib.indexByte (Lib.bytesOf l0) a1.toNat.toUInt8)) w := by
  cases A0 with
  | none =>
   have h0 : l0 = [] := by
    cases l0 with
    | nil => rfl
    | cons x l => obtain ⟨_, h1, _⟩ := hA (by simp); cases h1
   subst h0
   exact Lib.run_indexByteNil w _ _ a1
  | some a =>
   refine Lib.run_indexByteAt w a _ _ l0 rfl (fun i hi => ?_) a1
   obtain ⟨a', h1, h2⟩ := hA (by omega)
   obtain rfl := Option.some.inj h1
   exact h2 i hi
 have HR := Aside0.mk hrun
 clear hA hrun hidx hr0 hu h
 go_enter Try.func41, Try.ntmps41
 go_wp2
 rw [run_callFunc_extern Try.func52 (by kernel_rfl) (by kernel_rfl) (by kernel_rfl) (e := Extern.BytealgIndexByte.indexByte) (by kernel_rfl), HR.out]
 simp only [Result.andThen]
 rw [Oper.upon_value]
 go_wp2
 go_ret
 exact ⟨rfl, Drawn0.refl _⟩

end Go.Proofs.Ytofkcdnkbjpmmaa.X
