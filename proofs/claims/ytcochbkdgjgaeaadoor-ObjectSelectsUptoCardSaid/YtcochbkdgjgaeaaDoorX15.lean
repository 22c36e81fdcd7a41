-- Written by wip/xprint.py over the kit's print.py: the Lean function of each Go function, and the proof that the Go text comes to it.
import Derived.Test.YtcochbkdgjgaeaaDoorX0
namespace Go.Proofs.YtcochbkdgjgaeaaDoor.X
open Go.RowKit Go.Proofs.YtcochbkdgjgaeaaDoorW.PrintWords Go.Proofs.YtcochbkdgjgaeaaDoorW.PrintLast Go.Proofs.YtcochbkdgjgaeaaDoorW.PrintMore
attribute [local go_sem] max2_int min2_int max_two min_two max_three min_three max_four min_four   -- for this text's walks alone
set_option linter.unusedVariables false
set_option linter.unusedSimpArgs false

/-! ### bytes_Clone: function 60, by hand -/
def bytes_Clone.f (l0 : List Int) : Option (List Int) := if l0.length < 140737488355328 then some l0 else none
set_option maxHeartbeats 2000000 in
set_option maxRecDepth 100000 in
theorem bytes_Clone.calls (A0 : Option Addr) (c0 : Nat) (l0 : List Int) (r : List Int) (w : World) (hr0 : Kd.C (Kd.int .u8) w A0 l0.length l0) (hc0 : l0.length ≤ c0) (h : bytes_Clone.f l0 = some r) :
  Calls Tryd.prog 60 #[.slice A0 l0.length c0] w fun e w' => ∃ v0_ : Value, e = .returned (v0_) ∧ Kd.R (Kd.int .u8) 5 w' w.heap.size (fun _ => True) v0_ r ∧ Below w.heap.size w w' := by
 unfold bytes_Clone.f at h
 by_cases hl : l0.length < 140737488355328
 case neg => rw [if_neg hl] at h; cases h
 rw [if_pos hl] at h
 obtain rfl := Option.some.inj h
 obtain ⟨hb0, hA⟩ := reads_u8 hr0
 clear h hr0
 have qn : ∀ (w : World) (a : Option Addr) (n c n' c' : Nat), (binOp .eql 22 (.slice a n c) (.slice none n' c')).run Tryd.prog w = .ok (.bool a.isNone) w := fun w a n c n' c' => Lib.run_eql_slice_nil w _ _ a n c n' c' Tryd.underlying22
 cases A0 with
 | none =>
  have h0 : l0 = [] := by
   cases l0 with
   | nil => rfl
   | cons x l => obtain ⟨_, h1, _⟩ := hA (by simp); cases h1
  subst h0
  clear hA
  go_enter Tryd.func60, Tryd.ntmps60
  go_wp2
  go_ret
  exact ⟨_, rfl, Kd.R_nil _ _ _ _ _, Below.refl _ _⟩
 | some a =>
  have HA : ∀ j, j < l0.length → w.cell? (a.add j) = some (.int .u8 (l0.getD j 0)) := fun j hj => by
   obtain ⟨a', h1, h2⟩ := hA (by omega)
   obtain rfl := Option.some.inj h1
   exact h2 j hj
  have HR := Aside0.mk HA
  clear hA HA
  have hinf : (Tryd.prog.info? 5).map (fun i => (i.zero, i.size, i.bytes)) = some (some (.int .u8 0), 1, 1) := by kernel_rfl
  obtain ⟨i0, hi, hz0, hz1, hz2⟩ := info_parts hinf
  clear hinf
  go_enter Tryd.func60, Tryd.ntmps60
  go_wp2_with (at_builtin; refine wpList_append_own _ rfl _ _ 22 rfl w.heap.size 5 i0 (.int .u8 0) 1 1 Tryd.underlying22 hi hz0 hz1 hz2 rfl (by decide) _ _ _ rfl (World.ownsRow_made w #[] 0 (Nat.le_refl _) (Nat.zero_le _) rfl) a l0.length c0 (l0.map (Value.int .u8)) rfl ?qc1 ?qc2 ?qc3 ?qc4 ?qc5 ?qc6 ?_)
  case qc1 => simp
  case qc2 =>
   intro j u hj
   have hjn : j < l0.length := by
    have := (List.getElem?_eq_some_iff.1 hj).1
    simpa using this
   refine Lib.cell?_alloc_some _ ?_
   rw [HR.out j hjn]
   have e : (l0.map (Value.int .u8))[j]? = some (Value.int .u8 (l0.getD j 0)) := by simp [List.getD, List.getElem?_eq_getElem hjn]
   rw [e] at hj
   exact hj
  case qc3 => intro u hu; obtain ⟨x, _, rfl⟩ := List.mem_map.1 hu; rfl
  case qc4 => unfold maxLen; omega
  case qc5 => omega
  case qc6 => simp
  intro v' w1 hown hgrow hnil
  clear qn
  go_wp2
  go_ret
  refine ⟨v', rfl, Kd.R_of_own (by simpa [encs] using hown) (fun _ _ => trivial), ?_⟩
  exact ((Below.refl _ w).alloc (Nat.le_refl _) _).grown hgrow (by simp) (by intro k hk; simp [Value.ownBlock] at hk; omega)

end Go.Proofs.YtcochbkdgjgaeaaDoor.X
