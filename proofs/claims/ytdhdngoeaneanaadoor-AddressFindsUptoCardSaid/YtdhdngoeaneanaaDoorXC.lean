/-
  Texts of one proof in one file (wip/some.py): X24, X25, X26.
  Conditions: none.
-/
import Derived.Test.YtdhdngoeaneanaaDoorX0
section
-- Written by wip/xprint.py over the kit's print.py: the Lean function of each Go function, and the proof that the Go text comes to it.
namespace Go.Proofs.YtdhdngoeaneanaaDoor.X
open Go.RowKit Go.Proofs.YtdhdngoeaneanaaDoorW.PrintWords Go.Proofs.YtdhdngoeaneanaaDoorW.PrintLast Go.Proofs.YtdhdngoeaneanaaDoorW.PrintMore
attribute [local go_sem] max2_int min2_int max_two min_two max_three min_three max_four min_four   -- for this text's walks alone
set_option linter.unusedVariables false
set_option linter.unusedSimpArgs false

/-! ### bytes_Count: function 40, by hand -/
def bytes_Count.f (l0 : List Int) (l1 : List Int) : Option (Int) := if (u8s l0 && u8s l1) = true then (if l1.length = 1 then some (cnt (rd l1 0) l0) else none) else none
set_option maxHeartbeats 2000000 in
set_option maxRecDepth 1000000 in
theorem bytes_Count.calls (A0 : Option Addr) (c0 : Nat) (l0 : List Int) (A1 : Option Addr) (c1 : Nat) (l1 : List Int) (r : Int) (w : World) (hr0 : Kd.C (Kd.int .u8) w A0 l0.length l0) (hc0 : l0.length ≤ c0) (hr1 : Kd.C (Kd.int .u8) w A1 l1.length l1) (hc1 : l1.length ≤ c1) (h : bytes_Count.f l0 l1 = some r) :
    Calls Tryd.prog 40 #[.slice A0 l0.length c0, .slice A1 l1.length c1] w fun e w' => e = .returned (.int .i64 r) ∧ Drawn0 w w' := by
  unfold bytes_Count.f at h
  by_cases hu : (u8s l0 && u8s l1) = true
  case neg => rw [if_neg hu] at h; cases h
  rw [if_pos hu] at h
  by_cases hl : l1.length = 1
  case neg => rw [if_neg hl] at h; cases h
  rw [if_pos hl] at h
  obtain rfl := Option.some.inj h
  obtain ⟨v, rfl⟩ : ∃ v, l1 = [v] := by
    match l1, hl with
    | [v], _ => exact ⟨v, rfl⟩
  rw [Bool.and_eq_true] at hu
  have hv := (u8s_cons hu.2).1
  have hcnt := cnt_eq hv l0 hu.1
  have hrd : rd [v] 0 = v := rfl
  rw [hrd, ← hcnt]
  obtain ⟨ad, rfl, hcell⟩ := read0_u8 hr1
  have hcell2 : w.cell? ad = some (.int .u8 v) := by rw [Addr.add_zero'] at hcell; exact hcell
  obtain ⟨hb0, hA⟩ := reads_u8 hr0
  have hrun : (Extern.BytealgCount.count #[.slice A0 l0.length c0, .int .u8 v]).run Tryd.prog w = .ok (.int .i64 (Lib.countByte (Lib.bytesOf l0) v.toNat.toUInt8)) w := by
    cases A0 with
    | none =>
      have h0 : l0 = [] := by
        cases l0 with
        | nil => rfl
        | cons x l => obtain ⟨_, h1, _⟩ := hA (by simp); cases h1
      subst h0
      exact Lib.run_countNil w _ _ v
    | some a =>
      refine Lib.run_countAt w a _ _ l0 rfl (fun i hi => ?_) v
      obtain ⟨a', h1, h2⟩ := hA (by omega)
      obtain rfl := Option.some.inj h1
      exact h2 i hi
  have HA := Aside0.mk hA
  have HR := Aside0.mk hrun
  clear hA hrun hcnt hrd hr0 hr1 hu h
  go_enter Tryd.func40, Tryd.ntmps40
  go_wp2
  rw [run_callFunc_extern Tryd.func60 (by kernel_rfl) (by kernel_rfl) (by kernel_rfl) (e := Extern.BytealgCount.count) (by kernel_rfl), HR.out]
  simp only [Result.andThen]
  rw [Oper.upon_value]
  go_wp2
  go_ret
  exact ⟨rfl, Drawn0.refl _⟩

end Go.Proofs.YtdhdngoeaneanaaDoor.X
end
section
-- Written by wip/xprint.py over the kit's print.py: the Lean function of each Go function, and the proof that the Go text comes to it.
namespace Go.Proofs.YtdhdngoeaneanaaDoor.X
open Go.RowKit Go.Proofs.YtdhdngoeaneanaaDoorW.PrintWords Go.Proofs.YtdhdngoeaneanaaDoorW.PrintLast Go.Proofs.YtdhdngoeaneanaaDoorW.PrintMore
attribute [local go_sem] max2_int min2_int max_two min_two max_three min_three max_four min_four   -- for this text's walks alone
set_option linter.unusedVariables false
set_option linter.unusedSimpArgs false

/-! ### lines_Count: function 18 -/
def lines_Count.f (l0 : List Int) : Option (Int) := (bytes_Count.f l0 (([10] : List Int))).bind fun t188 => (some (wrap64 (t188 + 1)))
set_option maxHeartbeats 8000000 in
set_option maxRecDepth 100000 in
theorem lines_Count.calls (A0 : Option Addr) (c0 : Nat) (l0 : List Int) (r : Int) (w : World) (hr0 : Kd.C (Kd.int .u8) w A0 l0.length l0) (hc0 : l0.length ≤ c0) (h : lines_Count.f l0 = some r) :
    Calls Tryd.prog 18 #[.slice A0 l0.length c0] w fun e w' => e = .returned (.int .i64 r) ∧ Below w.heap.size w w' := by
  have HR0 := Aside0.mk hr0
  have HC0 := Aside0.mk hc0
  clear hr0 hc0
  have HB := Aside0.mk (Below.refl w.heap.size w)
  have H : ((bytes_Count.f l0 (([10] : List Int))).bind fun t188 => (some (wrap64 (t188 + 1)))) = some r := h
  clear h
  obtain ⟨y185, hy185⟩ : ∃ y_ : List Int, y_ = (([10] : List Int)) := ⟨_, rfl⟩
  replace H : ((bytes_Count.f l0 y185).bind fun t188 => (some (wrap64 (t188 + 1)))) = some r := by first | (rw [hy185]; with_reducible exact H) | (have H2_ := (Option.bind_some _ _).symm.trans H; rw [hy185]; with_reducible exact H2_) | (have H2_ := (Option.bind_some _ _).symm.trans H; with_reducible exact H2_) | with_reducible exact H | (rw [hy185]; exact H) | exact H
  have Ny185 := Aside0.mk hy185
  clear hy185
  replace H := Option.bind_eq_some_iff.mp H
  obtain ⟨t188, A20, H⟩ := H
  replace H : (some (wrap64 (t188 + 1))) = some r := H
  have A2 := Aside0.mk A20
  clear A20
  obtain rfl := Option.some.inj H
  go_enter Tryd.func18, Tryd.ntmps18
  go_wp2_with (first | ((with_reducible refine gate_dst (N := 4) rfl ?_); refine Kd.R_lit (Kd.int .u8) _ 5 ?hg (N := 4) ?hd (xs := ([10] : List Int)) (inner := [.int .u8 10]) (ok := fun _ => True) (okp := fun _ => True) ?hr ?hp (fun _ hk => hk) trivial (Below.refl _ _) (Nat.le_refl _) (by simp) ?_; (case hd => rfl); (case hg => rfl); (case hr => first | (go_simp; done) | (go_simp; rfl)); (case hp => exact (Reps.one (show Kd.M (Kd.int .u8) _ _ _ 10 [.int .u8 10] from rfl) (Reps.none _ _))); intro v186 w3 ho4 hb hg_ hnew_; clear hg_ hnew_; (first | rw [← Ny185.out] at ho4 | (simp only [Int.reduceToNat] at ho4; rw [← Ny185.out] at ho4)); have n0_ := Aside0.mk (Kd.R_lower ho4 (below_size (by repeat (first | (with_reducible first | exact HB.out | apply below_alloc | apply pw_below_drewN | apply below_drew1) | exact HB.out)))); have n1_ := Aside0.mk (below_step (by repeat (first | (with_reducible first | exact HB.out | apply below_alloc | apply pw_below_drewN | apply below_drew1) | exact HB.out)) hb); clear HB; have HO187 := n0_; have HB := n1_; clear n0_ n1_; clear hb ho4; obtain ⟨Ao5, co5, eo5⟩ := Kd.R_slice HO187.out; subst eo5) | ((with_reducible refine gate_callee (f := 40) rfl ?_); refine goesL_ (some 5) rfl rfl Tryd.func40 (by kernel_rfl) rfl #[.slice A0 l0.length c0, .slice Ao5 y185.length co5] rfl (by (try simp only [List.map_toArray, List.map_cons, List.map_nil]); first | done | rfl | (simp only [List.length_drop, List.length_take]; rfl)) ?_; (with_reducible refine (bytes_Count.calls _ _ l0 _ _ y185 t188 _ ?side1 ?side2 ?side3 ?side4 A2.out).mono ?_); (case side1 => repeat (first | exact (Kd.C_below HR0.out HB.out) | (with_reducible refine Kd.C_alloc ?_ _) | (with_reducible refine Kd.C_drewN ?_ _) | (with_reducible refine Kd.C_drew ?_))); (case side2 => exact HC0.out); (case side3 => repeat (first | exact (Kd.R_reads' HO187.out).2.2 | (with_reducible refine Kd.C_alloc ?_ _) | (with_reducible refine Kd.C_drewN ?_ _) | (with_reducible refine Kd.C_drew ?_))); (case side4 => exact (Kd.R_reads' HO187.out).2.1); rintro e w' ⟨rfl, ⟨nd, rfl⟩⟩; refine ⟨_, rfl, ?_⟩))
  go_ret
  exact ⟨by first | rfl | (simp [errW_none, errW_some] <;> rfl) | (simp [*, errW_none, errW_some] <;> rfl), by repeat (first | (with_reducible first | exact HB.out | apply below_alloc | apply pw_below_drewN | apply below_drew1) | exact HB.out)⟩

end Go.Proofs.YtdhdngoeaneanaaDoor.X
end
section
-- Written by wip/xprint.py over the kit's print.py: the Lean function of each Go function, and the proof that the Go text comes to it.
namespace Go.Proofs.YtdhdngoeaneanaaDoor.X
open Go.RowKit Go.Proofs.YtdhdngoeaneanaaDoorW.PrintWords Go.Proofs.YtdhdngoeaneanaaDoorW.PrintLast Go.Proofs.YtdhdngoeaneanaaDoorW.PrintMore
attribute [local go_sem] max2_int min2_int max_two min_two max_three min_three max_four min_four   -- for this text's walks alone
set_option linter.unusedVariables false
set_option linter.unusedSimpArgs false

/-! ### bytes_IndexByte: function 36, by hand -/
def bytes_IndexByte.f (l0 : List Int) (a1 : Int) : Option (Int) := if (u8s l0 && decide (0 ≤ a1 ∧ a1 ≤ 255)) = true then some (idx a1 l0) else none
set_option maxHeartbeats 2000000 in
set_option maxRecDepth 1000000 in
theorem bytes_IndexByte.calls (A0 : Option Addr) (c0 : Nat) (l0 : List Int) (a1 : Int) (r : Int) (w : World) (hr0 : Kd.C (Kd.int .u8) w A0 l0.length l0) (hc0 : l0.length ≤ c0) (h : bytes_IndexByte.f l0 a1 = some r) :
    Calls Tryd.prog 36 #[.slice A0 l0.length c0, .int .u8 a1] w fun e w' => e = .returned (.int .i64 r) ∧ Drawn0 w w' := by
  unfold bytes_IndexByte.f at h
  by_cases hu : (u8s l0 && decide (0 ≤ a1 ∧ a1 ≤ 255)) = true
  case neg => rw [if_neg hu] at h; cases h
  rw [if_pos hu] at h
  obtain rfl := Option.some.inj h
  rw [Bool.and_eq_true, decide_eq_true_iff] at hu
  have hidx := idx_eq hu.2 l0 hu.1
  rw [← hidx]
  obtain ⟨hb0, hA⟩ := reads_u8 hr0
  have hrun : (Extern.BytealgIndexByte.indexByte #[.slice A0 l0.length c0, .int .u8 a1]).run Tryd.prog w = .ok (.int .i64 (Lib.indexByte (Lib.bytesOf l0) a1.toNat.toUInt8)) w := by
    cases A0 with
    | none =>
      have h0 : l0 = [] := by
        cases l0 with
        | nil => rfl
        | cons x l => obtain ⟨_, h1, _⟩ := hA (by simp); cases h1
      subst h0
      exact Lib.run_indexByteNil w _ _ a1
    | some a =>
      refine Lib.run_indexByteAt w a _ _ l0 rfl (fun i hi => ?_) a1
      obtain ⟨a', h1, h2⟩ := hA (by omega)
      obtain rfl := Option.some.inj h1
      exact h2 i hi
  have HR := Aside0.mk hrun
  clear hA hrun hidx hr0 hu h
  go_enter Tryd.func36, Tryd.ntmps36
  go_wp2
  rw [run_callFunc_extern Tryd.func56 (by kernel_rfl) (by kernel_rfl) (by kernel_rfl) (e := Extern.BytealgIndexByte.indexByte) (by kernel_rfl), HR.out]
  simp only [Result.andThen]
  rw [Oper.upon_value]
  go_wp2
  go_ret
  exact ⟨rfl, Drawn0.refl _⟩

end Go.Proofs.YtdhdngoeaneanaaDoor.X
end
