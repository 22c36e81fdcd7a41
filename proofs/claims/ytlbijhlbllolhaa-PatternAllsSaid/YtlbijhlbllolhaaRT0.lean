/-
  The reference of patterns, by hand: sets by value.
-/
import Derived.Test.YtlbijhlbllolhaaPT14
import Derived.Deep.WholeRow
import Derived.Deep.MidRow
import Derived.Laws.ResultCell
import Derived.Laws.CopyOwn
namespace Go.Proofs.Ytlbijhlbllolhaa.PT
open Go.RowKit Go.Proofs.YtlbijhlbllolhaaW.PrintWords Go.Proofs.YtlbijhlbllolhaaW.PrintMore
set_option linter.unusedVariables false
theorem bset_one (S : Nat → Bool) : ∀ v ∈ (bset S).toList, v.oneCell' = true := by
  intro v hv
  simp only [bset, List.mem_map] at hv
  obtain ⟨i, _, rfl⟩ := hv
  rfl
theorem bset_all (S : Nat → Bool) : (bset S).all (·.oneCell') = true := Array.all_eq_true_iff_forall_mem.2 (fun v hv => bset_one S v (by simpa using hv))
theorem zset' (w : World) : (zeroValue 67).run Try.prog w = .ok (.agg (bset fun _ => false)) w := by kernel_rfl
theorem szset : (Try.prog.info? 67).map (·.size) = some 256 := by kernel_rfl
theorem szset' (S : Nat → Bool) : (Try.prog.info? 67).map (·.size) = some (bset S).size := by rw [bset_size]; exact szset
/-- A set out of its block. -/
theorem ld_set {w : World} {g : Nat} {S : Nat → Bool} (h : w.heap[g]? = some (.cells (bset S) 67 (0, 0))) : (Instr.loadAt 67 (.pointer (some ⟨g, 0, none⟩))).run Try.prog w = .ok (.agg (bset S)) w := by
  simp only [Instr.loadAt, Instr.sureAddr, Sem.run_bind, Sem.run_pure, Result.andThen]
  exact run_loadVar_row w g _ _ _ _ _ h Try.underlying67 rfl (szset' S)
/-- A set into its block. -/
theorem st_set {w : World} {g : Nat} {S S' : Nat → Bool} (h : w.heap[g]? = some (.cells (bset S) 67 (0, 0))) : (Instr.storeAt 67 (.pointer (some ⟨g, 0, none⟩)) (.agg (bset S'))).run Try.prog w = .ok () (w.setRow g (bset S')) := by
  simp only [Instr.storeAt, Instr.sureAddr, Sem.run_bind, Sem.run_pure, Result.andThen]
  exact run_storeVar_row w g _ _ _ _ h (szset' S') (by rw [bset_size, bset_size]) (bset_all S')
theorem row_blk {w : World} {g t : Nat} {cs cs' : Array Value} (h : w.heap[g]? = some (.cells cs t (0, 0))) : (w.setRow g cs').heap[g]? = some (.cells cs' t (0, 0)) := setRow_heap w g cs cs' t (0, 0) h
theorem row_far {w : World} {g k : Nat} {o : Obj} (h : w.heap[k]? = some o) (hk : k ≠ g) (cs : Array Value) : (w.setRow g cs).heap[k]? = some o := (setRow_other w g k cs hk).trans h
theorem res_cell {fn : Func} {p : Tmp} {ty : TypeId} (h : fn.results = #[.cell p ty]) (tmps : Array Value) (P : Program) (w : World) :
    (results fn tmps).run P w = ((asAddr (tmps.getD p undef)).run P w).andThen fun a w₁ => (loadVar ty a).run P w₁ := by
  simp only [results, h]
  simp [Sem.run_bind, Result.andThen]
theorem res_cell3 {fn : Func} {p u v : Tmp} {ty : TypeId} (h : fn.results = #[.cell p ty, .tmp u, .tmp v]) (tmps : Array Value) (P : Program) (w : World) :
    (results fn tmps).run P w = ((asAddr (tmps.getD p undef)).run P w).andThen fun a w₁ => ((loadVar ty a).run P w₁).andThen fun x w₂ => .ok (.tuple #[x, tmps.getD u undef, tmps.getD v undef]) w₂ := by
  simp only [results, h]
  simp [Sem.run_bind, Result.andThen]
theorem ldv_set {w : World} {g : Nat} {S : Nat → Bool} (h : w.heap[g]? = some (.cells (bset S) 67 (0, 0))) : (loadVar 67 ⟨g, 0, none⟩).run Try.prog w = .ok (.agg (bset S)) w :=
  run_loadVar_row w g _ _ _ _ _ h Try.underlying67 rfl (szset' S)
theorem res3_of {fn : Func} {p u v : Tmp} (h : fn.results = #[.cell p 67, .tmp u, .tmp v]) {tmps : Array Value} {w : World} {g : Nat} {S : Nat → Bool} {x y : Value} (hp : tmps.getD p undef = .pointer (some ⟨g, 0, none⟩)) (hu : tmps.getD u undef = x) (hv : tmps.getD v undef = y)
    (hb : w.heap[g]? = some (.cells (bset S) 67 (0, 0))) : (results fn tmps).run Try.prog w = .ok (.tuple #[.agg (bset S), x, y]) w := by
  rw [res_cell3 h, hp, hu, hv, show (asAddr (.pointer (some ⟨g, 0, none⟩))).run Try.prog w = .ok ⟨g, 0, none⟩ w from rfl, Result.andThen_ok, ldv_set hb, Result.andThen_ok]
set_option maxHeartbeats 1000000 in
set_option maxRecDepth 100000 in
theorem rone_calls (b : Int) (hb : 0 ≤ b ∧ b ≤ 255) (w : World) :
    Calls Try.prog 26 #[.int .u8 b] w fun e w' => e = .returned (.agg (bset fun j => j == b.toNat)) ∧ Below w.heap.size w w' := by
  go_enter Try.func26, Try.ntmps26
  have z := zset'
  have hg := bset_get (S := fun _ => false) (i := b.toNat) (by omega)
  go_upto_region 2 with (fail)
  have B1 : ((w.alloc (Obj.cells (bset fun x => false) 67)).alloc (Obj.cells (bset fun x => false) 67)).heap[w.heap.size]? = some (.cells (bset fun x => false) 67 (0, 0)) := blk_alloc (blk_new w _) _
  have B2 : ((w.alloc (Obj.cells (bset fun x => false) 67)).alloc (Obj.cells (bset fun x => false) 67)).heap[w.heap.size + 1]? = some (.cells (bset fun x => false) 67 (0, 0)) := by simpa using blk_new (w.alloc (Obj.cells (bset fun x => false) 67)) (Obj.cells (bset fun x => false) 67)
  have BB : Below w.heap.size w ((w.alloc (Obj.cells (bset fun x => false) 67)).alloc (Obj.cells (bset fun x => false) 67)) := below_alloc (below_alloc (Below.refl _ _) _) _
  generalize ((w.alloc (Obj.cells (bset fun x => false) 67)).alloc (Obj.cells (bset fun x => false) 67)) = W at B1 B2 BB ⊢
  have cb := (blk_cell B2 b.toNat).trans hg
  have fb := blk_frozen B2 b.toNat
  have B3 := blk_put B2 b.toNat (.bool true) rfl
  have B4 := blk_far B1 (p := ⟨w.heap.size + 1, b.toNat, none⟩) (by simp) (.bool true)
  rw [bset_set] at B3
  have BB2 : Below w.heap.size w (W.setCell ⟨w.heap.size + 1, b.toNat, none⟩ (.bool true)) := below_set BB (by omega)
  have H := Aside0.mk (And.intro B3 (And.intro B4 BB2))
  clear B1 B2 B3 B4 BB BB2 z hg
  go_wp2_with (first
    | ((with_reducible refine gate_ (.load 67 (.tmp 3)) rfl ?_); refine wpList_load_row rfl 67 (.tmp 3) rfl (w.heap.size + 1) rfl _ _ _ _ H.out.1 Try.underlying67 rfl (szset' _) ?_)
    | ((with_reducible refine gate_ (.store 67 (.tmp 2) (.tmp 6)) rfl ?_); refine wpList_store_row rfl 67 (.tmp 2) (.tmp 6) rfl w.heap.size (bset fun j => if j = b.toNat then true else false) rfl rfl _ _ H.out.2.1 (szset' _) (by rw [bset_size, bset_size]) (bset_all _) ?_))
  refine bodyPost_ret (v := .agg (bset fun j => if j = b.toNat then true else false)) ?_ rfl ⟨?_, below_setRow H.out.2.2 (Nat.le_refl _) _⟩
  · rw [res_cell rfl]
    simp only [go_sem, asAddr]
    exact ldv_set (row_blk H.out.2.1)
  · rw [show (fun j => j == b.toNat) = (fun j => if j = b.toNat then true else false) from funext fun j => by by_cases e : j = b.toNat <;> simp [e]]
set_option maxHeartbeats 1000000 in
set_option maxRecDepth 100000 in
theorem rall_calls (w : World) :
    Calls Try.prog 27 #[] w fun e w' => e = .returned (.agg (bset fun j => decide (j < 256))) ∧ Below w.heap.size w w' := by
  go_enter Try.func27, Try.ntmps27
  have z := zset'
  go_upto_region 2 with (fail)
  have B1 : ((w.alloc (Obj.cells (bset fun x => false) 67)).alloc (Obj.cells (bset fun x => false) 67)).heap[w.heap.size]? = some (.cells (bset fun x => false) 67 (0, 0)) := blk_alloc (blk_new w _) _
  have B2 : ((w.alloc (Obj.cells (bset fun x => false) 67)).alloc (Obj.cells (bset fun x => false) 67)).heap[w.heap.size + 1]? = some (.cells (bset fun x => false) 67 (0, 0)) := by simpa using blk_new (w.alloc (Obj.cells (bset fun x => false) 67)) (Obj.cells (bset fun x => false) 67)
  have BB : Below w.heap.size w ((w.alloc (Obj.cells (bset fun x => false) 67)).alloc (Obj.cells (bset fun x => false) 67)) := below_alloc (below_alloc (Below.refl _ _) _) _
  generalize ((w.alloc (Obj.cells (bset fun x => false) 67)).alloc (Obj.cells (bset fun x => false) 67)) = W at B1 B2 BB ⊢
  have H := Aside0.mk (And.intro B1 (And.intro B2 BB))
  clear B1 B2 BB z
  go_wp2
  go_loopw [2] (fun i wr => ∃ k : Nat, k ≤ 256 ∧ i = .int .i64 k ∧ Aside0 (wr.heap[w.heap.size]? = some (.cells (bset fun x => false) 67 (0, 0)) ∧ wr.heap[w.heap.size + 1]? = some (.cells (bset fun j => decide (j < k)) 67 (0, 0)) ∧ Below w.heap.size w wr)) (fun i _ => 256 - (intOf i).toNat)
  case atStart => exact ⟨0, by omega, rfl, ⟨by simpa using H.out⟩⟩
  case round =>
    obtain ⟨k, hk, rfl, hw⟩ := hrel
    clear H
    by_cases hlt : k < 256
    · have ck := (blk_cell hw.out.2.1 k).trans (bset_get (S := fun j => decide (j < k)) (i := k) hlt)
      have fk := blk_frozen hw.out.2.1 k
      go_wp2
      go_roundw
      case rel =>
        refine ⟨k + 1, by omega, by go_num, ⟨blk_far hw.out.1 (by simp) _, ?_, below_set hw.out.2.2 (by omega)⟩⟩
        have B3 := blk_put hw.out.2.1 k (.bool true) rfl
        rw [bset_set] at B3
        rw [show (fun j => decide (j < k + 1)) = (fun j => if j = k then true else decide (j < k)) from funext fun j => by by_cases e : j = k <;> simp [e]; omega]
        exact B3
      case measure => simp [intOf]; omega
    · obtain rfl : k = 256 := by omega
      go_wp2_with (first
        | ((with_reducible refine gate_ (.load 67 (.tmp 1)) rfl ?_); refine wpList_load_row rfl 67 (.tmp 1) rfl (w.heap.size + 1) rfl _ _ _ _ hw.out.2.1 Try.underlying67 rfl (szset' _) ?_)
        | ((with_reducible refine gate_ (.store 67 (.tmp 0) (.tmp 9)) rfl ?_); refine wpList_store_row rfl 67 (.tmp 0) (.tmp 9) rfl w.heap.size (bset fun j => decide (j < 256)) rfl rfl _ _ hw.out.1 (szset' _) (by rw [bset_size, bset_size]) (bset_all _) ?_))
      refine bodyPost_ret (v := .agg (bset fun j => decide (j < 256))) ?_ rfl ⟨rfl, below_setRow hw.out.2.2 (Nat.le_refl _) _⟩
      rw [res_cell rfl]
      simp only [go_sem, asAddr]
      exact ldv_set (row_blk hw.out.1)
end Go.Proofs.Ytlbijhlbllolhaa.PT
