/-
  Address, by hand: marks; no mark is set.
-/
import Derived.Test.YtdhdngoeaneanaaDoorAT1
import Derived.Deep.MidRow
import Derived.Laws.CopyOwn
namespace Go.Proofs.YtdhdngoeaneanaaDoor.PT
open Go.RowKit Go.Proofs.YtdhdngoeaneanaaDoorW.PrintWords Go.Proofs.YtdhdngoeaneanaaDoorW.PrintMore
set_option linter.unusedVariables false
set_option linter.unusedSimpArgs false
/-- Marks as cells. -/
def marks (l : List Int) : Array Value := (l.map (Value.int .i64)).toArray
theorem marks_size (l : List Int) : (marks l).size = l.length := by simp [marks]
theorem marks_one (l : List Int) : (marks l).all (·.oneCell') = true := Array.all_eq_true_iff_forall_mem.2 (fun v hv => by
  simp [marks] at hv
  obtain ⟨x, _, rfl⟩ := hv
  rfl)
theorem marks_get {l : List Int} {i : Nat} (h : i < l.length) : (marks l)[i]? = some (.int .i64 (l.getD i 0)) := by
  simp [marks, h]
theorem marks_set (l : List Int) (i : Nat) (x : Int) : (marks l).setIfInBounds i (.int .i64 x) = marks (l.set i x) := by
  simp [marks, List.map_set]
def nil27 : List Int := List.replicate 27 0
theorem zmk (w : World) : (zeroValue 37).run Tryd.prog w = .ok (.agg (marks nil27)) w := by kernel_rfl
theorem szmk : (Tryd.prog.info? 37).map (·.size) = some 27 := by kernel_rfl
theorem szmk' {l : List Int} (h : l.length = 27) : (Tryd.prog.info? 37).map (·.size) = some (marks l).size := by rw [marks_size, h]; exact szmk
theorem szar : (Tryd.prog.info? 35).map (·.size) = some 26 := by kernel_rfl
theorem bld27 : Tryd.prog.built 37 [] = some (marks nil27) := by kernel_rfl
section
variable {P : Program} {ops : Array Oper} {rest : List Oper} {o : Oper} {a : Act} {Q : Exit → Act → World → Prop} {W : World}
theorem wpl_build0 (hgd : o.guard = none) (t : TypeId) (ho : o.op = .build t #[]) (cells : Array Value)
    (hf : P.built t [] = some cells) (h : wpList P ops Q rest (a.put o.dst (.agg cells)) W) : wpList P ops Q (o :: rest) a W := by
  have hf' : P.built t ((#[] : Array (Nat × Operand)).map fun (i, x) => (i, a.eval x)).toList = some cells := by simpa using hf
  exact wpList_plain hgd fun _ hK => wp_build t _ ho (by rw [hf']; rfl) (by rw [hf']; exact hK _ _ h)
end
theorem range26 {w : World} {g : Nat} {l : List Int} (h : w.heap[g]? = some (.cells (marks l) 37 (0, 0))) (hl : l.length = 27) : w.rangeAt g 0 ((l.take 26).map (Value.int .i64)) := by
  have h2 := World.rangeAt_of_block h 0 26
  rw [show ((marks l).extract 0 (0 + 26)).toList = (l.take 26).map (Value.int .i64) from by simp [marks, List.map_take]] at h2
  exact h2
theorem idx27 {N : Array Value} {i : Nat} {x : Int} (hi : i < 26) (h : N[i]? = some (.int .i64 x)) (w : World) : (Instr.index 35 (.agg N) (.int .i64 i)).run Tryd.prog w = .ok (.int .i64 x) w := by
  have hs : (sizeOf 3).run Tryd.prog w = .ok 1 w := by kernel_rfl
  simp [Instr.index, run_underlying Tryd.underlying35, asIntOf, hi, go_sem, part, hs, h]
theorem unset_calls {w : World} (x : Int) : Calls Tryd.prog 45 #[.int .i64 x] w fun e w' => e = .returned (.int .i64 (-1)) ∧ Below w.heap.size w w' := by
  go_enter Tryd.func45, Tryd.ntmps45
  go_wp2
  exact bodyPost_ret (v := .int .i64 (-1)) (by simp [results, Tryd.results45, go_sem]) rfl ⟨rfl, Below.refl _ _⟩
set_option maxHeartbeats 4000000 in
set_option maxRecDepth 100000 in
theorem each_calls {w : World} {l : List Int} (hl : l.length = 27) : Calls Tryd.prog 44 #[.agg (marks l), .func (Fn.func 45) #[] #[]] w fun e w' => ∃ l' : List Int, l'.length = 27 ∧ e = .returned (.agg (marks l')) ∧ Below w.heap.size w w' := by
  have z := zmk
  have HR := Aside0.mk (show ((w.alloc (.cells (marks l) 37)).alloc (.cells (marks nil27) 37)).heap[w.heap.size]? = some (.cells (marks l) 37 (0, 0)) from blk_alloc (blk_new w _) _)
  have HZ := Aside0.mk (show ((w.alloc (.cells (marks l) 37)).alloc (.cells (marks nil27) 37)).heap[w.heap.size + 1]? = some (.cells (marks nil27) 37 (0, 0)) from by have h := blk_new (w.alloc (.cells (marks l) 37)) (.cells (marks nil27) 37); rw [World.size_alloc] at h; exact h)
  have HB := Aside0.mk (below_alloc (below_alloc (Below.refl w.heap.size w) (.cells (marks l) 37)) (.cells (marks nil27) 37))
  go_enter Tryd.func44, Tryd.ntmps44
  go_wp2_with ((with_reducible refine gate_ (.load 35 (.tmp 7)) rfl ?_); refine wpList_load_mid rfl 35 (.tmp 7) rfl w.heap.size 0 rfl ((l.take 26).map (Value.int .i64)) _ (range26 HR.out hl) Tryd.underlying35 rfl (by rw [List.length_map, List.length_take, hl]; exact szar) ?_)
  have hg : ∀ i : Nat, i < 26 → (List.take 26 (List.map (Value.int .i64) l)).toArray[i]? = some (.int .i64 (l.getD i 0)) := fun i hi => by
    have h1 : i < l.length := by omega
    simp [List.getElem?_take, hi, h1]
  generalize (List.take 26 (List.map (Value.int .i64) l)).toArray = N at hg ⊢
  generalize ((w.alloc (.cells (marks l) 37)).alloc (.cells (marks nil27) 37)) = W at HR HZ HB ⊢
  have HG := Aside0.mk hg
  clear hg z
  go_loopg [9] 26 (fun g v9 wl => ∃ (i : Nat) (L : List Int), i + g = 26 ∧ v9 = .int .i64 i ∧ Aside0 (L.length = 27 ∧ wl.heap[w.heap.size]? = some (.cells (marks L) 37 (0, 0)) ∧ wl.heap[w.heap.size + 1]? = some (.cells (marks nil27) 37 (0, 0)) ∧ Below w.heap.size w wl))
  case atStart => exact ⟨0, l, by omega, rfl, ⟨hl, HR.out, HZ.out, HB.out⟩⟩
  case round =>
    obtain ⟨i, L, hi, rfl, HL⟩ := hrel
    clear HR HZ HB
    cases gk with
    | succ g =>
      have q1 : ((i : Int) < 26) = True := eq_true (by omega)
      have q2 : (0 ≤ (i : Int)) = True := eq_true (by omega)
      have hn := idx27 (by omega) (HG.out i (by omega))
      have HM := Aside0.mk HL.out.2.1
      go_wp2_with (go_at_call 45; (with_reducible refine (unset_calls _).mono ?_); rintro e w2 ⟨rfl, hy⟩; have HN := Aside0.mk (blk_below HM.out hy); have HX := Aside0.mk (And.intro (blk_below HL.out.2.2.1 hy) (below_step HL.out.2.2.2 hy)); have c1 := (blk_cell HN.out i).trans (marks_get (by have h1 := HL.out.1; omega)); have c2 := blk_frozen HN.out i; clear hy)
      go_roundg g
      case measure => omega
      case rel =>
        refine ⟨i + 1, L.set i (-1), by omega, by go_num, ⟨by rw [List.length_set]; exact HL.out.1, ?_, ?_, HX.out.2.setCell (p := ⟨w.heap.size, i, none⟩) (Nat.le_refl _) _⟩⟩
        · have h := blk_set HN.out i (.int .i64 (-1))
          rw [marks_set] at h
          exact h
        · exact blk_far HX.out.1 (p := ⟨w.heap.size, i, none⟩) (by show w.heap.size + 1 ≠ w.heap.size; omega) _
    | zero =>
      have q1 : ((i : Int) < 26) = False := eq_false (by omega)
      have c0 := (blk_cell HL.out.2.1 26).trans (marks_get (by have h1 := HL.out.1; omega))
      have HM := Aside0.mk HL.out.2.1
      go_wp2_with (first
        | (go_at_call 45; (with_reducible refine (unset_calls _).mono ?_); rintro e w2 ⟨rfl, hy⟩; have HN := Aside0.mk (blk_below HM.out hy); have HX := Aside0.mk (And.intro (blk_below HL.out.2.2.1 hy) (below_step HL.out.2.2.2 hy)); have c1 := (blk_cell HN.out 26).trans (marks_get (by have h1 := HL.out.1; omega)); have c2 := blk_frozen HN.out 26; have HP := Aside0.mk (by have h := blk_set HN.out 26 (.int .i64 (-1)); rw [marks_set] at h; exact h); have HQ := Aside0.mk (blk_far HX.out.1 (p := ⟨w.heap.size, 26, none⟩) (by show w.heap.size + 1 ≠ w.heap.size; omega) (.int .i64 (-1))); clear hy)
        | ((with_reducible refine gate_ (.load 37 (.tmp 2)) rfl ?_); refine wpList_load_row rfl 37 (.tmp 2) rfl w.heap.size rfl _ _ _ _ HP.out Tryd.underlying37 rfl (szmk' (by rw [List.length_set]; exact HL.out.1)) ?_)
        | ((with_reducible refine gate_ (.store 37 (.tmp 4) (.tmp 25)) rfl ?_); refine wpList_store_row rfl 37 (.tmp 4) (.tmp 25) rfl (w.heap.size + 1) (marks (L.set 26 (-1))) rfl rfl _ _ HQ.out (szmk' (by rw [List.length_set]; exact HL.out.1)) (by rw [marks_size, marks_size, List.length_set, HL.out.1]; rfl) (marks_one _) ?_))
      exact bodyPost_ret (v := .agg (marks (L.set 26 (-1)))) (results_cell_row Tryd.results44 _ _ (w.heap.size + 1) 37 (marks (L.set 26 (-1))) (0, 0) _ rfl (setRow_heap _ _ _ _ _ _ HQ.out) Tryd.underlying37 rfl (szmk' (by rw [List.length_set]; exact HL.out.1))) rfl ⟨_, by rw [List.length_set]; exact HL.out.1, rfl, below_setRow (HX.out.2.setCell (p := ⟨w.heap.size, 26, none⟩) (Nat.le_refl _) _) (by omega) _⟩
set_option maxHeartbeats 4000000 in
set_option maxRecDepth 100000 in
theorem none_calls {w : World} : Calls Tryd.prog 21 #[] w fun e w' => ∃ M : Array Value, e = .returned (.agg M) ∧ Below w.heap.size w w' := by
  have z := zmk
  have HZ := Aside0.mk (blk_new w (.cells (marks nil27) 37))
  have HB := Aside0.mk (below_alloc (Below.refl w.heap.size w) (.cells (marks nil27) 37))
  go_enter Tryd.func21, Tryd.ntmps21
  go_wp2_with (first
    | ((with_reducible refine gate_ (.build 37 #[]) rfl ?_); refine wpl_build0 rfl 37 rfl (marks nil27) bld27 ?_)
    | (go_at_call 44; (with_reducible refine (each_calls (l := nil27) rfl).mono ?_); rintro e w2 ⟨l', hl', rfl, hy⟩; have HX := Aside0.mk (And.intro (blk_below HZ.out hy) (below_step HB.out hy)); have HL := Aside0.mk hl'; clear hy hl')
    | ((with_reducible refine gate_ (.store 37 (.tmp 0) (.tmp 2)) rfl ?_); refine wpList_store_row rfl 37 (.tmp 0) (.tmp 2) rfl w.heap.size (marks l') rfl rfl _ _ HX.out.1 (szmk' HL.out) (by rw [marks_size, marks_size, HL.out]; rfl) (marks_one _) ?_))
  exact bodyPost_ret (v := .agg (marks l')) (results_cell_row Tryd.results21 _ _ w.heap.size 37 (marks l') (0, 0) _ rfl (setRow_heap _ _ _ _ _ _ HX.out.1) Tryd.underlying37 rfl (szmk' HL.out)) rfl ⟨_, rfl, below_setRow HX.out.2 (Nat.le_refl _) _⟩
end Go.Proofs.YtdhdngoeaneanaaDoor.PT
