/-
  The reference of patterns, by hand: things by value.
-/
import Derived.Test.YtlbijhlbllolhaaRT1
import Derived.Great.BuildSlice
namespace Go.Proofs.Ytlbijhlbllolhaa.PT
open Go.RowKit Go.Proofs.YtlbijhlbllolhaaW.PrintWords Go.Proofs.YtlbijhlbllolhaaW.PrintMore
set_option linter.unusedVariables false
/-- A thing of the reference: its kind, its set. -/
abbrev RT := Int × (Nat → Bool)
def tcl (x : RT) : List Value := .int .i64 x.1 :: (bset x.2).toList
def tcells (x : RT) : Array Value := (tcl x).toArray
theorem tcl_len (x : RT) : (tcl x).length = 257 := by simp [tcl, bset]
theorem tcl_one (x : RT) : ∀ v ∈ tcl x, v.oneCell' = true := by
  intro v hv
  rcases List.mem_cons.1 hv with rfl | hv
  · rfl
  · exact bset_one _ v hv
theorem tcells_size (x : RT) : (tcells x).size = 257 := by simp [tcells, tcl_len]
theorem tcells_all (x : RT) : (tcells x).all (·.oneCell') = true := Array.all_eq_true_iff_forall_mem.2 (fun v hv => tcl_one x v (by simpa [tcells] using hv))
theorem zth (w : World) : (zeroValue 69).run Try.prog w = .ok (.agg (tcells (0, fun _ => false))) w := by kernel_rfl
theorem szth : (Try.prog.info? 69).map (·.size) = some 257 := by kernel_rfl
theorem szth' (x : RT) : (Try.prog.info? 69).map (·.size) = some (tcells x).size := by rw [tcells_size]; exact szth
theorem infoR : (Try.prog.info? 69).map (fun i => (i.zero, i.size, i.bytes)) = some (some (.agg (tcells (0, fun _ => false))), 257, 264) := by kernel_rfl
theorem bld0 (k : Int) : Try.prog.built 69 [(0, .int .i64 k)] = some (tcells (k, fun _ => false)) := by kernel_rfl
theorem bld1 (S : Nat → Bool) : Try.prog.built 69 [(1, .agg (bset S))] = some (tcells (0, S)) := by kernel_rfl
theorem fillR (x : RT) : Instr.fill (fun i => some (i * 257, 257)) ((Array.range (1 * 257)).map ((Value.agg (tcells (0, fun _ => false))).cells[· % (Value.agg (tcells (0, fun _ => false))).cells.size]!)) [(0, .agg (tcells x))] = some (tcells x) := by kernel_rfl
/-- Rows of things. -/
def kR : Kd RT where
  sz := 257
  E := []
  K := fun _ x cs => cs = tcl x
  M := fun _ _ _ x cs => cs = tcl x
  K_len := fun h => by rw [h]; exact tcl_len _
  K_one := fun h => by rw [h]; exact tcl_one _
  K_below := fun _ h => h
  K_of_M := fun h => h
  M_mono := fun _ h => h
  M_bound := fun h => h
  M_move := fun _ h => h
  M_lower := fun _ h => h
/-- What a thing of the reference stands for. -/
def RTd (x : RT) : PTh :=
  if x.1 = 0 then .single x.2 else if x.1 = 1 then .many x.2 else if x.1 = 2 then .front else if x.1 = 3 then .back else if x.1 = 4 then .opens else .closes
section
variable {P : Program} {ops : Array Oper} {rest : List Oper} {o : Oper} {a : Act} {Q : Exit → Act → World → Prop} {W : World}
theorem wpl_build (hgd : o.guard = none) (t : TypeId) (i : Nat) (x : Operand) (ho : o.op = .build t #[(i, x)]) (cells : Array Value)
    (hf : P.built t [(i, a.eval x)] = some cells) (h : wpList P ops Q rest (a.put o.dst (.agg cells)) W) : wpList P ops Q (o :: rest) a W := by
  have hf' : P.built t ((#[(i, x)] : Array (Nat × Operand)).map fun (i, x) => (i, a.eval x)).toList = some cells := by simpa using hf
  exact wpList_plain hgd fun _ hK => wp_build t _ ho (by rw [hf']; rfl) (by rw [hf']; exact hK _ _ h)
theorem wpl_slice1 (hgd : o.guard = none) (t e : TypeId) (x : Operand) (ho : o.op = .buildSlice t 1 #[(0, x)]) (u : Value) (hx : a.eval x = u) (cells : Array Value) (ie : TypeInfo) (z : Value)
    (hu : P.underlying t = some (.slice e)) (hie : P.info? e = some ie) (hz : ie.zero = some z) (hsmall : ¬ 1 * ie.size > 2 ^ 24) (hpos : ¬ 1 * ie.size = 0)
    (hf : Instr.fill (fun i => some (i * ie.size, ie.size)) ((Array.range (1 * ie.size)).map (z.cells[· % z.cells.size]!)) [(0, u)] = some cells)
    (h : wpList P ops Q rest (a.put o.dst (.slice (some ⟨W.heap.size, 0, none⟩) 1 1)) (W.alloc (.cells cells e))) : wpList P ops Q (o :: rest) a W := by
  subst hx
  exact wpList_buildSlice hgd t e 1 _ ho cells ie z hu hie hz hsmall hpos (by simpa using hf) h
end
theorem tset0 (k k' : Int) (S : Nat → Bool) : (tcells (k, S)).setIfInBounds 0 (.int .i64 k') = tcells (k', S) := by
  unfold tcells tcl
  simp
theorem blk_kind {w : World} {T : Nat} {k : Int} {S : Nat → Bool} (h : w.heap[T]? = some (.cells (tcells (k, S)) 69 (0, 0))) (k' : Int) : (w.setCell ⟨T, 0, none⟩ (.int .i64 k')).heap[T]? = some (.cells (tcells (k', S)) 69 (0, 0)) := by
  have h2 := blk_set h 0 (.int .i64 k')
  rwa [tset0] at h2
theorem th_there {w : World} {T : Nat} {k : Int} {S : Nat → Bool} (h : w.heap[T]? = some (.cells (tcells (k, S)) 69 (0, 0))) (S' : Nat → Bool) : w.there T 1 (bset S').size := fun j hj => by
  rw [bset_size] at hj
  refine ⟨?_, blk_frozen h _⟩
  rw [blk_cell h]
  simp [tcells_size]
  omega
theorem blk_setS {w : World} {T : Nat} {k : Int} {S : Nat → Bool} (h : w.heap[T]? = some (.cells (tcells (k, S)) 69 (0, 0))) (S' : Nat → Bool) : (w.setCells T 1 (bset S').toList).heap[T]? = some (.cells (tcells (k, S')) 69 (0, 0)) := by
  obtain ⟨cur', h1, h2, h3⟩ := setCells_row (bset S').toList 1 w _ h (by rw [tcells_size, Array.length_toList, bset_size]; decide)
  rw [h1, show cur' = tcells (k, S') from ?_]
  rw [← Array.toList_inj, h3]
  simp [tcells, tcl, bset]
theorem kR_M (w : World) (base : Nat) (ok : Nat → Prop) (x : RT) : kR.M w base ok x (tcl x) := rfl
section
variable {ops : Array Oper} {rest : List Oper} {o : Oper} {a : Act} {Q : Exit → Act → World → Prop} {W : World}
/-- '[]thing{x}'. -/
theorem wpl_thing (hgd : o.guard = none) (x : Operand) (ho : o.op = .buildSlice 52 1 #[(0, x)]) (y : RT) (hx : a.eval x = .agg (tcells y))
    (h : wpList Try.prog ops Q rest (a.put o.dst (.slice (some ⟨W.heap.size, 0, none⟩) 1 1)) (W.alloc (.cells (tcl y).toArray 69))) : wpList Try.prog ops Q (o :: rest) a W := by
  obtain ⟨i0, hi, hzz⟩ := Option.map_eq_some_iff.1 infoR
  simp only [Prod.mk.injEq] at hzz
  obtain ⟨hz0, hz1, hz2⟩ := hzz
  exact wpl_slice1 hgd _ _ x ho _ hx (tcells y) i0 _ Try.underlying52 hi hz0 (by rw [hz1]; decide) (by rw [hz1]; decide) (by rw [hz1]; exact fillR y) h
end
theorem ld_u8 {W : World} {ad : Addr} {b : Int} (h : W.cell? ad = some (.int .u8 b)) : (Instr.loadAt 5 (.pointer (some ad))).run Try.prog W = .ok (.int .u8 b) W := by
  have hagg : (isAgg 5).run Try.prog W = .ok false W := by kernel_rfl
  simp only [Instr.loadAt, Instr.sureAddr, Sem.run_bind, Sem.run_pure, Result.andThen_ok, loadVar, hagg]
  simp [h]
section
variable {P : Program} {ops : Array Oper} {rest : List Oper} {o : Oper} {a : Act} {Q : Exit → Act → World → Prop} {W : World}
theorem wpl_ld (hgd : o.guard = none) (t : TypeId) (x : Operand) (ho : o.op = .load t x) (ad : Addr) (v : Value) (hx : a.eval x = .pointer (some ad)) (hl : (Instr.loadAt t (.pointer (some ad))).run P W = .ok v W)
    (h : wpList P ops Q rest (a.put o.dst v) W) : wpList P ops Q (o :: rest) a W := by
  refine wpList_plain hgd fun _ hK => ?_
  unfold Oper.wp execOp
  simp only [ho, hx, Sem.run_bind, hl, Result.andThen_ok]
  exact hK _ _ h
end
theorem st_int {W : World} {ad : Addr} {u : Value} {b : Int} (h : W.cell? ad = some u) (hf : W.frozen? ad = false) : (Instr.storeAt 3 (.pointer (some ad)) (.int .i64 b)).run Try.prog W = .ok () (W.setCell ad (.int .i64 b)) := by
  have hs : (sizeOf 3).run Try.prog W = .ok 1 W := by kernel_rfl
  simp [Instr.storeAt, Instr.sureAddr, storeVar, hs, Value.cells, storeCells]
  rw [show ad.add 0 = ad from by simp [Addr.add]]
  rw [run_store _ _ _ _ _ rfl, h]
  simp [hf]
section
variable {P : Program} {ops : Array Oper} {rest : List Oper} {o : Oper} {a : Act} {Q : Exit → Act → World → Prop} {W W' : World}
theorem wpl_st (hgd : o.guard = none) (t : TypeId) (x y : Operand) (ho : o.op = .store t x y) (ad : Addr) (v : Value) (hx : a.eval x = .pointer (some ad)) (hy : a.eval y = v) (hl : (Instr.storeAt t (.pointer (some ad)) v).run P W = .ok () W')
    (h : wpList P ops Q rest (a.put o.dst undef) W') : wpList P ops Q (o :: rest) a W := by
  refine wpList_plain hgd fun _ hK => ?_
  unfold Oper.wp execOp
  simp only [ho, hx, hy, Sem.run_bind, hl, Result.andThen_ok]
  exact hK _ _ h
end
theorem ld_int {W : World} {ad : Addr} {b : Int} (h : W.cell? ad = some (.int .i64 b)) : (Instr.loadAt 3 (.pointer (some ad))).run Try.prog W = .ok (.int .i64 b) W := by
  have hagg : (isAgg 3).run Try.prog W = .ok false W := by kernel_rfl
  simp only [Instr.loadAt, Instr.sureAddr, Sem.run_bind, Sem.run_pure, Result.andThen_ok, loadVar, hagg]
  simp [h]
end Go.Proofs.Ytlbijhlbllolhaa.PT
