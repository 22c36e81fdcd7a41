/-
  Texts of one proof in one file (wip/some.py): XS, AT4, AT5, AT15, AT16, AT17, AT18, AT19, AT20, AT21, AT22.
  Conditions: none.
-/
import Derived.Test.YtdhdngoeaneanaaDoorXO
import Derived.Test.YtdhdngoeaneanaaDoorX0
import Derived.Test.YtdhdngoeaneanaaDoorAT1
import Derived.Deep.MidRow
import Derived.Laws.CopyOwn
import Derived.Test.YtdhdngoeaneanaaDoorAT2
import Derived.Test.YtdhdngoeaneanaaDoorAT3
import Derived.Test.YtdhdngoeaneanaaDoorX7
import Derived.Test.YtdhdngoeaneanaaDoorX8
import Derived.Lib.SlBytesConst
import Derived.OpenShut
import Derived.Test.YtdhdngoeaneanaaDoorXL
import Derived.Test.YtdhdngoeaneanaaDoorX30
import Derived.Test.YtdhdngoeaneanaaDoorX66
import Derived.Test.YtdhdngoeaneanaaDoorX56
import Derived.Test.YtdhdngoeaneanaaDoorX60
import Derived.Test.YtdhdngoeaneanaaDoorX57
import Derived.Test.YtdhdngoeaneanaaDoorX77
section
namespace Go.Proofs.YtdhdngoeaneanaaDoor.XO
open Go.RowKit Go.Proofs.YtdhdngoeaneanaaDoorW.PrintWords Go.Proofs.YtdhdngoeaneanaaDoor.X
def okS25 (x : S25) : Prop := okU8 x.f0 ∧ okI64 x.f1 ∧ okU8 x.f2 ∧ (okSl 1 okU8) x.f3 ∧ okI64 x.f4 ∧ okBool x.f5
def szS25 (x : S25) : Nat := (szOne x.f0 + (szOne x.f1 + (szOne x.f2 + ((szSl szOne) x.f3 + (szOne x.f4 + szOne x.f5))))) + 1
theorem opens25 : Opens Tryd.prog 25 k25 okS25 szS25 := by
  have h := opens_iso (f := fun x : S25 => (x.f0, x.f1, x.f2, x.f3, x.f4, x.f5)) (fun a => ⟨a.1, a.2.1, a.2.2.1, a.2.2.2.1, a.2.2.2.2.1, a.2.2.2.2.2⟩) (fun _ => rfl) (opens_struct Tryd.underlying25 (by kernel_rfl) (of_cons rfl (by kernel_rfl) (opens_u8 Tryd.underlying5) (of_cons rfl (by kernel_rfl) (opens_i64 Tryd.underlying3) (of_cons rfl (by kernel_rfl) (opens_u8 Tryd.underlying5) (of_cons rfl (by kernel_rfl) (opens_sl (B := 1) Tryd.underlying22 (opens_u8 Tryd.underlying5) (by kernel_rfl) (by kernel_rfl)) (of_cons rfl (by kernel_rfl) (opens_i64 Tryd.underlying3) (of_last rfl (by kernel_rfl) (opens_bool Tryd.underlying4))))))))
  exact h
end Go.Proofs.YtdhdngoeaneanaaDoor.XO
end
section
namespace Go.Proofs.YtdhdngoeaneanaaDoor.PT
open Go.RowKit Go.Proofs.YtdhdngoeaneanaaDoorW.PrintWords Go.Proofs.YtdhdngoeaneanaaDoorW.PrintMore
set_option linter.unusedVariables false
set_option linter.unusedSimpArgs false
/-- Marks as cells. -/
def marks (l : List Int) : Array Value := (l.map (Value.int .i64)).toArray
theorem marks_size (l : List Int) : (marks l).size = l.length := by simp [marks]
theorem marks_one (l : List Int) : (marks l).all (·.oneCell') = true := Array.all_eq_true_iff_forall_mem.2 (fun v hv => by
  simp [marks] at hv
  obtain ⟨x, _, rfl⟩ := hv
  rfl)
theorem marks_get {l : List Int} {i : Nat} (h : i < l.length) : (marks l)[i]? = some (.int .i64 (l.getD i 0)) := by
  simp [marks, h]
theorem marks_set (l : List Int) (i : Nat) (x : Int) : (marks l).setIfInBounds i (.int .i64 x) = marks (l.set i x) := by
  simp [marks, List.map_set]
def nil27 : List Int := List.replicate 27 0
theorem zmk (w : World) : (zeroValue 37).run Tryd.prog w = .ok (.agg (marks nil27)) w := by kernel_rfl
theorem szmk : (Tryd.prog.info? 37).map (·.size) = some 27 := by kernel_rfl
theorem szmk' {l : List Int} (h : l.length = 27) : (Tryd.prog.info? 37).map (·.size) = some (marks l).size := by rw [marks_size, h]; exact szmk
theorem szar : (Tryd.prog.info? 35).map (·.size) = some 26 := by kernel_rfl
theorem bld27 : Tryd.prog.built 37 [] = some (marks nil27) := by kernel_rfl
section
variable {P : Program} {ops : Array Oper} {rest : List Oper} {o : Oper} {a : Act} {Q : Exit → Act → World → Prop} {W : World}
theorem wpl_build0 (hgd : o.guard = none) (t : TypeId) (ho : o.op = .build t #[]) (cells : Array Value)
    (hf : P.built t [] = some cells) (h : wpList P ops Q rest (a.put o.dst (.agg cells)) W) : wpList P ops Q (o :: rest) a W := by
  have hf' : P.built t ((#[] : Array (Nat × Operand)).map fun (i, x) => (i, a.eval x)).toList = some cells := by simpa using hf
  exact wpList_plain hgd fun _ hK => wp_build t _ ho (by rw [hf']; rfl) (by rw [hf']; exact hK _ _ h)
end
theorem range26 {w : World} {g : Nat} {l : List Int} (h : w.heap[g]? = some (.cells (marks l) 37 (0, 0))) (hl : l.length = 27) : w.rangeAt g 0 ((l.take 26).map (Value.int .i64)) := by
  have h2 := World.rangeAt_of_block h 0 26
  rw [show ((marks l).extract 0 (0 + 26)).toList = (l.take 26).map (Value.int .i64) from by simp [marks, List.map_take]] at h2
  exact h2
theorem idx27 {N : Array Value} {i : Nat} {x : Int} (hi : i < 26) (h : N[i]? = some (.int .i64 x)) (w : World) : (Instr.index 35 (.agg N) (.int .i64 i)).run Tryd.prog w = .ok (.int .i64 x) w := by
  have hs : (sizeOf 3).run Tryd.prog w = .ok 1 w := by kernel_rfl
  simp [Instr.index, run_underlying Tryd.underlying35, asIntOf, hi, go_sem, part, hs, h]
theorem unset_calls {w : World} (x : Int) : Calls Tryd.prog 45 #[.int .i64 x] w fun e w' => e = .returned (.int .i64 (-1)) ∧ Below w.heap.size w w' := by
  go_enter Tryd.func45, Tryd.ntmps45
  go_wp2
  exact bodyPost_ret (v := .int .i64 (-1)) (by simp [results, Tryd.results45, go_sem]) rfl ⟨rfl, Below.refl _ _⟩
set_option maxHeartbeats 4000000 in
set_option maxRecDepth 100000 in
theorem each_calls {w : World} {l : List Int} (hl : l.length = 27) : Calls Tryd.prog 44 #[.agg (marks l), .func (Fn.func 45) #[] #[]] w fun e w' => ∃ l' : List Int, l'.length = 27 ∧ e = .returned (.agg (marks l')) ∧ Below w.heap.size w w' := by
  have z := zmk
  have HR := Aside0.mk (show ((w.alloc (.cells (marks l) 37)).alloc (.cells (marks nil27) 37)).heap[w.heap.size]? = some (.cells (marks l) 37 (0, 0)) from blk_alloc (blk_new w _) _)
  have HZ := Aside0.mk (show ((w.alloc (.cells (marks l) 37)).alloc (.cells (marks nil27) 37)).heap[w.heap.size + 1]? = some (.cells (marks nil27) 37 (0, 0)) from by have h := blk_new (w.alloc (.cells (marks l) 37)) (.cells (marks nil27) 37); rw [World.size_alloc] at h; exact h)
  have HB := Aside0.mk (below_alloc (below_alloc (Below.refl w.heap.size w) (.cells (marks l) 37)) (.cells (marks nil27) 37))
  go_enter Tryd.func44, Tryd.ntmps44
  go_wp2_with ((with_reducible refine gate_ (.load 35 (.tmp 7)) rfl ?_); refine wpList_load_mid rfl 35 (.tmp 7) rfl w.heap.size 0 rfl ((l.take 26).map (Value.int .i64)) _ (range26 HR.out hl) Tryd.underlying35 rfl (by rw [List.length_map, List.length_take, hl]; exact szar) ?_)
  have hg : ∀ i : Nat, i < 26 → (List.take 26 (List.map (Value.int .i64) l)).toArray[i]? = some (.int .i64 (l.getD i 0)) := fun i hi => by
    have h1 : i < l.length := by omega
    simp [List.getElem?_take, hi, h1]
  generalize (List.take 26 (List.map (Value.int .i64) l)).toArray = N at hg ⊢
  generalize ((w.alloc (.cells (marks l) 37)).alloc (.cells (marks nil27) 37)) = W at HR HZ HB ⊢
  have HG := Aside0.mk hg
  clear hg z
  go_loopg [9] 26 (fun g v9 wl => ∃ (i : Nat) (L : List Int), i + g = 26 ∧ v9 = .int .i64 i ∧ Aside0 (L.length = 27 ∧ wl.heap[w.heap.size]? = some (.cells (marks L) 37 (0, 0)) ∧ wl.heap[w.heap.size + 1]? = some (.cells (marks nil27) 37 (0, 0)) ∧ Below w.heap.size w wl))
  case atStart => exact ⟨0, l, by omega, rfl, ⟨hl, HR.out, HZ.out, HB.out⟩⟩
  case round =>
    obtain ⟨i, L, hi, rfl, HL⟩ := hrel
    clear HR HZ HB
    cases gk with
    | succ g =>
      have q1 : ((i : Int) < 26) = True := eq_true (by omega)
      have q2 : (0 ≤ (i : Int)) = True := eq_true (by omega)
      have hn := idx27 (by omega) (HG.out i (by omega))
      have HM := Aside0.mk HL.out.2.1
      go_wp2_with (go_at_call 45; (with_reducible refine (unset_calls _).mono ?_); rintro e w2 ⟨rfl, hy⟩; have HN := Aside0.mk (blk_below HM.out hy); have HX := Aside0.mk (And.intro (blk_below HL.out.2.2.1 hy) (below_step HL.out.2.2.2 hy)); have c1 := (blk_cell HN.out i).trans (marks_get (by have h1 := HL.out.1; omega)); have c2 := blk_frozen HN.out i; clear hy)
      go_roundg g
      case measure => omega
      case rel =>
        refine ⟨i + 1, L.set i (-1), by omega, by go_num, ⟨by rw [List.length_set]; exact HL.out.1, ?_, ?_, HX.out.2.setCell (p := ⟨w.heap.size, i, none⟩) (Nat.le_refl _) _⟩⟩
        · have h := blk_set HN.out i (.int .i64 (-1))
          rw [marks_set] at h
          exact h
        · exact blk_far HX.out.1 (p := ⟨w.heap.size, i, none⟩) (by show w.heap.size + 1 ≠ w.heap.size; omega) _
    | zero =>
      have q1 : ((i : Int) < 26) = False := eq_false (by omega)
      have c0 := (blk_cell HL.out.2.1 26).trans (marks_get (by have h1 := HL.out.1; omega))
      have HM := Aside0.mk HL.out.2.1
      go_wp2_with (first
        | (go_at_call 45; (with_reducible refine (unset_calls _).mono ?_); rintro e w2 ⟨rfl, hy⟩; have HN := Aside0.mk (blk_below HM.out hy); have HX := Aside0.mk (And.intro (blk_below HL.out.2.2.1 hy) (below_step HL.out.2.2.2 hy)); have c1 := (blk_cell HN.out 26).trans (marks_get (by have h1 := HL.out.1; omega)); have c2 := blk_frozen HN.out 26; have HP := Aside0.mk (by have h := blk_set HN.out 26 (.int .i64 (-1)); rw [marks_set] at h; exact h); have HQ := Aside0.mk (blk_far HX.out.1 (p := ⟨w.heap.size, 26, none⟩) (by show w.heap.size + 1 ≠ w.heap.size; omega) (.int .i64 (-1))); clear hy)
        | ((with_reducible refine gate_ (.load 37 (.tmp 2)) rfl ?_); refine wpList_load_row rfl 37 (.tmp 2) rfl w.heap.size rfl _ _ _ _ HP.out Tryd.underlying37 rfl (szmk' (by rw [List.length_set]; exact HL.out.1)) ?_)
        | ((with_reducible refine gate_ (.store 37 (.tmp 4) (.tmp 25)) rfl ?_); refine wpList_store_row rfl 37 (.tmp 4) (.tmp 25) rfl (w.heap.size + 1) (marks (L.set 26 (-1))) rfl rfl _ _ HQ.out (szmk' (by rw [List.length_set]; exact HL.out.1)) (by rw [marks_size, marks_size, List.length_set, HL.out.1]; rfl) (marks_one _) ?_))
      exact bodyPost_ret (v := .agg (marks (L.set 26 (-1)))) (results_cell_row Tryd.results44 _ _ (w.heap.size + 1) 37 (marks (L.set 26 (-1))) (0, 0) _ rfl (setRow_heap _ _ _ _ _ _ HQ.out) Tryd.underlying37 rfl (szmk' (by rw [List.length_set]; exact HL.out.1))) rfl ⟨_, by rw [List.length_set]; exact HL.out.1, rfl, below_setRow (HX.out.2.setCell (p := ⟨w.heap.size, 26, none⟩) (Nat.le_refl _) _) (by omega) _⟩
set_option maxHeartbeats 4000000 in
set_option maxRecDepth 100000 in
theorem none_calls {w : World} : Calls Tryd.prog 21 #[] w fun e w' => ∃ M : Array Value, e = .returned (.agg M) ∧ Below w.heap.size w w' := by
  have z := zmk
  have HZ := Aside0.mk (blk_new w (.cells (marks nil27) 37))
  have HB := Aside0.mk (below_alloc (Below.refl w.heap.size w) (.cells (marks nil27) 37))
  go_enter Tryd.func21, Tryd.ntmps21
  go_wp2_with (first
    | ((with_reducible refine gate_ (.build 37 #[]) rfl ?_); refine wpl_build0 rfl 37 rfl (marks nil27) bld27 ?_)
    | (go_at_call 44; (with_reducible refine (each_calls (l := nil27) rfl).mono ?_); rintro e w2 ⟨l', hl', rfl, hy⟩; have HX := Aside0.mk (And.intro (blk_below HZ.out hy) (below_step HB.out hy)); have HL := Aside0.mk hl'; clear hy hl')
    | ((with_reducible refine gate_ (.store 37 (.tmp 0) (.tmp 2)) rfl ?_); refine wpList_store_row rfl 37 (.tmp 0) (.tmp 2) rfl w.heap.size (marks l') rfl rfl _ _ HX.out.1 (szmk' HL.out) (by rw [marks_size, marks_size, HL.out]; rfl) (marks_one _) ?_))
  exact bodyPost_ret (v := .agg (marks l')) (results_cell_row Tryd.results21 _ _ w.heap.size 37 (marks l') (0, 0) _ rfl (setRow_heap _ _ _ _ _ _ HX.out.1) Tryd.underlying37 rfl (szmk' HL.out)) rfl ⟨_, rfl, below_setRow HX.out.2 (Nat.le_refl _) _⟩
end Go.Proofs.YtdhdngoeaneanaaDoor.PT
end
section
namespace Go.Proofs.YtdhdngoeaneanaaDoor.PT
open Go.RowKit Go.Proofs.YtdhdngoeaneanaaDoorW.PrintWords Go.Proofs.YtdhdngoeaneanaaDoorW.PrintMore
set_option linter.unusedVariables false
set_option linter.unusedSimpArgs false
def l1 : List Int := [46, 43, 51, 45, 100]
def l2 : List Int := [97, 120, 10, 98, 10, 97, 120]
theorem par1 : ∃ k, X.address_Parse.f k l1 = some (46, 0, 0, [], 2, true, 4, 0) := ⟨40, by kernel_rfl⟩
theorem snd1 : ∃ k, X.address_sound.f k 46 0 0 [] 2 true = some true := ⟨40, by decide +kernel⟩
theorem lin2 : linesN l2 = 3 := by decide +kernel
theorem sea2 : searchA l2 1 [] 47 [120] = (3, 0) := by decide +kernel
theorem dec2 : dec 2 = [50] := by decide +kernel
theorem alive_parse (w : World) : Calls Tryd.prog 12 #[.slice (some ⟨w.heap.size, 0, none⟩) 5 5] (w.alloc (.cells #[.int .u8 46, .int .u8 43, .int .u8 51, .int .u8 45, .int .u8 100] 5 (5, 6))) fun e w' => ∃ A c, e = .returned (.tuple #[.agg #[.int .u8 46, .int .i64 0, .int .u8 0, .slice A 0 c, .int .i64 2, .bool true], .int .i64 4, .int .i64 0]) ∧ (Kd.int .u8).C w' A 0 [] ∧ Below w.heap.size w w' := by
  obtain ⟨k, hk⟩ := par1
  have h := X.address_Parse.calls k (some ⟨w.heap.size, 0, none⟩) 5 l1 _ _ _ _ _ _ _ _ (w.alloc (.cells #[.int .u8 46, .int .u8 43, .int .u8 51, .int .u8 45, .int .u8 100] 5 (5, 6))) (u8_C (xs := l1) (fr := (5, 6)) (blk_new w _) (by decide)) (by decide) hk
  refine h.mono ?_
  rintro e w' ⟨v, rfl, hr, hb⟩
  obtain ⟨A, c, rfl⟩ := Kd.R_slice hr
  exact ⟨A, c, rfl, (Kd.R_reads' hr).2.2, below_step (below_alloc (Below.refl _ _) _) hb⟩
theorem alive_spell (w : World) {A : Option Addr} {c : Nat} (hC : (Kd.int .u8).C w A 0 []) (htab : Tab w) : Calls Tryd.prog 15 #[.agg #[.int .u8 46, .int .i64 0, .int .u8 0, .slice A 0 c, .int .i64 2, .bool true]] w fun e w' => ∃ A c, e = .returned (.slice A 3 c) ∧ (Kd.int .u8).C w' A 3 [46, 43, 50] ∧ Below w.heap.size w w' := by
  obtain ⟨k, hk⟩ := snd1
  have h := spell_46 (num := 0) (name := 0) (text := []) (given := true) (add := 2) (c := c) hC (by decide) htab (by decide) (by decide) (fun W hW => X.address_sound.calls k 46 0 0 A c [] 2 true true W (Kd.C_below hC hW) (Nat.zero_le _) hk)
  rw [show headV 46 0 0 [] ++ tailV 46 2 = [46, 43, 50] from by unfold headV tailV; rw [dec2]; decide] at h
  refine h.mono ?_
  rintro e w' ⟨v, rfl, hr, hb⟩
  obtain ⟨A2, c2, rfl⟩ := Kd.R_slice hr
  exact ⟨A2, c2, rfl, (Kd.R_reads' hr).2.2, hb⟩
theorem nil_C (w : World) : (Kd.int .u8).C w none 0 [] := (Kd.R_reads' (Kd.R_nil (Kd.int .u8) 5 w 0 (fun _ => True))).2.2
theorem byte2 : byte l2 := fun x hx => by simp [l2] at hx; omega
theorem byte0 : byte [] := fun x hx => by cases hx
theorem byteX : byte [120] := fun x hx => by simp at hx; omega
theorem tail3 : tailF 3 3 0 = (3, 0) := by decide
theorem tail4 : tailF 3 3 1 = (0, 231) := by decide
theorem alive_find47 {w : World} {g : Nat} (hb : w.heap[g]? = some (.cells #[.int .u8 97, .int .u8 120, .int .u8 10, .int .u8 98, .int .u8 10, .int .u8 97, .int .u8 120] 5 (7, 8))) (M : Array Value) : Calls Tryd.prog 17 #[.slice (some ⟨g, 0, none⟩) 7 7, .int .i64 1, .agg M, .slice none 0 0, .agg #[.int .u8 47, .int .i64 0, .int .u8 0, .slice (some ⟨w.heap.size, 0, none⟩) 1 1, .int .i64 0, .bool true]] (w.alloc (.cells #[.int .u8 120] 5 (1, 2))) fun e w' => e = .returned (.tuple #[.int .i64 3, .int .i64 0]) ∧ Below w.heap.size w w' := by
  have h := find_47 (w := w.alloc (.cells #[.int .u8 120] 5 (1, 2))) (A := some ⟨g, 0, none⟩) (c := 7) (t := l2) (now := 1) (M := M) (Ah := none) (hunt := []) (ch := 0) (num := 0) (name := 0) (Ax := some ⟨w.heap.size, 0, none⟩) (x := [120]) (cx := 1) (add := 0) (u8_C (xs := l2) (fr := (7, 8)) (blk_alloc hb _) (by decide)) (by decide) byte2 (by decide) (by decide) (by rw [lin2]; decide) (nil_C _) byte0 (u8_C (xs := [120]) (fr := (1, 2)) (blk_new w _) (by decide)) byteX (by decide) (by decide) (by decide) (by decide)
  rw [sea2, lin2, if_pos (show (((3 : Int), (0 : Int)).2 = 0) from rfl), tail3] at h
  exact h.mono fun e w' ⟨h1, h2⟩ => ⟨h1, below_step (below_alloc (Below.refl _ _) _) h2⟩
theorem alive_find36 {w : World} {g : Nat} (hb : w.heap[g]? = some (.cells #[.int .u8 97, .int .u8 120, .int .u8 10, .int .u8 98, .int .u8 10, .int .u8 97, .int .u8 120] 5 (7, 8))) (M : Array Value) : Calls Tryd.prog 17 #[.slice (some ⟨g, 0, none⟩) 7 7, .int .i64 1, .agg M, .slice none 0 0, .agg #[.int .u8 36, .int .i64 0, .int .u8 0, .slice none 0 0, .int .i64 1, .bool true]] w fun e w' => e = .returned (.tuple #[.int .i64 0, .int .i64 231]) ∧ Below w.heap.size w w' := by
  have h := find_36 (w := w) (A := some ⟨g, 0, none⟩) (c := 7) (t := l2) (now := 1) (M := M) (Ah := none) (hunt := []) (ch := 0) (num := 0) (name := 0) (Ax := none) (x := []) (cx := 0) (add := 1) (u8_C (xs := l2) (fr := (7, 8)) hb (by decide)) (by decide) byte2 (by decide) (by decide) (by rw [lin2]; decide) (by decide) (by decide) (by decide) (by decide)
  rw [lin2, tail4] at h
  exact h
theorem str3 {w : World} {A : Option Addr} {c : Nat} (h : (Kd.int .u8).C w A 3 [46, 43, 50]) : (convert 22 9 (.slice A 3 c)).run Tryd.prog w = .ok (.string ⟨#[46, 43, 50]⟩) w := by
  have h2 := Kd.C_string (P := Tryd.prog) (c := c) Tryd.underlying22 Tryd.underlying5 Tryd.underlying9 h
  rw [show strOfNums [46, 43, 50] = ⟨#[46, 43, 50]⟩ from by decide] at h2
  exact h2
set_option maxHeartbeats 4000000 in
set_option maxRecDepth 100000 in
theorem alive_calls {w : World} (htab : Tab w) : Calls Tryd.prog 10 #[] w fun e w' => e = .returned (.bool true) ∧ Below w.heap.size w w' := by
  have kc := fun (w_ : World) (C_ : Array Value) (n_ c_ : Nat) => Lib.run_convert_bytes_const (P := Tryd.prog) w_ 22 5 C_ n_ c_ Tryd.underlying22 Tryd.underlying5
  have kc1 : ∀ (w_ : World) (o_ : Obj) (C_ : Array Value) (n_ c_ : Nat), (convert 22 22 (.slice (some ⟨w_.heap.size + 1, 0, none⟩) n_ c_)).run Tryd.prog ((w_.alloc o_).alloc (.cells C_ 5)) = .ok (.slice (some ⟨w_.heap.size + 1, 0, none⟩) n_ c_) ((w_.alloc o_).alloc (.cells C_ 5 (C_.size, C_.size + 1))) := fun w_ o_ C_ n_ c_ => by
    have h := kc (w_.alloc o_) C_ n_ c_
    rw [World.size_alloc] at h
    exact h
  have HP := Aside0.mk (alive_parse w)
  go_enter Tryd.func10, Tryd.ntmps10
  go_wp2_with (first
    | (go_at_call 12; (with_reducible refine HP.out.mono ?_); rintro e w1 ⟨A, c, rfl, hC, hx⟩; have H1 := Aside0.mk (And.intro hC hx); have BX := Aside0.mk (blk_new w1 (.cells #[.int .u8 46, .int .i64 0, .int .u8 0, .slice A 0 c, .int .i64 2, .bool true] 25)); have HW1 := Aside0.mk (below_alloc hx (.cells #[.int .u8 46, .int .i64 0, .int .u8 0, .slice A 0 c, .int .i64 2, .bool true] 25)); have BT := Aside0.mk (show ((w1.alloc (.cells #[.int .u8 46, .int .i64 0, .int .u8 0, .slice A 0 c, .int .i64 2, .bool true] 25)).alloc (.cells #[.int .u8 97, .int .u8 120, .int .u8 10, .int .u8 98, .int .u8 10, .int .u8 97, .int .u8 120] 5 (7, 8))).heap[w1.heap.size + 1]? = some (.cells #[.int .u8 97, .int .u8 120, .int .u8 10, .int .u8 98, .int .u8 10, .int .u8 97, .int .u8 120] 5 (7, 8)) from by have h := blk_new (w1.alloc (.cells #[.int .u8 46, .int .i64 0, .int .u8 0, .slice A 0 c, .int .i64 2, .bool true] 25)) (.cells #[.int .u8 97, .int .u8 120, .int .u8 10, .int .u8 98, .int .u8 10, .int .u8 97, .int .u8 120] 5 (7, 8)); rw [World.size_alloc] at h; exact h); clear hC hx)
    | (go_at_call 21; (with_reducible refine (none_calls (w := (w1.alloc (.cells #[.int .u8 46, .int .i64 0, .int .u8 0, .slice A 0 c, .int .i64 2, .bool true] 25)).alloc (.cells #[.int .u8 97, .int .u8 120, .int .u8 10, .int .u8 98, .int .u8 10, .int .u8 97, .int .u8 120] 5 (7, 8)))).mono ?_); rintro e w2 ⟨M1, rfl, hx⟩; have H2 := Aside0.mk (below_step (below_alloc HW1.out (.cells #[.int .u8 97, .int .u8 120, .int .u8 10, .int .u8 98, .int .u8 10, .int .u8 97, .int .u8 120] 5 (7, 8))) hx); have BX2 := Aside0.mk (blk_below (blk_alloc BX.out (.cells #[.int .u8 97, .int .u8 120, .int .u8 10, .int .u8 98, .int .u8 10, .int .u8 97, .int .u8 120] 5 (7, 8))) hx); have BT2 := Aside0.mk (blk_below BT.out hx); have HV2 := Aside0.mk (below_step (below_alloc (below_alloc (Below.refl w1.heap.size w1) (.cells #[.int .u8 46, .int .i64 0, .int .u8 0, .slice A 0 c, .int .i64 2, .bool true] 25)) (.cells #[.int .u8 97, .int .u8 120, .int .u8 10, .int .u8 98, .int .u8 10, .int .u8 97, .int .u8 120] 5 (7, 8))) hx); clear hx)
    | (go_at_call 17; (with_reducible refine (alive_find47 BT2.out M1).mono ?_); rintro e w3 ⟨rfl, hx⟩; have H3 := Aside0.mk (below_step H2.out hx); have BX3 := Aside0.mk (blk_below BX2.out hx); have HV3 := Aside0.mk (below_step HV2.out hx); clear hx)
    | (go_at_call 21; (with_reducible refine (none_calls (w := w3.alloc (.cells #[.int .u8 97, .int .u8 120, .int .u8 10, .int .u8 98, .int .u8 10, .int .u8 97, .int .u8 120] 5 (7, 8)))).mono ?_); rintro e w4 ⟨M2, rfl, hx⟩; have H4 := Aside0.mk (below_step (below_alloc H3.out (.cells #[.int .u8 97, .int .u8 120, .int .u8 10, .int .u8 98, .int .u8 10, .int .u8 97, .int .u8 120] 5 (7, 8))) hx); have BX4 := Aside0.mk (blk_below (blk_alloc BX3.out (.cells #[.int .u8 97, .int .u8 120, .int .u8 10, .int .u8 98, .int .u8 10, .int .u8 97, .int .u8 120] 5 (7, 8))) hx); have BT4 := Aside0.mk (blk_below (blk_new w3 (.cells #[.int .u8 97, .int .u8 120, .int .u8 10, .int .u8 98, .int .u8 10, .int .u8 97, .int .u8 120] 5 (7, 8))) hx); have HV4 := Aside0.mk (below_step (below_alloc HV3.out (.cells #[.int .u8 97, .int .u8 120, .int .u8 10, .int .u8 98, .int .u8 10, .int .u8 97, .int .u8 120] 5 (7, 8))) hx); clear hx)
    | (go_at_call 17; (with_reducible refine (alive_find36 BT4.out M2).mono ?_); rintro e w5 ⟨rfl, hx⟩; have H5 := Aside0.mk (below_step H4.out hx); have BX5 := Aside0.mk (blk_below BX4.out hx); have HV5 := Aside0.mk (below_step HV4.out hx); clear hx; have f0 := (blk_cell BX5.out 0).trans rfl; have f1 := (blk_cell BX5.out 1).trans rfl; have f2 := (blk_cell BX5.out 2).trans rfl; have f3 := (blk_cell BX5.out 3).trans rfl; have f4 := (blk_cell BX5.out 4).trans rfl; have f5 := (blk_cell BX5.out 5).trans rfl)
    | (go_at_call 15; (with_reducible refine (alive_spell w5 (Kd.C_below H1.out.1 HV5.out) (htab.below H5.out)).mono ?_); rintro e w6 ⟨A6, c6, rfl, hC, hx⟩; have H6 := Aside0.mk (below_step H5.out hx); have hcv := str3 (c := c6) hC; clear hx hC))
  exact bodyPost_ret (v := .bool true) (by simp [results, Tryd.results10, go_sem]) rfl ⟨rfl, H6.out⟩
end Go.Proofs.YtdhdngoeaneanaaDoor.PT
end
section
namespace Go.Proofs.YtdhdngoeaneanaaDoor.XO
open Go.RowKit Go.ChangeShapes Go.WideShapes Go.Deep Go.Proofs.YtdhdngoeaneanaaDoorW.PrintWords
set_option linter.unusedVariables false
set_option linter.unusedSimpArgs false
def kVec (n : Nat) : Kd (List Int) where
  sz := n
  E := []
  K := fun _ l cs => l.length = n ∧ cs = l.map (.int .i64)
  M := fun _ _ _ l cs => l.length = n ∧ cs = l.map (.int .i64)
  K_len := by rintro w x cs ⟨h1, rfl⟩; simp [h1]
  K_one := by
    rintro w x cs ⟨h1, rfl⟩ u hu
    obtain ⟨y, _, rfl⟩ := List.mem_map.1 hu
    rfl
  K_below := fun _ h => h
  K_of_M := fun h => h
  M_mono := fun _ h => h
  M_bound := fun h => h
  M_move := fun _ h => h
  M_lower := fun _ h => h
def unInt : Value → Int
  | .int _ k => k
  | _ => 0
theorem opens_vec {P : Program} {t e : TypeId} {n : Nat} (hu : P.underlying t = some (.array n e)) (he : P.underlying e = some (.int .i64)) (hc : P.cellsOf e = 1) (ht : P.cellsOf t = n) : Opens P t (kVec n) (fun l => ∀ x ∈ l, okI64 x) szOne := by
  intro H enc W fuel cs x h _
  obtain ⟨xs, m, rfl, rfl, hl, hxl, hf⟩ := DataW.trod_array hu h
  rw [ht] at hl
  have hk : ∀ (i : Nat) (hi : i < cs.length), ∃ k, cs[i] = .int .i64 k ∧ okI64 k := by
    intro i hi
    have h1 := hf i (by omega)
    rw [hc, Nat.mul_one, List.getElem?_eq_getElem (by omega)] at h1
    obtain ⟨k, h2, _, hwf⟩ := DataW.trod_int he h1
    refine ⟨k, ?_, wf_i64 hwf⟩
    have h3 : (cs.drop i).take 1 = [cs[i]] := by rw [List.drop_eq_getElem_cons hi]; rfl
    rw [h3] at h2
    simpa using h2
  refine ⟨cs.map unInt, ⟨by rw [List.length_map]; exact hl, ?_⟩, ?_, by simp [szOne, Rows.uptoBulk]⟩
  · apply List.ext_getElem
    · simp
    · intro i h1 h2
      obtain ⟨k, h3, _⟩ := hk i h1
      simp [h3, unInt]
  · intro y hy
    obtain ⟨v, hv, rfl⟩ := List.mem_map.1 hy
    obtain ⟨i, hi, rfl⟩ := List.getElem_of_mem hv
    obtain ⟨k, h3, h4⟩ := hk i hi
    rw [h3]
    exact h4
end Go.Proofs.YtdhdngoeaneanaaDoor.XO
end
section
namespace Go.Proofs.YtdhdngoeaneanaaDoor.PT
open Go.RowKit Go.Proofs.YtdhdngoeaneanaaDoorW.PrintWords Go.Proofs.YtdhdngoeaneanaaDoorW.PrintMore Go.Proofs.YtdhdngoeaneanaaDoor.XL
set_option linter.unusedVariables false
set_option linter.unusedSimpArgs false
def slotI (name : Int) : Option Nat := if 97 ≤ name ∧ name ≤ 122 then some (name - 97).toNat else if name = 96 ∨ name = 39 then some 26 else none
def getV (l : List Int) (name : Int) : Int × Int := match slotI name with
  | none => (0, 160)
  | some i => if l.getD i 0 < 0 then (0, 161) else (l.getD i 0, 0)
theorem slotI_lt {name : Int} {i : Nat} (h : slotI name = some i) : i < 27 := by
  unfold slotI at h
  split at h
  · injection h with h; omega
  · split at h
    · injection h with h; omega
    · cases h
theorem slot_calls {w : World} {g : Nat} {name : Int} (h0 : 0 ≤ name) (h1 : name ≤ 255) : Calls Tryd.prog 57 #[.pointer (some ⟨g, 0, none⟩), .int .u8 name] w fun e w' => e = .returned (.pointer ((slotI name).map (fun i => (⟨g, i, none⟩ : Addr)))) ∧ Below w.heap.size w w' := by
  by_cases ha : 97 ≤ name ∧ name ≤ 122
  · have hs : slotI name = some (name - 97).toNat := if_pos ha
    rw [hs]
    have q1 : (97 ≤ name) = True := eq_true ha.1
    have q2 : (name ≤ 122) = True := eq_true ha.2
    have q3 : (name - 97) % 256 = name - 97 := by omega
    have q4 : (0 ≤ name - 97) = True := eq_true (by omega)
    have q5 : (name - 97 < 26) = True := eq_true (by omega)
    clear ha h0 h1 hs
    go_enter Tryd.func57, Tryd.ntmps57
    go_wp2
    exact bodyPost_ret (v := .pointer (some ⟨g, (name - 97).toNat, none⟩)) (by simp [results, Tryd.results57, go_sem]) rfl ⟨rfl, Below.refl _ _⟩
  · by_cases hb : name = 96 ∨ name = 39
    · have hs : slotI name = some 26 := by unfold slotI; rw [if_neg ha, if_pos hb]
      rw [hs]
      have q1 : (97 ≤ name) = False := eq_false (by omega)
      rcases hb with rfl | rfl
      · clear ha h0 h1 hs q1
        go_enter Tryd.func57, Tryd.ntmps57
        go_wp2
        exact bodyPost_ret (v := .pointer (some ⟨g, 26, none⟩)) (by simp [results, Tryd.results57, go_sem]) rfl ⟨rfl, Below.refl _ _⟩
      · clear ha h0 h1 hs q1
        go_enter Tryd.func57, Tryd.ntmps57
        go_wp2
        exact bodyPost_ret (v := .pointer (some ⟨g, 26, none⟩)) (by simp [results, Tryd.results57, go_sem]) rfl ⟨rfl, Below.refl _ _⟩
    · have hs : slotI name = none := by unfold slotI; rw [if_neg ha, if_neg hb]
      rw [hs]
      have q3 : (name == 96) = false := beq_eq_false_iff_ne.2 (fun h => hb (.inl h))
      have q4 : (name == 39) = false := beq_eq_false_iff_ne.2 (fun h => hb (.inr h))
      by_cases hc : 97 ≤ name
      · have q1 : (97 ≤ name) = True := eq_true hc
        have q2 : (name ≤ 122) = False := eq_false (by omega)
        clear ha hb hc h0 h1 hs
        go_enter Tryd.func57, Tryd.ntmps57
        go_wp2
        exact bodyPost_ret (v := .pointer none) (by simp [results, Tryd.results57, go_sem]) rfl ⟨rfl, Below.refl _ _⟩
      · have q1 : (97 ≤ name) = False := eq_false hc
        clear ha hb hc h0 h1 hs
        go_enter Tryd.func57, Tryd.ntmps57
        go_wp2
        exact bodyPost_ret (v := .pointer none) (by simp [results, Tryd.results57, go_sem]) rfl ⟨rfl, Below.refl _ _⟩
theorem get_calls {w : World} {l : List Int} {name : Int} (hl : l.length = 27) (h0 : 0 ≤ name) (h1 : name ≤ 255) : Calls Tryd.prog 37 #[.agg (marks l), .int .u8 name] w fun e w' => e = .returned (.tuple #[.int .i64 (getV l name).1, .int .i64 (getV l name).2]) ∧ Below w.heap.size w w' := by
  have BX := Aside0.mk (blk_new w (.cells (marks l) 37))
  have HB := Aside0.mk (below_alloc (Below.refl w.heap.size w) (.cells (marks l) 37))
  have HSL := Aside0.mk (slot_calls (w := w.alloc (.cells (marks l) 37)) (g := w.heap.size) h0 h1)
  have hsz : (marks l).size = 27 := by rw [marks_size, hl]
  have hm : ∀ i, i < 27 → (marks l)[i]? = some (.int .i64 (l.getD i 0)) := fun i hi => by
    unfold marks
    rw [List.getD_eq_getElem?_getD]
    simp [show i < l.length from by omega]
  unfold getV
  cases hs : slotI name with
  | none =>
    rw [hs] at HSL
    clear hs
    generalize marks l = M at BX HB HSL hsz
    clear hm
    go_enter Tryd.func37, Tryd.ntmps37
    go_wp2_with (go_at_call 57; (with_reducible refine HSL.out.mono ?_); rintro e w1 ⟨rfl, hx⟩; have H1 := Aside0.mk (below_step HB.out hx); clear hx)
    exact bodyPost_ret (v := .tuple #[.int .i64 0, .int .i64 160]) (by simp [results, Tryd.results37, go_sem]) rfl ⟨rfl, H1.out⟩
  | some i =>
    have hi := slotI_lt hs
    rw [hs] at HSL
    have hmi := hm i hi
    clear hs hm
    simp only
    generalize l.getD i 0 = x at hmi ⊢
    generalize marks l = M at BX HB HSL hsz hmi
    by_cases hx0 : x < 0
    · rw [if_pos hx0]
      have q1 : (x < 0) = True := eq_true hx0
      clear hx0
      go_enter Tryd.func37, Tryd.ntmps37
      go_wp2_with (go_at_call 57; (with_reducible refine HSL.out.mono ?_); rintro e w1 ⟨rfl, hx⟩; have H1 := Aside0.mk (below_step HB.out hx); have y := (blk_cell (blk_below BX.out hx) i).trans hmi; clear hx)
      exact bodyPost_ret (v := .tuple #[.int .i64 0, .int .i64 161]) (by simp [results, Tryd.results37, go_sem]) rfl ⟨rfl, H1.out⟩
    · rw [if_neg hx0]
      have q1 : (x < 0) = False := eq_false hx0
      clear hx0
      go_enter Tryd.func37, Tryd.ntmps37
      go_wp2_with (go_at_call 57; (with_reducible refine HSL.out.mono ?_); rintro e w1 ⟨rfl, hx⟩; have H1 := Aside0.mk (below_step HB.out hx); have y := (blk_cell (blk_below BX.out hx) i).trans hmi; clear hx)
      exact bodyPost_ret (v := .tuple #[.int .i64 x, .int .i64 0]) (by simp [results, Tryd.results37, go_sem]) rfl ⟨rfl, H1.out⟩
end Go.Proofs.YtdhdngoeaneanaaDoor.PT
end
section
namespace Go.Proofs.YtdhdngoeaneanaaDoor.PT
open Go.RowKit Go.Proofs.YtdhdngoeaneanaaDoorW.PrintWords Go.Proofs.YtdhdngoeaneanaaDoorW.PrintMore
set_option linter.unusedVariables false
set_option linter.unusedSimpArgs false
def ofV (t : List Int) (p : Int) : Int × Int := if 0 ≤ p ∧ p ≤ (t.length : Int) then (X.cnt 10 (t.take p.toNat), 0) else (0, 2)
theorem cnt_le (c : Int) : ∀ l : List Int, X.cnt c l ≤ (l.length : Int)
  | [] => Int.le_refl _
  | x :: l => by have := cnt_le c l; unfold X.cnt; simp only [List.length_cons]; split <;> omega
theorem of_eq {t : List Int} (h : byte t) (hl : t.length ≤ 1048576) (p : Int) : X.lines_Of.f t p = some (ofV t p) := by
  unfold X.lines_Of.f X.lines_has.f ofV
  by_cases h0 : 0 ≤ p
  · rw [if_pos h0]
    by_cases h1 : p ≤ (t.length : Int)
    · have hb : byte (t.take p.toNat) := fun x hx => h x (List.mem_of_mem_take hx)
      have h2 := cnt_le 10 (t.take p.toNat)
      have h3 := cnt_nonneg 10 (t.take p.toNat)
      rw [List.length_take] at h2
      unfold X.bytes_Count.f
      simp [h0, h1, byte_u8s hb, show X.u8s [10] = true from rfl, show rd [10] 0 = 10 from rfl]
    · simp [h0, h1]
  · rw [if_neg h0]
    simp [h0]
end Go.Proofs.YtdhdngoeaneanaaDoor.PT
end
section
namespace Go.Proofs.YtdhdngoeaneanaaDoor.PT
open Go.RowKit Go.Proofs.YtdhdngoeaneanaaDoorW.PrintWords Go.Proofs.YtdhdngoeaneanaaDoorW.PrintMore
set_option linter.unusedVariables false
set_option linter.unusedSimpArgs false
theorem cnt_take (c : Int) : ∀ (l : List Int) (k : Nat), X.cnt c (l.take k) ≤ X.cnt c l
  | [], k => by rw [List.take_nil]; exact Int.le_refl _
  | x :: l, 0 => cnt_nonneg c (x :: l)
  | x :: l, k + 1 => by
    have h := cnt_take c l k
    rw [List.take_succ_cons]
    unfold X.cnt
    split <;> omega
theorem of_range (t : List Int) (p : Int) : (ofV t p).2 = 0 → 0 ≤ (ofV t p).1 ∧ (ofV t p).1 + 1 ≤ linesN t := by
  unfold ofV
  split
  · intro _
    have h1 := cnt_take 10 t p.toNat
    have h2 := cnt_nonneg 10 (t.take p.toNat)
    have h3 := split_cnt t
    unfold linesN
    simp only
    omega
  · intro h; cases h
def markV (t l : List Int) (name : Int) : Int × Int := if (getV l name).2 ≠ 0 then (0, (getV l name).2) else if (ofV t (getV l name).1).2 ≠ 0 then (0, 231) else ((ofV t (getV l name).1).1 + 1, 0)
set_option maxHeartbeats 16000000 in
set_option maxRecDepth 100000 in
theorem find_39 {w : World} {A Ah Ax : Option Addr} {c ch cx : Nat} {t hunt x : List Int} {now num name add : Int} {M : Array Value} (hr : Kd.C (Kd.int .u8) w A t.length t) (hc : t.length ≤ c) (ht : byte t) (hl : t.length ≤ 1048576) (hn1 : 1 ≤ now) (hn2 : now ≤ linesN t) {l : List Int} (hl7 : l.length = 27) (hM : M = marks l) (hnm : 0 ≤ name ∧ name ≤ 255) (ha1 : -9223372036854775808 ≤ add) (ha2 : add ≤ 9223372036854775807) (hm1 : -9223372036854775808 ≤ num) (hm2 : num ≤ 9223372036854775807) :
    Calls Tryd.prog 17 #[.slice A t.length c, .int .i64 now, .agg M, .slice Ah hunt.length ch, .agg #[.int .u8 39, .int .i64 num, .int .u8 name, .slice Ax x.length cx, .int .i64 add, .bool true]] w fun e w' => e = .returned (.tuple #[.int .i64 ((if (markV t l name).2 = 0 then tailF (markV t l name).1 (linesN t) add else (0, (markV t l name).2))).1, .int .i64 ((if (markV t l name).2 = 0 then tailF (markV t l name).1 (linesN t) add else (0, (markV t l name).2))).2]) ∧ Below w.heap.size w w' := by
  have BX := Aside0.mk (show ((w.alloc (.cells M 37)).alloc (.cells #[.int .u8 39, .int .i64 num, .int .u8 name, .slice Ax x.length cx, .int .i64 add, .bool true] 25)).heap[w.heap.size + 1]? = some (.cells #[.int .u8 39, .int .i64 num, .int .u8 name, .slice Ax x.length cx, .int .i64 add, .bool true] 25) from by have h := blk_new (w.alloc (.cells M 37)) (.cells #[.int .u8 39, .int .i64 num, .int .u8 name, .slice Ax x.length cx, .int .i64 add, .bool true] 25); rw [World.size_alloc] at h; exact h)
  have HB := Aside0.mk (below_alloc (below_alloc (Below.refl w.heap.size w) (.cells M 37)) (.cells #[.int .u8 39, .int .i64 num, .int .u8 name, .slice Ax x.length cx, .int .i64 add, .bool true] 25))
  have HCT := Aside0.mk (fun (W : World) (h : Below w.heap.size w W) => X.lines_Count.calls A c t (linesN t) W (Kd.C_below hr h) hc (count_eq ht hl))
  have kc := fun (w_ : World) (C_ : Array Value) (n_ c_ : Nat) => Lib.run_convert_bytes_const (P := Tryd.prog) w_ 22 5 C_ n_ c_ Tryd.underlying22 Tryd.underlying5
  have hn0 : 1 ≤ linesN t := by have h := split_cnt t; have h2 : 0 ≤ X.cnt 10 t := cnt_nonneg 10 t; unfold linesN; omega
  have hn9 : linesN t ≤ 1048577 := by have h := split_len t; unfold linesN; omega
  have HGT := Aside0.mk (fun (W : World) => show Calls Tryd.prog 37 #[.agg M, .int .u8 name] W (fun e w' => e = .returned (.tuple #[.int .i64 (getV l name).1, .int .i64 (getV l name).2]) ∧ Below W.heap.size W w') from by rw [hM]; exact get_calls hl7 hnm.1 hnm.2)
  have HOF := Aside0.mk (fun (W : World) (h : Below w.heap.size w W) => X.lines_Of.calls A c t (getV l name).1 (ofV t (getV l name).1).1 (ofV t (getV l name).1).2 W (Kd.C_below hr h) hc (of_eq ht hl _))
  have HSZ := Aside0.mk (show (Tryd.prog.info? 37).map (·.size) = some M.size from by rw [hM]; exact szmk' hl7)
  have MX := Aside0.mk (show ((w.alloc (.cells M 37)).alloc (.cells #[.int .u8 39, .int .i64 num, .int .u8 name, .slice Ax x.length cx, .int .i64 add, .bool true] 25)).heap[w.heap.size]? = some (.cells M 37 (0, 0)) from blk_alloc (blk_new w _) _)
  have hrg := of_range t (getV l name).1
  unfold markV
  generalize ofV t (getV l name).1 = r at HOF hrg ⊢
  generalize getV l name = gv at HGT HOF ⊢
  obtain ⟨rl, re⟩ := r
  obtain ⟨ga, ge⟩ := gv
  simp only at HGT HOF hrg ⊢
  clear hM hl7 hnm
  generalize linesN t = n at HCT hn1 hn2 hn0 hn9 hrg ⊢
  have f1 : (now < 1) = False := eq_false (by omega)
  have f2 : (n < now) = False := eq_false (by omega)
  by_cases hge : ge = 0
  · by_cases hre : re = 0
    · rw [show (if ge ≠ 0 then ((0 : Int), ge) else if re ≠ 0 then ((0 : Int), (231 : Int)) else (rl + 1, (0 : Int))) = (rl + 1, 0) from by rw [if_neg (fun h => h hge), if_neg (fun h => h hre)], if_pos rfl]
      subst hge
      subst hre
      have hr2 := hrg rfl
      clear hrg
      by_cases hk : n < add
      · skip
        have HTF := Aside0.mk (show tailF (rl + 1) n add = (0, 231) from by unfold tailF; rw [if_pos (by omega)])
        have g1 : ((rl + 1) < 0) = False := eq_false (by omega)
        have g3 : (n < (rl + 1)) = False := eq_false (by omega)
        have g6 : (0 ≤ (rl + 1)) = True := eq_true (by omega)
        have g5 : (n < add) = True := eq_true hk
        go_enter Tryd.func17, Tryd.ntmps17
        go_wp2_with (first
          | (go_at_call 18; (with_reducible refine (HCT.out _ HB.out).mono ?_); rintro e w1 ⟨rfl, hy⟩; have BK1 := Aside0.mk (blk_below BX.out hy); have MK1 := Aside0.mk (blk_below MX.out hy); have H1 := Aside0.mk (below_step HB.out hy); clear hy; have a0 := (blk_cell BK1.out 0).trans rfl; have b0 := fun o_ => (blk_cell (blk_alloc BK1.out o_) 0).trans rfl; have a1 := (blk_cell BK1.out 1).trans rfl; have b1 := fun o_ => (blk_cell (blk_alloc BK1.out o_) 1).trans rfl; have a2 := (blk_cell BK1.out 2).trans rfl; have b2 := fun o_ => (blk_cell (blk_alloc BK1.out o_) 2).trans rfl; have a3 := (blk_cell BK1.out 3).trans rfl; have b3 := fun o_ => (blk_cell (blk_alloc BK1.out o_) 3).trans rfl; have a4 := (blk_cell BK1.out 4).trans rfl; have b4 := fun o_ => (blk_cell (blk_alloc BK1.out o_) 4).trans rfl; have a5 := (blk_cell BK1.out 5).trans rfl; have b5 := fun o_ => (blk_cell (blk_alloc BK1.out o_) 5).trans rfl)
          | (go_at_call 36; (with_reducible refine (idx7 w1 39 3 rfl).mono ?_); rintro e w2 ⟨rfl, ⟨nd, rfl⟩⟩)
          | ((with_reducible refine gate_ (.load 37 (.tmp 7)) rfl ?_); refine wpList_load_row rfl 37 (.tmp 7) rfl w.heap.size rfl _ _ _ _ (blk_drewN (blk_alloc MK1.out _) _) Tryd.underlying37 rfl HSZ.out ?_)
          | (go_at_call 37; (with_reducible refine (HGT.out _).mono ?_); rintro e w3 ⟨rfl, hy⟩; have H3 := Aside0.mk (below_step (pw_below_drewN (below_alloc H1.out _) _) hy); have d4 := (blk_cell (blk_below (blk_drewN (blk_alloc BK1.out _) _) hy) 4).trans rfl; have BK3 := Aside0.mk (blk_below (blk_drewN (blk_alloc BK1.out _) _) hy); clear hy)
          | (go_at_call 38; (with_reducible refine (HOF.out _ H3.out).mono ?_); rintro e w4 ⟨rfl, hy⟩; have H4 := Aside0.mk (below_step H3.out hy); have e4 := (blk_cell (blk_below BK3.out hy) 4).trans rfl; clear hy))
        exact bodyPost_ret (v := .tuple #[.int .i64 0, .int .i64 231]) (by simp [results, Tryd.results17, go_sem]) rfl ⟨by rw [HTF.out], H4.out⟩
      by_cases hs1 : (rl + 1) + add < 0
      · skip
        have HTF := Aside0.mk (show tailF (rl + 1) n add = (0, 231) from by unfold tailF; rw [if_neg (by omega), if_pos (.inl hs1)])
        have g1 : ((rl + 1) < 0) = False := eq_false (by omega)
        have g3 : (n < (rl + 1)) = False := eq_false (by omega)
        have g6 : (0 ≤ (rl + 1)) = True := eq_true (by omega)
        have g5 : (n < add) = False := eq_false hk
        have g7 : ((rl + 1) + add < 0) = True := eq_true hs1
        go_enter Tryd.func17, Tryd.ntmps17
        go_wp2_with (first
          | (go_at_call 18; (with_reducible refine (HCT.out _ HB.out).mono ?_); rintro e w1 ⟨rfl, hy⟩; have BK1 := Aside0.mk (blk_below BX.out hy); have MK1 := Aside0.mk (blk_below MX.out hy); have H1 := Aside0.mk (below_step HB.out hy); clear hy; have a0 := (blk_cell BK1.out 0).trans rfl; have b0 := fun o_ => (blk_cell (blk_alloc BK1.out o_) 0).trans rfl; have a1 := (blk_cell BK1.out 1).trans rfl; have b1 := fun o_ => (blk_cell (blk_alloc BK1.out o_) 1).trans rfl; have a2 := (blk_cell BK1.out 2).trans rfl; have b2 := fun o_ => (blk_cell (blk_alloc BK1.out o_) 2).trans rfl; have a3 := (blk_cell BK1.out 3).trans rfl; have b3 := fun o_ => (blk_cell (blk_alloc BK1.out o_) 3).trans rfl; have a4 := (blk_cell BK1.out 4).trans rfl; have b4 := fun o_ => (blk_cell (blk_alloc BK1.out o_) 4).trans rfl; have a5 := (blk_cell BK1.out 5).trans rfl; have b5 := fun o_ => (blk_cell (blk_alloc BK1.out o_) 5).trans rfl)
          | (go_at_call 36; (with_reducible refine (idx7 w1 39 3 rfl).mono ?_); rintro e w2 ⟨rfl, ⟨nd, rfl⟩⟩)
          | ((with_reducible refine gate_ (.load 37 (.tmp 7)) rfl ?_); refine wpList_load_row rfl 37 (.tmp 7) rfl w.heap.size rfl _ _ _ _ (blk_drewN (blk_alloc MK1.out _) _) Tryd.underlying37 rfl HSZ.out ?_)
          | (go_at_call 37; (with_reducible refine (HGT.out _).mono ?_); rintro e w3 ⟨rfl, hy⟩; have H3 := Aside0.mk (below_step (pw_below_drewN (below_alloc H1.out _) _) hy); have d4 := (blk_cell (blk_below (blk_drewN (blk_alloc BK1.out _) _) hy) 4).trans rfl; have BK3 := Aside0.mk (blk_below (blk_drewN (blk_alloc BK1.out _) _) hy); clear hy)
          | (go_at_call 38; (with_reducible refine (HOF.out _ H3.out).mono ?_); rintro e w4 ⟨rfl, hy⟩; have H4 := Aside0.mk (below_step H3.out hy); have e4 := (blk_cell (blk_below BK3.out hy) 4).trans rfl; clear hy))
        exact bodyPost_ret (v := .tuple #[.int .i64 0, .int .i64 231]) (by simp [results, Tryd.results17, go_sem]) rfl ⟨by rw [HTF.out], H4.out⟩
      by_cases hs2 : n < (rl + 1) + add
      · skip
        have HTF := Aside0.mk (show tailF (rl + 1) n add = (0, 231) from by unfold tailF; rw [if_neg (by omega), if_pos (.inr hs2)])
        have g1 : ((rl + 1) < 0) = False := eq_false (by omega)
        have g3 : (n < (rl + 1)) = False := eq_false (by omega)
        have g6 : (0 ≤ (rl + 1)) = True := eq_true (by omega)
        have g5 : (n < add) = False := eq_false hk
        have g7 : ((rl + 1) + add < 0) = False := eq_false hs1
        have g8 : (n < (rl + 1) + add) = True := eq_true hs2
        go_enter Tryd.func17, Tryd.ntmps17
        go_wp2_with (first
          | (go_at_call 18; (with_reducible refine (HCT.out _ HB.out).mono ?_); rintro e w1 ⟨rfl, hy⟩; have BK1 := Aside0.mk (blk_below BX.out hy); have MK1 := Aside0.mk (blk_below MX.out hy); have H1 := Aside0.mk (below_step HB.out hy); clear hy; have a0 := (blk_cell BK1.out 0).trans rfl; have b0 := fun o_ => (blk_cell (blk_alloc BK1.out o_) 0).trans rfl; have a1 := (blk_cell BK1.out 1).trans rfl; have b1 := fun o_ => (blk_cell (blk_alloc BK1.out o_) 1).trans rfl; have a2 := (blk_cell BK1.out 2).trans rfl; have b2 := fun o_ => (blk_cell (blk_alloc BK1.out o_) 2).trans rfl; have a3 := (blk_cell BK1.out 3).trans rfl; have b3 := fun o_ => (blk_cell (blk_alloc BK1.out o_) 3).trans rfl; have a4 := (blk_cell BK1.out 4).trans rfl; have b4 := fun o_ => (blk_cell (blk_alloc BK1.out o_) 4).trans rfl; have a5 := (blk_cell BK1.out 5).trans rfl; have b5 := fun o_ => (blk_cell (blk_alloc BK1.out o_) 5).trans rfl)
          | (go_at_call 36; (with_reducible refine (idx7 w1 39 3 rfl).mono ?_); rintro e w2 ⟨rfl, ⟨nd, rfl⟩⟩)
          | ((with_reducible refine gate_ (.load 37 (.tmp 7)) rfl ?_); refine wpList_load_row rfl 37 (.tmp 7) rfl w.heap.size rfl _ _ _ _ (blk_drewN (blk_alloc MK1.out _) _) Tryd.underlying37 rfl HSZ.out ?_)
          | (go_at_call 37; (with_reducible refine (HGT.out _).mono ?_); rintro e w3 ⟨rfl, hy⟩; have H3 := Aside0.mk (below_step (pw_below_drewN (below_alloc H1.out _) _) hy); have d4 := (blk_cell (blk_below (blk_drewN (blk_alloc BK1.out _) _) hy) 4).trans rfl; have BK3 := Aside0.mk (blk_below (blk_drewN (blk_alloc BK1.out _) _) hy); clear hy)
          | (go_at_call 38; (with_reducible refine (HOF.out _ H3.out).mono ?_); rintro e w4 ⟨rfl, hy⟩; have H4 := Aside0.mk (below_step H3.out hy); have e4 := (blk_cell (blk_below BK3.out hy) 4).trans rfl; clear hy))
        exact bodyPost_ret (v := .tuple #[.int .i64 0, .int .i64 231]) (by simp [results, Tryd.results17, go_sem]) rfl ⟨by rw [HTF.out], H4.out⟩
      have HTF := Aside0.mk (show tailF (rl + 1) n add = (((rl + 1) + add), 0) from by unfold tailF; rw [if_neg (by omega), if_neg (by omega)])
      have g1 : ((rl + 1) < 0) = False := eq_false (by omega)
      have g3 : (n < (rl + 1)) = False := eq_false (by omega)
      have g6 : (0 ≤ (rl + 1)) = True := eq_true (by omega)
      have g5 : (n < add) = False := eq_false hk
      have g7 : ((rl + 1) + add < 0) = False := eq_false hs1
      have g8 : (n < (rl + 1) + add) = False := eq_false hs2
      go_enter Tryd.func17, Tryd.ntmps17
      go_wp2_with (first
        | (go_at_call 18; (with_reducible refine (HCT.out _ HB.out).mono ?_); rintro e w1 ⟨rfl, hy⟩; have BK1 := Aside0.mk (blk_below BX.out hy); have MK1 := Aside0.mk (blk_below MX.out hy); have H1 := Aside0.mk (below_step HB.out hy); clear hy; have a0 := (blk_cell BK1.out 0).trans rfl; have b0 := fun o_ => (blk_cell (blk_alloc BK1.out o_) 0).trans rfl; have a1 := (blk_cell BK1.out 1).trans rfl; have b1 := fun o_ => (blk_cell (blk_alloc BK1.out o_) 1).trans rfl; have a2 := (blk_cell BK1.out 2).trans rfl; have b2 := fun o_ => (blk_cell (blk_alloc BK1.out o_) 2).trans rfl; have a3 := (blk_cell BK1.out 3).trans rfl; have b3 := fun o_ => (blk_cell (blk_alloc BK1.out o_) 3).trans rfl; have a4 := (blk_cell BK1.out 4).trans rfl; have b4 := fun o_ => (blk_cell (blk_alloc BK1.out o_) 4).trans rfl; have a5 := (blk_cell BK1.out 5).trans rfl; have b5 := fun o_ => (blk_cell (blk_alloc BK1.out o_) 5).trans rfl)
        | (go_at_call 36; (with_reducible refine (idx7 w1 39 3 rfl).mono ?_); rintro e w2 ⟨rfl, ⟨nd, rfl⟩⟩)
        | ((with_reducible refine gate_ (.load 37 (.tmp 7)) rfl ?_); refine wpList_load_row rfl 37 (.tmp 7) rfl w.heap.size rfl _ _ _ _ (blk_drewN (blk_alloc MK1.out _) _) Tryd.underlying37 rfl HSZ.out ?_)
        | (go_at_call 37; (with_reducible refine (HGT.out _).mono ?_); rintro e w3 ⟨rfl, hy⟩; have H3 := Aside0.mk (below_step (pw_below_drewN (below_alloc H1.out _) _) hy); have d4 := (blk_cell (blk_below (blk_drewN (blk_alloc BK1.out _) _) hy) 4).trans rfl; have BK3 := Aside0.mk (blk_below (blk_drewN (blk_alloc BK1.out _) _) hy); clear hy)
        | (go_at_call 38; (with_reducible refine (HOF.out _ H3.out).mono ?_); rintro e w4 ⟨rfl, hy⟩; have H4 := Aside0.mk (below_step H3.out hy); have e4 := (blk_cell (blk_below BK3.out hy) 4).trans rfl; clear hy))
      exact bodyPost_ret (v := .tuple #[.int .i64 ((rl + 1) + add), .int .i64 0]) (by simp [results, Tryd.results17, go_sem]) rfl ⟨by rw [HTF.out], H4.out⟩
    · rw [show (if ge ≠ 0 then ((0 : Int), ge) else if re ≠ 0 then ((0 : Int), (231 : Int)) else (rl + 1, (0 : Int))) = (0, 231) from by rw [if_neg (fun h => h hge), if_pos hre], if_neg (show ¬ ((231 : Int) = 0) by decide)]
      subst hge
      have f4 : (re != 0) = true := bne_iff_ne.2 hre
      clear hre hrg
      go_enter Tryd.func17, Tryd.ntmps17
      go_wp2_with (first
        | (go_at_call 18; (with_reducible refine (HCT.out _ HB.out).mono ?_); rintro e w1 ⟨rfl, hy⟩; have BK1 := Aside0.mk (blk_below BX.out hy); have MK1 := Aside0.mk (blk_below MX.out hy); have H1 := Aside0.mk (below_step HB.out hy); clear hy; have a0 := (blk_cell BK1.out 0).trans rfl; have b0 := fun o_ => (blk_cell (blk_alloc BK1.out o_) 0).trans rfl; have a1 := (blk_cell BK1.out 1).trans rfl; have b1 := fun o_ => (blk_cell (blk_alloc BK1.out o_) 1).trans rfl; have a2 := (blk_cell BK1.out 2).trans rfl; have b2 := fun o_ => (blk_cell (blk_alloc BK1.out o_) 2).trans rfl; have a3 := (blk_cell BK1.out 3).trans rfl; have b3 := fun o_ => (blk_cell (blk_alloc BK1.out o_) 3).trans rfl; have a4 := (blk_cell BK1.out 4).trans rfl; have b4 := fun o_ => (blk_cell (blk_alloc BK1.out o_) 4).trans rfl; have a5 := (blk_cell BK1.out 5).trans rfl; have b5 := fun o_ => (blk_cell (blk_alloc BK1.out o_) 5).trans rfl)
        | (go_at_call 36; (with_reducible refine (idx7 w1 39 3 rfl).mono ?_); rintro e w2 ⟨rfl, ⟨nd, rfl⟩⟩)
        | ((with_reducible refine gate_ (.load 37 (.tmp 7)) rfl ?_); refine wpList_load_row rfl 37 (.tmp 7) rfl w.heap.size rfl _ _ _ _ (blk_drewN (blk_alloc MK1.out _) _) Tryd.underlying37 rfl HSZ.out ?_)
        | (go_at_call 37; (with_reducible refine (HGT.out _).mono ?_); rintro e w3 ⟨rfl, hy⟩; have H3 := Aside0.mk (below_step (pw_below_drewN (below_alloc H1.out _) _) hy); have d4 := (blk_cell (blk_below (blk_drewN (blk_alloc BK1.out _) _) hy) 4).trans rfl; have BK3 := Aside0.mk (blk_below (blk_drewN (blk_alloc BK1.out _) _) hy); clear hy)
        | (go_at_call 38; (with_reducible refine (HOF.out _ H3.out).mono ?_); rintro e w4 ⟨rfl, hy⟩; have H4 := Aside0.mk (below_step H3.out hy); have e4 := (blk_cell (blk_below BK3.out hy) 4).trans rfl; clear hy))
      exact bodyPost_ret (v := .tuple #[.int .i64 0, .int .i64 231]) (by simp [results, Tryd.results17, go_sem]) rfl ⟨rfl, H4.out⟩
  · rw [show (if ge ≠ 0 then ((0 : Int), ge) else if re ≠ 0 then ((0 : Int), (231 : Int)) else (rl + 1, (0 : Int))) = (0, ge) from by rw [if_pos hge], if_neg hge]
    have f3 : (ge != 0) = true := bne_iff_ne.2 hge
    clear hge hrg
    go_enter Tryd.func17, Tryd.ntmps17
    go_wp2_with (first
      | (go_at_call 18; (with_reducible refine (HCT.out _ HB.out).mono ?_); rintro e w1 ⟨rfl, hy⟩; have BK1 := Aside0.mk (blk_below BX.out hy); have MK1 := Aside0.mk (blk_below MX.out hy); have H1 := Aside0.mk (below_step HB.out hy); clear hy; have a0 := (blk_cell BK1.out 0).trans rfl; have b0 := fun o_ => (blk_cell (blk_alloc BK1.out o_) 0).trans rfl; have a1 := (blk_cell BK1.out 1).trans rfl; have b1 := fun o_ => (blk_cell (blk_alloc BK1.out o_) 1).trans rfl; have a2 := (blk_cell BK1.out 2).trans rfl; have b2 := fun o_ => (blk_cell (blk_alloc BK1.out o_) 2).trans rfl; have a3 := (blk_cell BK1.out 3).trans rfl; have b3 := fun o_ => (blk_cell (blk_alloc BK1.out o_) 3).trans rfl; have a4 := (blk_cell BK1.out 4).trans rfl; have b4 := fun o_ => (blk_cell (blk_alloc BK1.out o_) 4).trans rfl; have a5 := (blk_cell BK1.out 5).trans rfl; have b5 := fun o_ => (blk_cell (blk_alloc BK1.out o_) 5).trans rfl)
      | (go_at_call 36; (with_reducible refine (idx7 w1 39 3 rfl).mono ?_); rintro e w2 ⟨rfl, ⟨nd, rfl⟩⟩)
      | ((with_reducible refine gate_ (.load 37 (.tmp 7)) rfl ?_); refine wpList_load_row rfl 37 (.tmp 7) rfl w.heap.size rfl _ _ _ _ (blk_drewN (blk_alloc MK1.out _) _) Tryd.underlying37 rfl HSZ.out ?_)
      | (go_at_call 37; (with_reducible refine (HGT.out _).mono ?_); rintro e w3 ⟨rfl, hy⟩; have H3 := Aside0.mk (below_step (pw_below_drewN (below_alloc H1.out _) _) hy); have d4 := (blk_cell (blk_below (blk_drewN (blk_alloc BK1.out _) _) hy) 4).trans rfl; have BK3 := Aside0.mk (blk_below (blk_drewN (blk_alloc BK1.out _) _) hy); clear hy)
      | (go_at_call 38; (with_reducible refine (HOF.out _ H3.out).mono ?_); rintro e w4 ⟨rfl, hy⟩; have H4 := Aside0.mk (below_step H3.out hy); have e4 := (blk_cell (blk_below BK3.out hy) 4).trans rfl; clear hy))
    exact bodyPost_ret (v := .tuple #[.int .i64 0, .int .i64 ge]) (by simp [results, Tryd.results17, go_sem]) rfl ⟨rfl, H3.out⟩
end Go.Proofs.YtdhdngoeaneanaaDoor.PT
end
section
namespace Go.Proofs.YtdhdngoeaneanaaDoor.PT
open Go.RowKit Go.Proofs.YtdhdngoeaneanaaDoorW.PrintWords Go.Proofs.YtdhdngoeaneanaaDoorW.PrintMore
set_option linter.unusedVariables false
set_option linter.unusedSimpArgs false
/-- The line that an address's base names. -/
def baseF (t : List Int) (now : Int) (l hunt : List Int) (base num name : Int) (x : List Int) : Int × Int :=
  if base = 110 then (num, 0) else if base = 36 then (linesN t, 0) else if base = 46 ∨ base = 0 then (now, 0) else if base = 39 then markV t l name else if base = 47 ∨ base = 63 then searchA t now hunt base x else (0, 2)
/-- The line that an address names. -/
def findA (t : List Int) (now : Int) (l hunt : List Int) (base num name : Int) (x : List Int) (add : Int) (given : Bool) : Int × Int :=
  if now < 1 ∨ now > linesN t then (0, 2) else if given = false then (now, 0) else if (baseF t now l hunt base num name x).2 = 0 then tailF (baseF t now l hunt base num name x).1 (linesN t) add else (0, (baseF t now l hunt base num name x).2)
theorem findA_calls {w : World} {A Ah Ax : Option Addr} {c ch cx : Nat} {t hunt x l : List Int} {now base num name add : Int} {given : Bool} {M : Array Value} (hr : Kd.C (Kd.int .u8) w A t.length t) (hc : t.length ≤ c) (ht : byte t) (hl : t.length ≤ 1048576) (hh : Kd.C (Kd.int .u8) w Ah hunt.length hunt) (bh : byte hunt) (hx : Kd.C (Kd.int .u8) w Ax x.length x) (bx : byte x) (hl7 : l.length = 27) (hM : M = marks l) (hb : 0 ≤ base ∧ base ≤ 255) (hnm : 0 ≤ name ∧ name ≤ 255) (ha1 : -9223372036854775808 ≤ add) (ha2 : add ≤ 9223372036854775807) (hm1 : -9223372036854775808 ≤ num) (hm2 : num ≤ 9223372036854775807) :
    Calls Tryd.prog 17 #[.slice A t.length c, .int .i64 now, .agg M, .slice Ah hunt.length ch, .agg #[.int .u8 base, .int .i64 num, .int .u8 name, .slice Ax x.length cx, .int .i64 add, .bool given]] w fun e w' => e = .returned (.tuple #[.int .i64 (findA t now l hunt base num name x add given).1, .int .i64 (findA t now l hunt base num name x add given).2]) ∧ Below w.heap.size w w' := by
  by_cases hn : now < 1 ∨ now > linesN t
  · rw [show findA t now l hunt base num name x add given = (0, 2) from if_pos hn]
    exact find_far hr hc ht hl hn ha1 ha2 hm1 hm2
  · have hn1 : 1 ≤ now := by omega
    have hn2 : now ≤ linesN t := by omega
    cases given with
    | false =>
      rw [show findA t now l hunt base num name x add false = (now, 0) from by unfold findA; rw [if_neg hn, if_pos rfl]]
      exact find_none_given hr hc ht hl hn1 hn2 ha1 ha2 hm1 hm2
    | true =>
      have e : findA t now l hunt base num name x add true = if (baseF t now l hunt base num name x).2 = 0 then tailF (baseF t now l hunt base num name x).1 (linesN t) add else (0, (baseF t now l hunt base num name x).2) := by unfold findA; rw [if_neg hn, if_neg (show ¬ (true = false) by decide)]
      rw [e]
      clear e hn
      by_cases h110 : base = 110
      · subst h110; rw [show baseF t now l hunt 110 num name x = (num, 0) from by simp [baseF], if_pos rfl]; exact find_110 hr hc ht hl hn1 hn2 ha1 ha2 hm1 hm2
      · by_cases h36 : base = 36
        · subst h36; rw [show baseF t now l hunt 36 num name x = (linesN t, 0) from by simp [baseF], if_pos rfl]; exact find_36 hr hc ht hl hn1 hn2 ha1 ha2 hm1 hm2
        · by_cases h46 : base = 46
          · subst h46; rw [show baseF t now l hunt 46 num name x = (now, 0) from by simp [baseF], if_pos rfl]; exact find_46 hr hc ht hl hn1 hn2 ha1 ha2 hm1 hm2
          · by_cases h0 : base = 0
            · subst h0; rw [show baseF t now l hunt 0 num name x = (now, 0) from by simp [baseF], if_pos rfl]; exact find_0 hr hc ht hl hn1 hn2 ha1 ha2 hm1 hm2
            · by_cases h39 : base = 39
              · subst h39; rw [show baseF t now l hunt 39 num name x = markV t l name from by simp [baseF]]; exact find_39 hr hc ht hl hn1 hn2 hl7 hM hnm ha1 ha2 hm1 hm2
              · by_cases h47 : base = 47
                · subst h47; rw [show baseF t now l hunt 47 num name x = searchA t now hunt 47 x from by simp [baseF]]; exact find_47 hr hc ht hl hn1 hn2 hh bh hx bx ha1 ha2 hm1 hm2
                · by_cases h63 : base = 63
                  · subst h63; rw [show baseF t now l hunt 63 num name x = searchA t now hunt 63 x from by simp [baseF]]; exact find_63 hr hc ht hl hn1 hn2 hh bh hx bx ha1 ha2 hm1 hm2
                  · rw [show baseF t now l hunt base num name x = (0, 2) from by unfold baseF; rw [if_neg h110, if_neg h36, if_neg (by omega), if_neg h39, if_neg (by omega)], if_neg (by decide)]
                    exact find_strange hr hc ht hl hn1 hn2 hb.1 hb.2 (by simp [seven]; omega) ha1 ha2 hm1 hm2
end Go.Proofs.YtdhdngoeaneanaaDoor.PT
end
section
namespace Go.Proofs.YtdhdngoeaneanaaDoor.XO
open Go.RowKit Go.ChangeShapes Go.WideShapes Go.Deep Go.Proofs.YtdhdngoeaneanaaDoorW.PrintWords Go.Proofs.YtdhdngoeaneanaaDoor.X
set_option linter.unusedVariables false
set_option linter.unusedSimpArgs false
structure SJ where
  f0 : List Int
  f1 : Int
  f2 : List Int × Int
  f3 : List Int
  f4 : S25
def kM : Kd (List Int × Int) := Kd.pair (kVec 26) (Kd.int .i64)
def okM (x : List Int × Int) : Prop := (∀ y ∈ x.1, okI64 y) ∧ okI64 x.2
set_option maxRecDepth 100000 in
theorem opensM : Opens Tryd.prog 37 kM okM (fun x => (szOne x.1 + szOne x.2) + 1) :=
  opens_struct Tryd.underlying37 (by kernel_rfl) (of_cons rfl (by kernel_rfl) (opens_vec Tryd.underlying35 Tryd.underlying3 (by kernel_rfl) (by kernel_rfl)) (of_last rfl (by kernel_rfl) (opens_i64 Tryd.underlying3)))
def kJ : Kd SJ := Kd.iso (Kd.pair (Kd.slice 5 (Kd.int .u8)) (Kd.pair (Kd.int .i64) (Kd.pair kM (Kd.pair (Kd.slice 5 (Kd.int .u8)) k25)))) (fun x : SJ => (x.f0, x.f1, x.f2, x.f3, x.f4))
def okJ (x : SJ) : Prop := (okSl 1 okU8) x.f0 ∧ okI64 x.f1 ∧ okM x.f2 ∧ (okSl 1 okU8) x.f3 ∧ okS25 x.f4
def szJ (x : SJ) : Nat := ((szSl szOne) x.f0 + (szOne x.f1 + (((szOne x.f2.1 + szOne x.f2.2) + 1) + ((szSl szOne) x.f3 + szS25 x.f4)))) + 1
theorem opensJ : Opens Tryd.prog 39 kJ okJ szJ := by
  have h := opens_iso (f := fun x : SJ => (x.f0, x.f1, x.f2, x.f3, x.f4)) (fun a => ⟨a.1, a.2.1, a.2.2.1, a.2.2.2.1, a.2.2.2.2⟩) (fun _ => rfl) (opens_struct Tryd.underlying39 (by kernel_rfl) (of_cons rfl (by kernel_rfl) (opens_sl (B := 1) Tryd.underlying22 (opens_u8 Tryd.underlying5) (by kernel_rfl) (by kernel_rfl)) (of_cons rfl (by kernel_rfl) (opens_i64 Tryd.underlying3) (of_cons rfl (by kernel_rfl) opensM (of_cons rfl (by kernel_rfl) (opens_sl (B := 1) Tryd.underlying22 (opens_u8 Tryd.underlying5) (by kernel_rfl) (by kernel_rfl)) (of_last rfl (by kernel_rfl) opens25))))))
  exact h
/-- A job's marks, as one list. -/
def SJ.l (x : SJ) : List Int := x.f2.1 ++ [x.f2.2]
/-- An address as cells. -/
def adrL (x : S25) (A4 : Option Addr) (c4 : Nat) : List Value := [.int .u8 x.f0, .int .i64 x.f1, .int .u8 x.f2, .slice A4 x.f3.length c4, .int .i64 x.f4, .bool x.f5]
/-- A job as cells. -/
def jobL (x : SJ) (A0 : Option Addr) (c0 : Nat) (A3 : Option Addr) (c3 : Nat) (A4 : Option Addr) (c4 : Nat) : List Value :=
  [.slice A0 x.f0.length c0, .int .i64 x.f1] ++ (x.l.map (.int .i64) ++ (.slice A3 x.f3.length c3 :: adrL x.f4 A4 c4))
theorem kJ_open {w : World} {x : SJ} {cs : List Value} (h : kJ.K w x cs) : ∃ A0 c0 A3 c3 A4 c4, cs = jobL x A0 c0 A3 c3 A4 c4 ∧ x.l.length = 27 ∧ x.f0.length ≤ c0 ∧ (Kd.int .u8).C w A0 x.f0.length x.f0 ∧ x.f3.length ≤ c3 ∧ (Kd.int .u8).C w A3 x.f3.length x.f3 ∧ x.f4.f3.length ≤ c4 ∧ (Kd.int .u8).C w A4 x.f4.f3.length x.f4.f3 := by
  obtain ⟨_, _, rfl, ⟨A0, c0, rfl, l0, g0⟩, ⟨_, _, rfl, rfl, ⟨_, _, rfl, ⟨_, _, rfl, ⟨lm, rfl⟩, rfl⟩, ⟨_, _, rfl, ⟨A3, c3, rfl, l3, g3⟩, hA⟩⟩⟩⟩ := h
  obtain ⟨A4, c4, rfl, l4, g4⟩ := k25_open hA
  refine ⟨A0, c0, A3, c3, A4, c4, ?_, ?_, l0, g0, l3, g3, l4, g4⟩
  · simp [jobL, adrL, SJ.l]
  · simp only [SJ.l, List.length_append, List.length_singleton]
    have h1 : x.f2.1.length = 26 := lm
    omega
theorem jobL_low {x : SJ} {A0 A3 A4 : Option Addr} {c0 c3 c4 : Nat} : (jobL x A0 c0 A3 c3 A4 c4)[0]? = some (.slice A0 x.f0.length c0) ∧ (jobL x A0 c0 A3 c3 A4 c4)[1]? = some (.int .i64 x.f1) := ⟨rfl, rfl⟩
theorem jobL_marks {x : SJ} {A0 A3 A4 : Option Addr} {c0 c3 c4 : Nat} (h : x.l.length = 27) : ((jobL x A0 c0 A3 c3 A4 c4).drop 2).take 27 = x.l.map (.int .i64) := by
  show (x.l.map (Value.int .i64) ++ (.slice A3 x.f3.length c3 :: adrL x.f4 A4 c4)).take 27 = _
  rw [List.take_append_of_le_length (Nat.le_of_eq (by rw [List.length_map, h])), List.take_of_length_le (Nat.le_of_eq (by rw [List.length_map, h]))]
theorem jobL_high {x : SJ} {A0 A3 A4 : Option Addr} {c0 c3 c4 : Nat} (h : x.l.length = 27) : (jobL x A0 c0 A3 c3 A4 c4).drop 29 = .slice A3 x.f3.length c3 :: adrL x.f4 A4 c4 := by
  show (x.l.map (Value.int .i64) ++ (.slice A3 x.f3.length c3 :: adrL x.f4 A4 c4)).drop 27 = _
  rw [List.drop_append_of_le_length (Nat.le_of_eq (by rw [List.length_map, h])), List.drop_of_length_le (by rw [List.length_map, h]; omega), List.nil_append]
theorem jobL_at {x : SJ} {A0 A3 A4 : Option Addr} {c0 c3 c4 : Nat} (h : x.l.length = 27) (i : Nat) : (jobL x A0 c0 A3 c3 A4 c4)[29 + i]? = (.slice A3 x.f3.length c3 :: adrL x.f4 A4 c4)[i]? := by
  rw [← jobL_high (c0 := c0) (A0 := A0) h, List.getElem?_drop]
end Go.Proofs.YtdhdngoeaneanaaDoor.XO
end
section
namespace Go.Proofs.YtdhdngoeaneanaaDoor.PT
open Go.RowKit Go.Proofs.YtdhdngoeaneanaaDoorW.PrintWords Go.Proofs.YtdhdngoeaneanaaDoorW.PrintMore
set_option linter.unusedVariables false
set_option linter.unusedSimpArgs false
theorem split_end {cur : List Int} (h : ∀ x ∈ cur, x ≠ 10) : X.splitR cur = [cur] := by
  induction cur with
  | nil => rfl
  | cons x cur ih =>
    unfold X.splitR
    rw [if_neg (h x (by simp)), ih (fun y hy => h y (by simp [hy]))]
theorem split_mid {cur q : List Int} (h : ∀ x ∈ cur, x ≠ 10) : X.splitR (cur ++ 10 :: q) = cur :: X.splitR q := by
  induction cur with
  | nil =>
    show X.splitR (10 :: q) = _
    conv => lhs; unfold X.splitR
    rw [if_pos rfl]
  | cons x cur ih =>
    show X.splitR (x :: (cur ++ 10 :: q)) = _
    conv => lhs; unfold X.splitR
    rw [if_neg (h x (by simp)), ih (fun y hy => h y (by simp [hy]))]
theorem rsplit_scan {t : List Int} (hb : t.length ≤ 1000000000000) : ∀ (d s i k : Nat) (acc : List (List Int)), i + d = t.length → s ≤ i → d + 2 ≤ k → acc.length ≤ i → (∀ x ∈ (t.take i).drop s, x ≠ 10) → X.quoinref05_Split.l0 k t acc (s : Int) (i : Int) = some (acc ++ X.splitR (t.drop s)) := by
  intro d
  induction d with
  | zero =>
    intro s i k acc hi hs hk hal hno
    obtain ⟨k, rfl⟩ : ∃ k', k = k' + 2 := ⟨k - 2, by omega⟩
    have hie : i = t.length := by omega
    subst hie
    have hl1 : ((t.take t.length).drop s).length ≤ t.length := by rw [List.length_drop, List.length_take]; omega
    rw [List.take_length] at hno hl1
    have ew : wrap64 ((t.length : Int) + 1) = (t.length : Int) + 1 := by unfold wrap64; omega
    unfold X.quoinref05_Split.l0
    simp only [Int.toNat_natCast, List.take_length]
    rw [if_pos (by omega), if_pos True.intro, Option.bind_some, if_pos (by omega), if_pos (by omega), if_pos (by simp at hl1 ⊢; omega), if_pos (by omega), ew]
    unfold X.quoinref05_Split.l0
    rw [if_neg (by omega), List.nil_append, split_end hno]
  | succ d ih =>
    intro s i k acc hi hs hk hal hno
    obtain ⟨k, rfl⟩ : ∃ k', k = k' + 1 := ⟨k - 1, by omega⟩
    have hlt : i < t.length := by omega
    have hl1 : ((t.take i).drop s).length ≤ i := by rw [List.length_drop, List.length_take]; omega
    have ew : wrap64 ((i : Int) + 1) = ((i + 1 : Nat) : Int) := by unfold wrap64; omega
    have hti : t.drop s = (t.take i).drop s ++ t.drop i := by
      conv => lhs; rw [← List.take_append_drop i t]
      rw [List.drop_append_of_le_length (by rw [List.length_take]; omega)]
    have hdi : t.drop i = t[i] :: t.drop (i + 1) := List.drop_eq_getElem_cons hlt
    have hrd : rd t (i : Int) = t[i] := by unfold rd; rw [Int.toNat_natCast, List.getD_eq_getElem?_getD, List.getElem?_eq_getElem hlt]; rfl
    unfold X.quoinref05_Split.l0
    simp only [Int.toNat_natCast]
    rw [if_pos (by omega), if_neg (by omega), if_pos (by omega), if_pos (by omega)]
    by_cases h10 : rd t (i : Int) = 10
    · rw [if_pos h10, Option.bind_some, if_pos (by omega), if_pos (by omega), if_pos (by simp at hl1 ⊢; omega), if_pos (by omega), ew]
      rw [ih (i + 1) (i + 1) k _ (by omega) (Nat.le_refl _) (by omega) (by rw [List.length_append, List.length_singleton]; omega) (fun x hx => by
        rw [List.drop_eq_nil_of_le (by rw [List.length_take]; omega)] at hx
        cases hx)]
      rw [hti, hdi, ← hrd, h10, split_mid hno]
      simp
    · rw [if_neg h10, ew]
      refine ih s (i + 1) k acc (by omega) (by omega) (by omega) (by omega) (fun x hx => ?_)
      rw [show t.take (i + 1) = t.take i ++ [t[i]] from by rw [List.take_add_one, List.getElem?_eq_getElem hlt]; rfl, List.drop_append_of_le_length (by rw [List.length_take]; omega)] at hx
      rcases List.mem_append.1 hx with h | h
      · exact hno x h
      · rw [List.mem_singleton.1 h, ← hrd]; exact h10
theorem rsplit_all {t : List Int} (hb : t.length ≤ 1000000000000) : X.quoinref05_Split.f (t.length + 2) t = some (X.splitR t) := by
  have h := rsplit_scan hb t.length 0 0 (t.length + 2) [] (by omega) (Nat.le_refl _) (Nat.le_refl _) (Nat.le_refl _) (fun x hx => by simp at hx)
  rw [List.drop_zero, List.nil_append] at h
  exact h
theorem rcount_scan {t : List Int} (hb : t.length ≤ 4000000) : ∀ (d i k : Nat) (n : Int), i + d = t.length → d + 1 ≤ k → 0 ≤ n → n + (d : Int) ≤ 4000001 → X.quoinref05_Count.l0 k t n (i : Int) = some (n + X.cnt 10 (t.drop i)) := by
  intro d
  induction d with
  | zero =>
    intro i k n hi hk h0 h1
    obtain ⟨k, rfl⟩ : ∃ k', k = k' + 1 := ⟨k - 1, by omega⟩
    unfold X.quoinref05_Count.l0
    rw [if_neg (by omega), List.drop_of_length_le (by omega)]
    simp [X.cnt]
  | succ d ih =>
    intro i k n hi hk h0 h1
    obtain ⟨k, rfl⟩ : ∃ k', k = k' + 1 := ⟨k - 1, by omega⟩
    have hlt : i < t.length := by omega
    have hrd : rd t (i : Int) = t[i] := by unfold rd; rw [Int.toNat_natCast, List.getD_eq_getElem?_getD, List.getElem?_eq_getElem hlt]; rfl
    have ew : wrap64 ((i : Int) + 1) = ((i + 1 : Nat) : Int) := by unfold wrap64; omega
    have en : wrap64 (n + 1) = n + 1 := by unfold wrap64; omega
    unfold X.quoinref05_Count.l0
    rw [if_pos (by omega), if_pos (by omega), ew, en, hrd, List.drop_eq_getElem_cons hlt]
    conv => rhs; unfold X.cnt
    by_cases hx : t[i] = 10
    · rw [if_pos hx, if_pos hx, ih (i + 1) k (n + 1) (by omega) (by omega) (by omega) (by omega)]
      congr 1
      omega
    · rw [if_neg hx, if_neg hx, ih (i + 1) k n (by omega) (by omega) (by omega) (by omega)]
      congr 1
      omega
theorem rcount_eq {t : List Int} (hb : t.length ≤ 1048576) : X.quoinref05_Count.f (t.length + 1) t = some (linesN t) := by
  unfold X.quoinref05_Count.f
  have h := rcount_scan (t := t) (by omega) t.length 0 (t.length + 1) 1 (by omega) (by omega) (by omega) (by omega)
  rw [List.drop_zero] at h
  have h2 := split_cnt t
  unfold linesN
  rw [show ((0 : Nat) : Int) = 0 from rfl] at h
  rw [h, h2]
  congr 1
  omega
theorem rof_eq {t : List Int} (hb : t.length ≤ 1048576) (p : Int) : ∃ k, X.quoinref05_Of.f k t p = some (ofV t p) := by
  unfold ofV
  by_cases hp : 0 ≤ p ∧ p ≤ (t.length : Int)
  · rw [if_pos hp]
    have hl : (t.take p.toNat).length ≤ 1048576 := by rw [List.length_take]; omega
    refine ⟨(t.take p.toNat).length + 1, ?_⟩
    unfold X.quoinref05_Of.f
    rw [if_neg (by omega), if_neg (by omega), if_pos hp.1, if_pos hp.2, rcount_eq hl, Option.bind_some]
    have h1 := split_cnt (t.take p.toNat)
    have h2 := split_len (t.take p.toNat)
    have h3 := cnt_nonneg 10 (t.take p.toNat)
    have e : wrap64 (linesN (t.take p.toNat) - 1) = X.cnt 10 (t.take p.toNat) := by
      unfold linesN wrap64
      omega
    rw [e]
  · rw [if_neg hp]
    refine ⟨0, ?_⟩
    unfold X.quoinref05_Of.f
    by_cases h0 : p < 0
    · rw [if_pos h0]
    · rw [if_neg h0, if_pos (by omega)]
def nameI (name : Int) : Int := match slotI name with
  | none => -1
  | some i => i
theorem rname_eq {name : Int} (h0 : 0 ≤ name) (h1 : name ≤ 255) : X.quoinref16_name.f 1 name = some (nameI name) := by
  unfold nameI slotI
  by_cases ha : 97 ≤ name
  · by_cases hb : name ≤ 122
    · have e : wrap64 (wrap64 name - 97) = name - 97 := by unfold wrap64; omega
      simp [X.quoinref16_name.f, X.quoinref16_name.j0, ha, hb, e]
      omega
    · have hc : ¬ name = 96 := by omega
      have hd : ¬ name = 39 := by omega
      simp [X.quoinref16_name.f, X.quoinref16_name.j0, ha, hb, hc, hd]
  · by_cases hc : name = 96
    · subst hc; simp [X.quoinref16_name.f, X.quoinref16_name.j0]
    · by_cases hd : name = 39
      · subst hd; simp [X.quoinref16_name.f, X.quoinref16_name.j0]
      · simp [X.quoinref16_name.f, X.quoinref16_name.j0, ha, hc, hd]
theorem rsum_eq {l n add : Int} (hl1 : -9223372036854775808 ≤ l) (hl2 : l ≤ 9223372036854775807) (ha1 : -9223372036854775808 ≤ add) (ha2 : add ≤ 9223372036854775807) (hn0 : 1 ≤ n) (hn1 : n ≤ 2000000) : ∃ (m : Int) (b : Bool), X.quoinref23_sum.f 1 l add n = some (m, b) ∧ tailF l n add = if b = true then (m, 0) else (0, 231) := by
  have hT : tailF l n add = if l + add < 0 ∨ l + add > n then (0, 231) else (l + add, 0) := by
    unfold tailF
    by_cases h1 : (l < 0 ∧ add ≤ 0) ∨ (l > n ∧ add ≥ 0) ∨ (add > n ∧ l ≥ 0)
    · rw [if_pos h1, if_pos (by omega)]
    · rw [if_neg h1]
  rw [hT]
  unfold X.quoinref23_sum.f
  by_cases ha : add ≥ 0
  · rw [if_pos ha]
    have e1 : wrap64 (-add) = -add := by unfold wrap64; omega
    have e2 : wrap64 (n - add) = n - add := by unfold wrap64; omega
    rw [e1, e2]
    by_cases h1 : l < -add
    · exact ⟨0, false, by rw [if_pos h1]; rfl, by rw [if_pos (by omega), if_neg (by decide)]⟩
    · by_cases h2 : l > n - add
      · exact ⟨0, false, by rw [if_neg h1, show decide (l > n - add) = true from decide_eq_true h2]; rfl, by rw [if_pos (by omega), if_neg (by decide)]⟩
      · have e3 : wrap64 (l + add) = l + add := by unfold wrap64; omega
        exact ⟨l + add, true, by rw [if_neg h1, show decide (l > n - add) = false from decide_eq_false h2]; show some (wrap64 (l + add), true) = _; rw [e3], by rw [if_neg (by omega), if_pos rfl]⟩
  · rw [if_neg ha]
    by_cases hm : add = -9223372036854775808
    · rw [if_pos hm]
      exact ⟨0, false, rfl, by rw [if_pos (by omega), if_neg (by decide)]⟩
    · rw [if_neg hm]
      have e1 : wrap64 (-add) = -add := by unfold wrap64; omega
      rw [e1]
      by_cases h1 : l < -add
      · rw [if_pos h1]
        exact ⟨0, false, rfl, by rw [if_pos (by omega), if_neg (by decide)]⟩
      · rw [if_neg h1]
        have e2 : wrap64 (l - n) = l - n := by unfold wrap64; omega
        rw [e2]
        by_cases h2 : l - n > -add
        · rw [if_pos h2]
          exact ⟨0, false, rfl, by rw [if_pos (by omega), if_neg (by decide)]⟩
        · rw [if_neg h2]
          have e3 : wrap64 (l + add) = l + add := by unfold wrap64; omega
          exact ⟨l + add, true, by rw [e3], by rw [if_neg (by omega), if_pos rfl]⟩
end Go.Proofs.YtdhdngoeaneanaaDoor.PT
end
section
namespace Go.Proofs.YtdhdngoeaneanaaDoor.PT
open Go.RowKit Go.Proofs.YtdhdngoeaneanaaDoorW.PrintWords Go.Proofs.YtdhdngoeaneanaaDoorW.PrintMore Go.Proofs.YtdhdngoeaneanaaDoor.XL
set_option linter.unusedVariables false
set_option linter.unusedSimpArgs false
theorem rat_calls {w : World} {l : List Int} {i : Nat} (hl : l.length = 27) (hi : i < 27) : Calls Tryd.prog 52 #[.agg (marks l), .int .i64 i] w fun e w' => e = .returned (.int .i64 (l.getD i 0)) ∧ Below w.heap.size w w' := by
  have BX := Aside0.mk (blk_new w (.cells (marks l) 37))
  have HB := Aside0.mk (below_alloc (Below.refl w.heap.size w) (.cells (marks l) 37))
  have hmi : (marks l)[i]? = some (.int .i64 (l.getD i 0)) := marks_get (by omega)
  have hsz : (marks l).size = 27 := by rw [marks_size, hl]
  generalize l.getD i 0 = x at hmi ⊢
  generalize marks l = M at BX HB hsz hmi ⊢
  have y := (blk_cell BX.out i).trans hmi
  by_cases h26 : i = 26
  · subst h26
    clear hi hmi
    go_enter Tryd.func52, Tryd.ntmps52
    go_wp2
    exact bodyPost_ret (v := .int .i64 x) (by simp [results, Tryd.results52, go_sem]) rfl ⟨rfl, HB.out⟩
  · have q1 : ((i : Int) == 26) = false := beq_eq_false_iff_ne.2 (by omega)
    have q2 : (0 ≤ (i : Int)) = True := eq_true (by omega)
    have q3 : ((i : Int) < 26) = True := eq_true (by omega)
    clear hi hmi h26
    go_enter Tryd.func52, Tryd.ntmps52
    go_wp2
    exact bodyPost_ret (v := .int .i64 x) (by simp [results, Tryd.results52, go_sem]) rfl ⟨rfl, HB.out⟩
theorem rget_calls {w : World} {l : List Int} {name : Int} (hl : l.length = 27) (h0 : 0 ≤ name) (h1 : name ≤ 255) : Calls Tryd.prog 31 #[.agg (marks l), .int .u8 name] w fun e w' => e = .returned (.tuple #[.int .i64 (getV l name).1, .int .i64 (getV l name).2]) ∧ Below w.heap.size w w' := by
  have BX := Aside0.mk (blk_new w (.cells (marks l) 37))
  have HB := Aside0.mk (below_alloc (Below.refl w.heap.size w) (.cells (marks l) 37))
  have HN := Aside0.mk (fun (W : World) => X.quoinref16_name.calls 1 name (nameI name) W (rname_eq h0 h1))
  have HSZ := Aside0.mk (szmk' hl)
  unfold nameI at HN
  unfold getV
  cases hs : slotI name with
  | none =>
    rw [hs] at HN
    simp only at HN ⊢
    clear hs HSZ
    generalize marks l = M at BX HB ⊢
    go_enter Tryd.func31, Tryd.ntmps31
    go_wp2_with (go_at_call 51; (with_reducible refine (HN.out _).mono ?_); rintro e w1 ⟨rfl, ⟨nd, rfl⟩⟩)
    exact bodyPost_ret (v := .tuple #[.int .i64 0, .int .i64 160]) (by simp [results, Tryd.results31, go_sem]) rfl ⟨rfl, pw_below_drewN HB.out _⟩
  | some i =>
    have hi := slotI_lt hs
    rw [hs] at HN
    simp only at HN ⊢
    clear hs
    have HAT := Aside0.mk (fun (W : World) => rat_calls (w := W) hl hi)
    have q2 : ((i : Int) < 0) = False := eq_false (by omega)
    generalize l.getD i 0 = x at HAT ⊢
    generalize marks l = M at BX HB HSZ HAT ⊢
    by_cases hx0 : x < 0
    · rw [if_pos hx0]
      have q1 : (x < 0) = True := eq_true hx0
      clear hx0
      go_enter Tryd.func31, Tryd.ntmps31
      go_wp2_with (first
        | (go_at_call 51; (with_reducible refine (HN.out _).mono ?_); rintro e w1 ⟨rfl, ⟨nd, rfl⟩⟩)
        | ((with_reducible refine gate_ (.load 37 (.tmp 2)) rfl ?_); refine wpList_load_row rfl 37 (.tmp 2) rfl w.heap.size rfl _ _ _ _ (blk_drewN BX.out _) Tryd.underlying37 rfl HSZ.out ?_)
        | (go_at_call 52; (with_reducible refine (HAT.out _).mono ?_); rintro e w2 ⟨rfl, hx⟩; have H2 := Aside0.mk (below_step (pw_below_drewN HB.out _) hx); clear hx))
      exact bodyPost_ret (v := .tuple #[.int .i64 0, .int .i64 161]) (by simp [results, Tryd.results31, go_sem]) rfl ⟨rfl, H2.out⟩
    · rw [if_neg hx0]
      have q1 : (x < 0) = False := eq_false hx0
      clear hx0
      go_enter Tryd.func31, Tryd.ntmps31
      go_wp2_with (first
        | (go_at_call 51; (with_reducible refine (HN.out _).mono ?_); rintro e w1 ⟨rfl, ⟨nd, rfl⟩⟩)
        | ((with_reducible refine gate_ (.load 37 (.tmp 2)) rfl ?_); refine wpList_load_row rfl 37 (.tmp 2) rfl w.heap.size rfl _ _ _ _ (blk_drewN BX.out _) Tryd.underlying37 rfl HSZ.out ?_)
        | (go_at_call 52; (with_reducible refine (HAT.out _).mono ?_); rintro e w2 ⟨rfl, hx⟩; have H2 := Aside0.mk (below_step (pw_below_drewN HB.out _) hx); clear hx))
      exact bodyPost_ret (v := .tuple #[.int .i64 x, .int .i64 0]) (by simp [results, Tryd.results31, go_sem]) rfl ⟨rfl, H2.out⟩
end Go.Proofs.YtdhdngoeaneanaaDoor.PT
end
