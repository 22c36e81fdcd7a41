/-
  Patterns, by hand: the ends of the matches: what they work on.
-/
import Derived.Test.YtffpkldphkmjmaaDoorPT5
import Derived.Test.YtffpkldphkmjmaaDoorX67
import Derived.Test.YtffpkldphkmjmaaDoorX57
namespace Go.Proofs.YtffpkldphkmjmaaDoor.PT
open Go.RowKit Go.Proofs.YtffpkldphkmjmaaDoorW.PrintWords Go.Proofs.YtffpkldphkmjmaaDoorW.PrintMore
set_option linter.unusedVariables false
def iv (E : List Int) : Array Value := (E.map (Value.int .i64)).toArray
theorem iv_get {E : List Int} {i : Nat} (h : i < E.length) : (iv E)[i]? = some (.int .i64 (rd E (i : Int))) := by
  unfold iv rd
  rw [Int.toNat_natCast, List.getD_eq_getElem?_getD]
  simp [h]
theorem iv_set (E : List Int) (i : Nat) (b : Int) : (iv E).setIfInBounds i (.int .i64 b) = iv (E.set i b) := by
  unfold iv
  rw [List.setIfInBounds_toArray, List.map_set]
theorem iv_made (m : Nat) : madeCells #[.int .i64 0] m = iv (List.replicate m 0) := by
  apply Array.toList_inj.1
  apply List.ext_getElem
  · simp [madeCells, iv]
  · intro i h1 h2
    simp [madeCells, iv, Nat.mod_one]
theorem rd_set (E : List Int) {i : Nat} (j : Int) (b : Int) (h0 : 0 ≤ j) (h : i < E.length) : rd (E.set i b) j = if j = (i : Int) then b else rd E j := by
  obtain ⟨k, rfl⟩ := Int.eq_ofNat_of_zero_le h0
  unfold rd
  rw [Int.toNat_natCast, List.getD_eq_getElem?_getD, List.getD_eq_getElem?_getD, List.getElem?_set]
  by_cases e : i = k
  · subst e; simp [h]
  · rw [if_neg e, if_neg (by omega)]
theorem rd_ext {E F : List Int} (hl : E.length = F.length) (h : ∀ j : Nat, j < E.length → rd E (j : Int) = rd F (j : Int)) : E = F := by
  apply List.ext_getElem hl
  intro i h1 h2
  have h3 := h i h1
  unfold rd at h3
  rw [Int.toNat_natCast, List.getD_eq_getElem?_getD, List.getD_eq_getElem?_getD] at h3
  simpa [h1, h2] using h3
theorem rd_gen (m : Nat) (f : Nat → Int) {j : Nat} (h : j < m) : rd ((List.range m).map f) (j : Int) = f j := by
  unfold rd
  rw [Int.toNat_natCast, List.getD_eq_getElem?_getD]
  simp [h]
/-- What ends works on: the boxes of line and best, the row. -/
structure EX (w0 : World) (bl bb br : Nat) (A : Option Addr) (c n : Nat) (E : List Int) (w : World) : Prop where
  below : Below w0.heap.size w0 w
  gl : w0.heap.size ≤ bl
  gb : w0.heap.size ≤ bb
  gr : w0.heap.size ≤ br
  ln : w.heap[bl]? = some (.cells #[.slice A n c] 22 (0, 0))
  bs : w.heap[bb]? = some (.cells #[.slice (some ⟨br, 0, none⟩) (n + 1) (n + 1)] 47 (0, 0))
  row : w.heap[br]? = some (.cells (iv E) 3 (0, 0))
  len : E.length = n + 1
section
variable {w0 w : World} {bl bb br : Nat} {A : Option Addr} {c n : Nat} {E : List Int}
theorem EX.drew (h : EX w0 bl bb br A c n E w) (k : Nat) : EX w0 bl bb br A c n E (w.drewN k) := ⟨pw_below_drewN h.below k, h.gl, h.gb, h.gr, blk_drewN h.ln k, blk_drewN h.bs k, blk_drewN h.row k, h.len⟩
theorem EX.put (h : EX w0 bl bb br A c n E w) (j : Nat) (b : Int) : EX w0 bl bb br A c n (E.set j b) (w.setCell ⟨br, j, none⟩ (.int .i64 b)) :=
  ⟨below_set h.below h.gr, h.gl, h.gb, h.gr, blk_far h.ln (blk_ne h.ln h.row (by decide)) _, blk_far h.bs (blk_ne h.bs h.row (by decide)) _, blk_put h.row j _ (iv_set E j b), by rw [List.length_set]; exact h.len⟩
theorem EX.cl (h : EX w0 bl bb br A c n E w) : w.cell? ⟨bl, 0, none⟩ = some (.slice A n c) := (blk_cell h.ln 0).trans rfl
theorem EX.cb (h : EX w0 bl bb br A c n E w) : w.cell? ⟨bb, 0, none⟩ = some (.slice (some ⟨br, 0, none⟩) (n + 1) (n + 1)) := (blk_cell h.bs 0).trans rfl
theorem EX.cr (h : EX w0 bl bb br A c n E w) {j : Nat} (hj : j ≤ n) : w.cell? ⟨br, j, none⟩ = some (.int .i64 (rd E (j : Int))) := (blk_cell h.row j).trans (iv_get (by rw [h.len]; omega))
end
end Go.Proofs.YtffpkldphkmjmaaDoor.PT
