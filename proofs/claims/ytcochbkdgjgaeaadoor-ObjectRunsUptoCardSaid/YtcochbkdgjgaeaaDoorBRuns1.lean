/-
  Texts of one proof in one file (wip/bundle.py): XO, X0, XS, XL, X2, X3, X4, X8, X9, X10, X11, LN, X5, X6, X7, X12, X13.
  Conditions: none.
-/
import Derived.Test.YtcochbkdgjgaeaaDoorRows
import Derived.Test.YtcochbkdgjgaeaaDoorWWords
import Derived.Test.YtcochbkdgjgaeaaDoorWLast
import Derived.Deep.Slices
import Derived.ChangeArms
import Derived.ChangeShapes
import Derived.RowKit
import Derived.WideShapes
import Derived.SizedLaws
import Derived.Test.YtcochbkdgjgaeaaDoorProg
import Derived.Below
import Derived.Deep.Draws
import Derived.Deep.AppendLies
import Derived.Maps.AppendAt
import Derived.OwnWalk
import Derived.Laws.BytesArg
import Derived.Laws.MakeOwn
import Derived.Laws.OwnMore
import Derived.Deep.OwnRows
import Derived.Tactics
import Derived.Lib.ConvBytes
import Derived.Laws.Slices
import Derived.WalkKit
import Derived.KernelRfl
import Derived.RowKit3
import Derived.Deep.LoopGhost
import Derived.Deep.QuietTactic
import Derived.BigQuiet
import Derived.WideLaws
import Derived.Deep.DeepCutAuto
import Derived.Deep.CutBlock
import Derived.Deep.RegionHeld3
import Derived.Laws.Rows
import Derived.Lib.AppendStr
import Derived.ArgAppend
import Derived.Laws.IdiomCopy
import Derived.OrdersHeld
import Derived.Laws.BitsLemmas
import Derived.Lib.SlBytesConst
import Derived.Lib.Bytealg
import Derived.Lib.Bytes
import Derived.Shelf.Bytes.SlCountOne
import Derived.Shelf.Bytes.SlIndexAt
import Derived.Laws.Externs
import Derived.Lib.SliceRun
import Derived.Lib.SmallJoins
import Derived.Lib.SlSplitV
import Derived.Test.YtcochbkdgjgaeaaDoorWTab
import Derived.Test.YtcochbkdgjgaeaaDoorWFour
import Derived.Test.YtcochbkdgjgaeaaDoorWQPut
import Derived.Test.YtcochbkdgjgaeaaDoorWApart
import Derived.Test.YtcochbkdgjgaeaaDoorWArr
import Derived.Test.YtcochbkdgjgaeaaDoorWZeros
import Derived.Test.YtcochbkdgjgaeaaDoorWFoot
import Derived.Test.YtcochbkdgjgaeaaDoorWKept
import Derived.Test.YtcochbkdgjgaeaaDoorWShare
import Derived.Test.YtcochbkdgjgaeaaDoorWN
import Derived.Test.YtcochbkdgjgaeaaDoorWFootNe
import Derived.Test.YtcochbkdgjgaeaaDoorWAt
import Derived.Test.YtcochbkdgjgaeaaDoorWEqStruct
import Derived.Test.YtcochbkdgjgaeaaDoorWRepsOne
import Derived.Test.YtcochbkdgjgaeaaDoorWInv
import Derived.Test.YtcochbkdgjgaeaaDoorWInvWords
import Derived.Test.YtcochbkdgjgaeaaDoorWGuard
import Derived.Test.YtcochbkdgjgaeaaDoorWNEv
import Derived.Test.YtcochbkdgjgaeaaDoorWMore
section
namespace Go.Proofs.YtcochbkdgjgaeaaDoor.XO
open Go.RowKit Go.ChangeShapes Go.WideShapes Go.Deep Go.Proofs.YtcochbkdgjgaeaaDoorW.PrintWords

def okI64 (n : Int) : Prop := -9223372036854775808 ≤ n ∧ n ≤ 9223372036854775807
def okU8 (n : Int) : Prop := 0 ≤ n ∧ n ≤ 255
def okBool (_ : Bool) : Prop := True
def okStr (s : ByteArray) : Prop := s.size ≤ 140737488351232
def okSl {α : Type} (B : Nat) (ok : α → Prop) (l : List α) : Prop := l.length * B ≤ 140737488351232 ∧ ∀ x ∈ l, ok x
def szOne {α : Type} (_ : α) : Nat := 1
def szStr (s : ByteArray) : Nat := s.size + 1
def szSl {α : Type} (sz : α → Nat) (l : List α) : Nat := (l.map sz).sum + 1
theorem szSl_length {α : Type} (sz : α → Nat) (h : ∀ a, 1 ≤ sz a) (l : List α) : l.length + 1 ≤ szSl sz l := by
  unfold szSl
  induction l with
  | nil => simp
  | cons a l ih =>
    have := h a
    simp only [List.length_cons, List.map_cons, List.sum_cons]
    omega
def Opens {α : Type} (P : Program) (t : TypeId) (d : Kd α) (ok : α → Prop) (sz : α → Nat) : Prop :=
  ∀ (H : Type) (enc : TypeId × Value → H) (W : World) (fuel : Nat) (cs : List Value) (x : DataW H × List MemPlace),
    DataW.trod enc P W 0 (fun _ => true) true fuel t cs = some x → (x.1.weights P t).all (· ≤ reachBytes) = true →
    ∃ a, d.K W a cs ∧ ok a ∧ sz a ≤ Rows.uptoBulk x.1

section
variable {P : Program} {t e : TypeId}
theorem Opens.get {α : Type} {d : Kd α} {ok : α → Prop} {sz : α → Nat} (h : Opens P t d ok sz) {H : Type} {enc : TypeId × Value → H} {W : World} {fuel : Nat} {cs : List Value} {x : DataW H × List MemPlace}
    (hx : DataW.trod enc P W 0 (fun _ => true) true fuel t cs = some x) (hw : (x.1.weights P t).all (· ≤ reachBytes) = true) : ∃ a, d.K W a cs ∧ ok a ∧ sz a ≤ Rows.uptoBulk x.1 := h _ _ _ _ _ _ hx hw
theorem wf_i64 {n : Int} (h : (Lit.int .i64 n).wf = true) : okI64 n := by
  have h1 : (decide (IntKind.i64.min ≤ n) && decide (n ≤ IntKind.i64.max)) = true := h
  rw [Bool.and_eq_true] at h1
  exact ⟨of_decide_eq_true h1.1, of_decide_eq_true h1.2⟩
theorem wf_u8 {n : Int} (h : (Lit.int .u8 n).wf = true) : okU8 n := by
  have h1 : (decide (IntKind.u8.min ≤ n) && decide (n ≤ IntKind.u8.max)) = true := h
  rw [Bool.and_eq_true] at h1
  exact ⟨of_decide_eq_true h1.1, of_decide_eq_true h1.2⟩
theorem opens_i64 (hu : P.underlying t = some (.int .i64)) : Opens P t (Kd.int .i64) okI64 szOne := by
  intro H enc W fuel cs x h _
  obtain ⟨n, rfl, rfl, hwf⟩ := DataW.trod_int hu h
  exact ⟨n, rfl, wf_i64 hwf, by simp [szOne, Rows.uptoBulk]⟩
theorem opens_u8 (hu : P.underlying t = some (.int .u8)) : Opens P t (Kd.int .u8) okU8 szOne := by
  intro H enc W fuel cs x h _
  obtain ⟨n, rfl, rfl, hwf⟩ := DataW.trod_int hu h
  exact ⟨n, rfl, wf_u8 hwf, by simp [szOne, Rows.uptoBulk]⟩
theorem opens_bool (hu : P.underlying t = some .bool) : Opens P t Kd.bool okBool szOne := by
  intro H enc W fuel cs x h _
  obtain ⟨n, rfl, rfl⟩ := DataW.trod_bool hu h
  exact ⟨n, rfl, trivial, by simp [szOne, Rows.uptoBulk]⟩
theorem opens_str (hu : P.underlying t = some .string) : Opens P t Kd.string okStr szStr := by
  intro H enc W fuel cs x h hw
  obtain ⟨s, rfl, rfl, hm⟩ := DataW.trod_string hu h
  have e : s.data.toList.length = s.size := by rw [Array.length_toList]; rfl
  refine ⟨s, rfl, ?_, ?_⟩
  · simp only [DataW.weights, List.all_cons, List.all_nil, Bool.and_true] at hw
    have h1 := of_decide_eq_true hw
    rw [e] at h1
    exact h1
  · simp only [szStr, Rows.uptoBulk, e]; omega
theorem weightsAll_mem {H : Type} {e : TypeId} {l : List (DataW H)} {d : DataW H} (hd : d ∈ l) {p : Nat → Bool} (h : (DataW.weightsAll P e l).all p = true) : (d.weights P e).all p = true := by
  induction l with
  | nil => cases hd
  | cons b l ih =>
    simp only [DataW.weightsAll, List.all_append, Bool.and_eq_true] at h
    cases List.mem_cons.1 hd with
    | inl e => subst e; exact h.1
    | inr e => exact ih e h.2
theorem bulkAll_append {H : Type} (l r : List (DataW H)) : Rows.uptoBulkAll (l ++ r) = Rows.uptoBulkAll l + Rows.uptoBulkAll r := by
  induction l with
  | nil => simp [Rows.uptoBulkAll]
  | cons x l ih => simp only [List.cons_append, Rows.uptoBulkAll, ih]; omega
theorem opens_list {α : Type} {ok : α → Prop} {sz : α → Nat} (n : Nat) : ∀ {H : Type} (D : Nat → DataW H) {Q : Nat → α → Prop}, (∀ i, i < n → ∃ a, Q i a ∧ ok a ∧ sz a ≤ Rows.uptoBulk (D i)) →
    ∃ xs : List α, xs.length = n ∧ (∀ i a, xs[i]? = some a → Q i a) ∧ (∀ x ∈ xs, ok x) ∧ (xs.map sz).sum ≤ Rows.uptoBulkAll ((List.range n).map D) := by
  intro H D Q h
  induction n with
  | zero => exact ⟨[], rfl, (fun i a h => by simp at h), (fun x hx => absurd hx List.not_mem_nil), by simp⟩
  | succ n ih =>
    obtain ⟨xs, hl, hq, hok, hs⟩ := ih (fun i hi => h i (by omega))
    obtain ⟨a, ha, hoa, hsa⟩ := h n (by omega)
    refine ⟨xs ++ [a], by simp [hl], fun i b hb => ?_, fun x hx => ?_, ?_⟩
    · by_cases hi : i < xs.length
      · rw [List.getElem?_append_left hi] at hb
        exact hq i b hb
      · rw [List.getElem?_append_right (by omega)] at hb
        have h0 : i - xs.length = 0 := by
          by_cases h1 : i - xs.length = 0
          · exact h1
          · obtain ⟨m, hm⟩ : ∃ m, i - xs.length = m + 1 := ⟨i - xs.length - 1, by omega⟩
            rw [hm] at hb; simp at hb
        rw [h0] at hb
        simp at hb
        subst hb
        have : i = n := by omega
        rw [this]; exact ha
    · rcases List.mem_append.1 hx with hx | hx
      · exact hok x hx
      · rw [List.mem_singleton.1 hx]; exact hoa
    · rw [List.range_succ, List.map_append (f := D), bulkAll_append, List.map_append (f := sz), List.sum_append]
      simp only [List.map_cons, List.map_nil, List.sum_cons, List.sum_nil, Rows.uptoBulkAll]
      omega
theorem opens_sl {α : Type} {d : Kd α} {ok : α → Prop} {sz : α → Nat} {B : Nat} (hu : P.underlying t = some (.slice e)) (he : Opens P e d ok sz) (hc : P.cellsOf e = d.sz) (hb : P.bytesOf e = B) :
    Opens P t (Kd.slice e d) (okSl B ok) (szSl sz) := by
  intro H enc W fuel cs x h hw
  rcases open_slice hu h with ⟨rfl, rfl⟩ | ⟨a, len, cap, m, n, D, Pl, rfl, _, hl, hm, hmm, rfl, hi⟩
  · refine ⟨[], ⟨none, 0, rfl, Nat.le_refl _, ?_⟩, ⟨by simp, fun x hx => by cases hx⟩, by simp [szSl, Rows.uptoBulk]⟩
    exact ⟨rfl, by simp, fun h0 => absurd h0 (by simp)⟩
  · have hmc : m = cap := by simpa using hmm
    subst hmc
    simp only [DataW.weights, hu] at hw
    rw [List.all_cons, Bool.and_eq_true, List.all_append, Bool.and_eq_true] at hw
    obtain ⟨hw0, hwe, _⟩ := hw
    obtain ⟨xs, hxl, hxq, hxo, hxs⟩ := opens_list (α := α) (ok := ok) (sz := sz) len D (Q := fun i y => ∃ cs', W.cells? 0 (a.add (i * P.cellsOf e)) (P.cellsOf e) = some cs' ∧ d.K W y cs') (fun i hil => by
      obtain ⟨cs', hcs, ht⟩ := hi i (by omega)
      obtain ⟨y, hK, hok, hsz⟩ := he.get ht (weightsAll_mem (List.mem_map.2 ⟨i, List.mem_range.2 hil, rfl⟩) hwe)
      exact ⟨y, ⟨cs', hcs, hK⟩, hok, hsz⟩)
    refine ⟨xs, ⟨some a, m, by rw [hxl], by omega, ?_⟩, ⟨?_, hxo⟩, ?_⟩
    · have hmx : m ≤ maxLen := hm
      unfold maxLen at hmx
      refine ⟨rfl, by omega, fun _ => ⟨a, rfl, fun j p hj => ?_⟩⟩
      · obtain ⟨cs', hcs, hK⟩ := hxq j p hj
        obtain ⟨_, hlen, hat⟩ := World.cells?_some hcs
        refine ⟨cs', by rw [hlen, hc], hK, fun i u hu' => ?_⟩
        have hil : i < P.cellsOf e := by
          obtain ⟨h1, _⟩ := List.getElem?_eq_some_iff.1 hu'
          omega
        have h2 := hat i hil
        rw [hu'] at h2
        rw [← hc, ← h2, Go.Deep.add_add]
    · have h3 : (((List.range len).map D).length + ((List.range (m - len)).map fun j => D (len + j)).length) * P.bytesOf e ≤ reachBytes := of_decide_eq_true hw0
      simp only [List.length_map, List.length_range, hb] at h3
      rw [hxl]
      have h4 : len * B ≤ (len + (m - len)) * B := Nat.mul_le_mul_right _ (by omega)
      have h5 : reachBytes = 140737488351232 := by decide
      omega
    · simp only [szSl, Rows.uptoBulk]
      omega
theorem opens_iso {α β : Type} {d : Kd α} {f : β → α} {ok : α → Prop} {sz : α → Nat} (g : α → β) (hg : ∀ a, f (g a) = a) (h : Opens P t d ok sz) : Opens P t (Kd.iso d f) (fun b => ok (f b)) (fun b => sz (f b)) := by
  intro H enc W fuel cs x hx hw
  obtain ⟨a, hK, hok, hs⟩ := h.get hx hw
  refine ⟨g a, ?_, ?_, ?_⟩
  · show d.K W (f (g a)) cs
    rw [hg]; exact hK
  · show ok (f (g a))
    rw [hg]; exact hok
  · show sz (f (g a)) ≤ _
    rw [hg]; exact hs
/-- The fields of a struct from one on; their cells from off on. -/
def OF {α : Type} (P : Program) (fs : List Field) (off : Nat) (d : Kd α) (ok : α → Prop) (sz : α → Nat) : Prop :=
  ∀ (H : Type) (enc : TypeId × Value → H) (W : World) (n : Nat) (cs : List Value) (ys : List (DataW H × List MemPlace)), cs.length = off + d.sz → ys.length = fs.length →
    (∀ (j : Nat) (f : Field), fs[j]? = some f → DataW.trod enc P W 0 (fun _ => true) true n f.type ((cs.drop f.offset).take (P.cellsOf f.type)) = ys[j]?) →
    (DataW.weightsEach P (fs.map (·.type)) (ys.map (·.1))).all (· ≤ reachBytes) = true → ∃ a, d.K W a (cs.drop off) ∧ ok a ∧ sz a ≤ Rows.uptoBulkAll (ys.map (·.1))
theorem of_last {α : Type} {f : Field} {off : Nat} {d : Kd α} {ok : α → Prop} {sz : α → Nat} (ho : f.offset = off) (hc : P.cellsOf f.type = d.sz) (h : Opens P f.type d ok sz) : OF P [f] off d ok sz := by
  intro H enc W n cs ys hl hy hf hw
  obtain ⟨y, rfl⟩ : ∃ y, ys = [y] := by
    match ys, hy with
    | [y], _ => exact ⟨y, rfl⟩
  have h1 := hf 0 f rfl
  rw [ho, hc, List.take_of_length_le (by rw [List.length_drop]; omega)] at h1
  simp only [List.map_cons, List.map_nil, DataW.weightsEach, List.append_nil] at hw
  obtain ⟨a, hK, hok, hs⟩ := h.get h1 hw
  exact ⟨a, hK, hok, by simp only [List.map_cons, List.map_nil, Rows.uptoBulkAll]; omega⟩
theorem of_cons {α β : Type} {f : Field} {fs : List Field} {off : Nat} {d : Kd α} {d' : Kd β} {ok : α → Prop} {ok' : β → Prop} {sz : α → Nat} {sz' : β → Nat} (ho : f.offset = off) (hc : P.cellsOf f.type = d.sz) (h : Opens P f.type d ok sz) (h' : OF P fs (off + d.sz) d' ok' sz') :
    OF P (f :: fs) off (Kd.pair d d') (fun x => ok x.1 ∧ ok' x.2) (fun x => sz x.1 + sz' x.2) := by
  intro H enc W n cs ys hl hy hf hw
  have hl : cs.length = off + (d.sz + d'.sz) := hl
  obtain ⟨y, ys, rfl⟩ : ∃ y zs, ys = y :: zs := by
    match ys, hy with
    | y :: zs, _ => exact ⟨y, zs, rfl⟩
  have h1 := hf 0 f rfl
  rw [ho, hc] at h1
  simp only [List.map_cons, DataW.weightsEach, List.all_append, Bool.and_eq_true] at hw
  obtain ⟨a, hK, hok, hs⟩ := h.get h1 hw.1
  obtain ⟨b, hK', hok', hs'⟩ := h' H enc W n cs ys (by omega) (by simpa using hy) (fun j g hj => by simpa using hf (j + 1) g (by simpa using hj)) hw.2
  refine ⟨(a, b), ⟨_, _, ?_, hK, hK'⟩, ⟨hok, hok'⟩, by simp only [List.map_cons, Rows.uptoBulkAll]; omega⟩
  rw [← List.drop_drop, List.take_append_drop]
theorem opens_struct {α : Type} {fs : Array Field} {d : Kd α} {ok : α → Prop} {sz : α → Nat} (hu : P.underlying t = some (.struct fs)) (hc : P.cellsOf t = d.sz) (h : OF P fs.toList 0 d ok sz) : Opens P t d ok (fun a => sz a + 1) := by
  intro H enc W fuel cs x hx hw
  obtain ⟨ys, n, _, rfl, hl, hyl, hf⟩ := DataW.trod_struct hu hx
  simp only [DataW.weights, hu] at hw
  obtain ⟨a, hK, hok, hs⟩ := h H enc W n cs ys (by omega) (by simpa using hyl) (fun j f hj => hf j f (by simpa using hj)) hw
  exact ⟨a, by simpa using hK, hok, by simp only [Rows.uptoBulk]; omega⟩
theorem weightsEach_at {H : Type} {ts : List TypeId} {ds : List (DataW H)} {j : Nat} {t : TypeId} {d : DataW H} (ht : ts[j]? = some t) (hd : ds[j]? = some d) {p : Nat → Bool} (h : (DataW.weightsEach P ts ds).all p = true) : (d.weights P t).all p = true := by
  induction ts generalizing ds j with
  | nil => simp at ht
  | cons t0 ts ih =>
    cases ds with
    | nil => simp at hd
    | cons d0 ds =>
      simp only [DataW.weightsEach, List.all_append, Bool.and_eq_true] at h
      cases j with
      | zero =>
        simp at ht hd
        subst ht hd
        exact h.1
      | succ j => exact ih (by simpa using ht) (by simpa using hd) h.2
end
end Go.Proofs.YtcochbkdgjgaeaaDoor.XO
end
section
-- Written by wip/xprint.py over the kit's print.py: the Lean function of each Go function, and the proof that the Go text comes to it.
namespace Go.Proofs.YtcochbkdgjgaeaaDoor.X
open Go.RowKit Go.Proofs.YtcochbkdgjgaeaaDoorW.PrintWords Go.Proofs.YtcochbkdgjgaeaaDoorW.PrintLast Go.Proofs.YtcochbkdgjgaeaaDoorW.PrintMore
attribute [local go_sem] max2_int min2_int max_two min_two max_three min_three max_four min_four   -- for this text's walks alone
set_option linter.unusedVariables false
set_option linter.unusedSimpArgs false



def errW : Option Int → Value
  | none => .nilIface
  | some c => .iface 0 (.int .i64 c)
theorem errW_none : errW none = .nilIface := rfl
theorem errW_some (c : Int) : errW (some c) = .iface 0 (.int .i64 c) := rfl

theorem info3 : (Tryd.prog.info? 3).map (fun i => (i.zero, i.size, i.bytes)) = some (some (.int .i64 0), 1, 8) := by kernel_rfl
theorem info5 : (Tryd.prog.info? 5).map (fun i => (i.zero, i.size, i.bytes)) = some (some (.int .u8 0), 1, 1) := by kernel_rfl
theorem info22 : (Tryd.prog.info? 22).map (fun i => (i.zero, i.size, i.bytes)) = some (some (.slice none 0 0), 1, 24) := by kernel_rfl
theorem info48 : (Tryd.prog.info? 48).map (fun i => (i.zero, i.size, i.bytes)) = some (some (.agg #[(.int .i64 0), (.int .i64 0), (.bool false)]), 3, 24) := by kernel_rfl
theorem info76 : (Tryd.prog.info? 76).map (fun i => (i.zero, i.size, i.bytes)) = some (some (.agg #[(.int .i64 0), (.int .i64 0), (.bool false)]), 3, 24) := by kernel_rfl
-- the values' own types
/-! #### struct type 76 -/
structure S76 where
  f0 : Int
  f1 : Int
  f2 : Bool
def z76 : S76 := ⟨(0 : Int), (0 : Int), false⟩
def k76 : Kd S76 := Kd.iso (Kd.pair (Kd.int .i64) (Kd.pair (Kd.int .i64) Kd.bool)) (fun x : S76 => (x.f0, x.f1, x.f2))
theorem k76_open {w : World} {x : S76} {cs : List Value} (h : k76.K w x cs) : cs = [.int .i64 x.f0, .int .i64 x.f1, .bool x.f2] := by
  obtain ⟨_, _, rfl, rfl, ⟨_, _, rfl, rfl, rfl⟩⟩ := h
  exact rfl
theorem k76_openM {w : World} {base : Nat} {ok : Nat → Prop} {x : S76} {cs : List Value} (h : k76.M w base ok x cs) : cs = [.int .i64 x.f0, .int .i64 x.f1, .bool x.f2] := by
  obtain ⟨_, _, rfl, rfl, ⟨_, _, rfl, rfl, rfl⟩⟩ := h
  exact rfl
theorem k76_mk (w : World) (x : S76)  : k76.K w x [.int .i64 x.f0, .int .i64 x.f1, .bool x.f2] := ⟨[.int .i64 x.f0], [.int .i64 x.f1, .bool x.f2], rfl, rfl, ⟨[.int .i64 x.f1], [.bool x.f2], rfl, rfl, rfl⟩⟩
theorem k76_mkM (w : World) (base : Nat) (ok : Nat → Prop) (x : S76)  : k76.M w base ok x [.int .i64 x.f0, .int .i64 x.f1, .bool x.f2] := ⟨[.int .i64 x.f0], [.int .i64 x.f1, .bool x.f2], rfl, rfl, ⟨[.int .i64 x.f1], [.bool x.f2], rfl, rfl, rfl⟩⟩
def rd_T76 (xs : List S76) (i : Int) : S76 := xs.getD i.toNat z76
theorem at_T76 {w : World} {A : Option Addr} {n : Nat} {xs : List S76} (h : Kd.C k76 w A n xs) (i : Int) (h0 : 0 ≤ i) (h1 : i < n) : ∃ ad , A = some ad ∧ w.cell? (ad.add (i.toNat * 3)) = some (.int .i64 (rd_T76 xs i).f0) ∧ w.cell? ⟨(ad.add (i.toNat * 3)).block, (ad.add (i.toNat * 3)).off + 1, none⟩ = some (.int .i64 (rd_T76 xs i).f1) ∧ w.cell? ⟨(ad.add (i.toNat * 3)).block, (ad.add (i.toNat * 3)).off + 2, none⟩ = some (.bool (rd_T76 xs i).f2) := by
  obtain ⟨ad, c, e, _, hK, hc0⟩ := Kd.C_get h z76 i h0 h1
  have hc : ∀ j u, c[j]? = some u → w.cell? (ad.add (i.toNat * 3 + j)) = some u := hc0
  obtain rfl := k76_open hK
  exact ⟨ad, e, hc 0 _ rfl, by rw [← add_field _ _ 1 (by omega)]; exact hc 1 _ rfl, by rw [← add_field _ _ 2 (by omega)]; exact hc 2 _ rfl⟩

def rd_L4 (xs : List (List Int)) (i : Int) : (List Int) := xs.getD i.toNat ([] : List Int)
theorem at_L4 {w : World} {A : Option Addr} {n : Nat} {xs : List (List Int)} (h : Kd.C (Kd.slice 5 (Kd.int .u8)) w A n xs) (i : Int) (h0 : 0 ≤ i) (h1 : i < n) : ∃ ad A0 c0, A = some ad ∧ w.cell? (ad.add i.toNat) = some (.slice A0 (rd_L4 xs i).length c0) ∧ (rd_L4 xs i).length ≤ c0 ∧ (Kd.int .u8).C w A0 (rd_L4 xs i).length (rd_L4 xs i) := by
  obtain ⟨ad, c, e, _, hK, hc0⟩ := Kd.C_get h ([] : List Int) i h0 h1
  have hc : ∀ j u, c[j]? = some u → w.cell? (ad.add (i.toNat * 1 + j)) = some u := hc0
  obtain ⟨A0, c0, rfl, l0, g0⟩ := hK
  exact ⟨ad, A0, c0, e, by have hq := hc 0 _ rfl; rwa [Nat.mul_one, Nat.add_zero] at hq, l0, g0⟩

/-! #### struct type 48 -/
structure S48 where
  f0 : Int
  f1 : Int
  f2 : Bool
def z48 : S48 := ⟨(0 : Int), (0 : Int), false⟩
def k48 : Kd S48 := Kd.iso (Kd.pair (Kd.int .i64) (Kd.pair (Kd.int .i64) Kd.bool)) (fun x : S48 => (x.f0, x.f1, x.f2))
theorem k48_open {w : World} {x : S48} {cs : List Value} (h : k48.K w x cs) : cs = [.int .i64 x.f0, .int .i64 x.f1, .bool x.f2] := by
  obtain ⟨_, _, rfl, rfl, ⟨_, _, rfl, rfl, rfl⟩⟩ := h
  exact rfl
theorem k48_openM {w : World} {base : Nat} {ok : Nat → Prop} {x : S48} {cs : List Value} (h : k48.M w base ok x cs) : cs = [.int .i64 x.f0, .int .i64 x.f1, .bool x.f2] := by
  obtain ⟨_, _, rfl, rfl, ⟨_, _, rfl, rfl, rfl⟩⟩ := h
  exact rfl
theorem k48_mk (w : World) (x : S48)  : k48.K w x [.int .i64 x.f0, .int .i64 x.f1, .bool x.f2] := ⟨[.int .i64 x.f0], [.int .i64 x.f1, .bool x.f2], rfl, rfl, ⟨[.int .i64 x.f1], [.bool x.f2], rfl, rfl, rfl⟩⟩
theorem k48_mkM (w : World) (base : Nat) (ok : Nat → Prop) (x : S48)  : k48.M w base ok x [.int .i64 x.f0, .int .i64 x.f1, .bool x.f2] := ⟨[.int .i64 x.f0], [.int .i64 x.f1, .bool x.f2], rfl, rfl, ⟨[.int .i64 x.f1], [.bool x.f2], rfl, rfl, rfl⟩⟩
def rd_T48 (xs : List S48) (i : Int) : S48 := xs.getD i.toNat z48
theorem at_T48 {w : World} {A : Option Addr} {n : Nat} {xs : List S48} (h : Kd.C k48 w A n xs) (i : Int) (h0 : 0 ≤ i) (h1 : i < n) : ∃ ad , A = some ad ∧ w.cell? (ad.add (i.toNat * 3)) = some (.int .i64 (rd_T48 xs i).f0) ∧ w.cell? ⟨(ad.add (i.toNat * 3)).block, (ad.add (i.toNat * 3)).off + 1, none⟩ = some (.int .i64 (rd_T48 xs i).f1) ∧ w.cell? ⟨(ad.add (i.toNat * 3)).block, (ad.add (i.toNat * 3)).off + 2, none⟩ = some (.bool (rd_T48 xs i).f2) := by
  obtain ⟨ad, c, e, _, hK, hc0⟩ := Kd.C_get h z48 i h0 h1
  have hc : ∀ j u, c[j]? = some u → w.cell? (ad.add (i.toNat * 3 + j)) = some u := hc0
  obtain rfl := k48_open hK
  exact ⟨ad, e, hc 0 _ rfl, by rw [← add_field _ _ 1 (by omega)]; exact hc 1 _ rfl, by rw [← add_field _ _ 2 (by omega)]; exact hc 2 _ rfl⟩

/-! #### struct type 27 -/
structure S27 where
  f0 : Int
  f1 : Int
  f2 : ByteArray
def z27 : S27 := ⟨(0 : Int), (0 : Int), (⟨#[]⟩ : ByteArray)⟩
def k27 : Kd S27 := Kd.iso (Kd.pair (Kd.int .i64) (Kd.pair (Kd.int .i64) Kd.string)) (fun x : S27 => (x.f0, x.f1, x.f2))
theorem k27_open {w : World} {x : S27} {cs : List Value} (h : k27.K w x cs) : cs = [.int .i64 x.f0, .int .i64 x.f1, .string x.f2] := by
  obtain ⟨_, _, rfl, rfl, ⟨_, _, rfl, rfl, rfl⟩⟩ := h
  exact rfl
theorem k27_openM {w : World} {base : Nat} {ok : Nat → Prop} {x : S27} {cs : List Value} (h : k27.M w base ok x cs) : cs = [.int .i64 x.f0, .int .i64 x.f1, .string x.f2] := by
  obtain ⟨_, _, rfl, rfl, ⟨_, _, rfl, rfl, rfl⟩⟩ := h
  exact rfl
theorem k27_mk (w : World) (x : S27)  : k27.K w x [.int .i64 x.f0, .int .i64 x.f1, .string x.f2] := ⟨[.int .i64 x.f0], [.int .i64 x.f1, .string x.f2], rfl, rfl, ⟨[.int .i64 x.f1], [.string x.f2], rfl, rfl, rfl⟩⟩
theorem k27_mkM (w : World) (base : Nat) (ok : Nat → Prop) (x : S27)  : k27.M w base ok x [.int .i64 x.f0, .int .i64 x.f1, .string x.f2] := ⟨[.int .i64 x.f0], [.int .i64 x.f1, .string x.f2], rfl, rfl, ⟨[.int .i64 x.f1], [.string x.f2], rfl, rfl, rfl⟩⟩
def rd_T27 (xs : List S27) (i : Int) : S27 := xs.getD i.toNat z27
theorem at_T27 {w : World} {A : Option Addr} {n : Nat} {xs : List S27} (h : Kd.C k27 w A n xs) (i : Int) (h0 : 0 ≤ i) (h1 : i < n) : ∃ ad , A = some ad ∧ w.cell? (ad.add (i.toNat * 3)) = some (.int .i64 (rd_T27 xs i).f0) ∧ w.cell? ⟨(ad.add (i.toNat * 3)).block, (ad.add (i.toNat * 3)).off + 1, none⟩ = some (.int .i64 (rd_T27 xs i).f1) ∧ w.cell? ⟨(ad.add (i.toNat * 3)).block, (ad.add (i.toNat * 3)).off + 2, none⟩ = some (.string (rd_T27 xs i).f2) := by
  obtain ⟨ad, c, e, _, hK, hc0⟩ := Kd.C_get h z27 i h0 h1
  have hc : ∀ j u, c[j]? = some u → w.cell? (ad.add (i.toNat * 3 + j)) = some u := hc0
  obtain rfl := k27_open hK
  exact ⟨ad, e, hc 0 _ rfl, by rw [← add_field _ _ 1 (by omega)]; exact hc 1 _ rfl, by rw [← add_field _ _ 2 (by omega)]; exact hc 2 _ rfl⟩

def rd_L8 (xs : List (List S27)) (i : Int) : (List S27) := xs.getD i.toNat ([] : List S27)
theorem at_L8 {w : World} {A : Option Addr} {n : Nat} {xs : List (List S27)} (h : Kd.C (Kd.slice 27 k27) w A n xs) (i : Int) (h0 : 0 ≤ i) (h1 : i < n) : ∃ ad A0 c0, A = some ad ∧ w.cell? (ad.add i.toNat) = some (.slice A0 (rd_L8 xs i).length c0) ∧ (rd_L8 xs i).length ≤ c0 ∧ k27.C w A0 (rd_L8 xs i).length (rd_L8 xs i) := by
  obtain ⟨ad, c, e, _, hK, hc0⟩ := Kd.C_get h ([] : List S27) i h0 h1
  have hc : ∀ j u, c[j]? = some u → w.cell? (ad.add (i.toNat * 1 + j)) = some u := hc0
  obtain ⟨A0, c0, rfl, l0, g0⟩ := hK
  exact ⟨ad, A0, c0, e, by have hq := hc 0 _ rfl; rwa [Nat.mul_one, Nat.add_zero] at hq, l0, g0⟩


/-- Bytes: each from 0 to 255. -/
def u8s (l : List Int) : Bool := l.all fun x => decide (0 ≤ x ∧ x ≤ 255)
def cnt (c : Int) : List Int → Int
  | [] => 0
  | x :: l => (if x = c then 1 else 0) + cnt c l
def idx (c : Int) : List Int → Int
  | [] => -1
  | x :: l => if x = c then 0 else if idx c l = -1 then -1 else idx c l + 1
theorem u8_eq {x c : Int} (hx : 0 ≤ x ∧ x ≤ 255) (hc : 0 ≤ c ∧ c ≤ 255) : (UInt8.ofNat x.toNat == c.toNat.toUInt8) = decide (x = c) := by
  rw [Bool.eq_iff_iff, beq_iff_eq, decide_eq_true_iff]
  constructor
  · intro h
    have h1 := congrArg UInt8.toNat h
    rw [show c.toNat.toUInt8 = UInt8.ofNat c.toNat from rfl, UInt8.toNat_ofNat', UInt8.toNat_ofNat'] at h1
    omega
  · rintro rfl
    rfl
theorem u8s_cons {x : Int} {l : List Int} (h : u8s (x :: l) = true) : (0 ≤ x ∧ x ≤ 255) ∧ u8s l = true := by
  unfold u8s at h ⊢
  rw [List.all_cons, Bool.and_eq_true, decide_eq_true_iff] at h
  exact h
theorem cnt_eq {c : Int} (hc : 0 ≤ c ∧ c ≤ 255) : ∀ l : List Int, u8s l = true → ((Lib.countByte (Lib.bytesOf l) c.toNat.toUInt8 : Nat) : Int) = cnt c l := by
  intro l
  induction l with
  | nil => intro _; rfl
  | cons x l ih =>
    intro h
    obtain ⟨hx, hl⟩ := u8s_cons h
    have h1 := ih hl
    have h2 := u8_eq hx hc
    unfold Lib.countByte Lib.bytesOf at h1 ⊢
    rw [List.map_cons, List.count_cons, h2]
    unfold cnt
    by_cases he : x = c
    · simp only [he, decide_true, if_true]
      omega
    · simp only [he, decide_false, if_false]
      simp
      omega
theorem idx_eq {c : Int} (hc : 0 ≤ c ∧ c ≤ 255) : ∀ l : List Int, u8s l = true → Lib.indexByte (Lib.bytesOf l) c.toNat.toUInt8 = idx c l := by
  intro l
  induction l with
  | nil => intro _; rfl
  | cons x l ih =>
    intro h
    obtain ⟨hx, hl⟩ := u8s_cons h
    have h1 := ih hl
    have h2 := u8_eq hx hc
    unfold Lib.bytesOf at h1 ⊢
    rw [List.map_cons]
    unfold Lib.indexByte idx
    rw [h2, h1]
    by_cases he : x = c
    · simp [he]
    · simp [he]
theorem reads_u8 {w : World} {A : Option Addr} {l : List Int} (h : Kd.C (Kd.int .u8) w A l.length l) : l.length ≤ 9223372036854775807 ∧ (0 < l.length → ∃ ad, A = some ad ∧ ∀ j, j < l.length → w.cell? (ad.add j) = some (.int .u8 (l.getD j 0))) :=
  (Kd.reads_of_C (d := (0 : Int)) h).2
theorem read0_u8 {w : World} {A : Option Addr} {v : Int} (h : Kd.C (Kd.int .u8) w A 1 [v]) : ∃ ad, A = some ad ∧ w.cell? (ad.add 0) = some (.int .u8 v) := by
  obtain ⟨ad, e, hc⟩ := (reads_u8 (l := [v]) h).2 (by simp)
  exact ⟨ad, e, hc 0 (by simp)⟩

open Kd
section
variable {P : Program} {ops : Array Oper} {rest : List Oper} {o : Oper} {a : Act} {Q : Exit → Act → World → Prop}
/-- Bytes of a constant text, behind the conversion that marks their block: a row that is only read. -/
theorem Kd.V_conv {W : World} (e : Nat) (hgd : o.guard = none) {N : Tmp} (_hd : o.dst = some N) (xs : List Int) {cs : Array Value} (hcs : cs.toList = xs.map (Value.int .u8))
    (hrun : (execOp a.eval o).run P (W.alloc (.cells cs e)) = .ok (.value (.slice (some ⟨W.heap.size, 0, none⟩) xs.length xs.length)) (W.alloc (.cells cs e (cs.size, cs.size + 1)))) (hm : xs.length ≤ 9223372036854775807)
    (h : ∀ v1 w1, (Kd.int .u8).V e w1 W.heap.size (fun k => W.heap.size ≤ k) v1 xs → Below W.heap.size W w1 → wpList P ops Q rest (a.put o.dst v1) w1) : wpList P ops Q (o :: rest) a (W.alloc (.cells cs e)) := by
  refine event_run hgd hrun (h _ _ (V_mk (Nat.le_refl _) (fun W' hW => ?_)) (below_alloc (Below.refl _ _) _))
  have hblk : W'.heap[W.heap.size]? = some (.cells cs e (cs.size, cs.size + 1)) := by
    rw [hW _ (Nat.le_refl _) (by show W.heap.size < (W.heap.push _).size; simp)]
    show (W.heap.push _)[W.heap.size]? = _
    simp
  refine C_of_reads (d := (0 : Int)) (h1 := fun _ => rfl) ⟨rfl, hm, fun _ => ⟨_, rfl, fun j hj => ?_⟩⟩
  rw [add_plain]
  unfold World.cell?
  simp only [hblk]
  have h2 : cs[j]? = (cs.toList)[j]? := by simp
  rw [h2, hcs, List.getElem?_map, List.getElem?_eq_getElem hj, List.getD_eq_getElem?_getD, List.getElem?_eq_getElem hj]
  rfl
end

end Go.Proofs.YtcochbkdgjgaeaaDoor.X
end
section
namespace Go.Proofs.YtcochbkdgjgaeaaDoor.XO
open Go.RowKit Go.Proofs.YtcochbkdgjgaeaaDoorW.PrintWords Go.Proofs.YtcochbkdgjgaeaaDoor.X
def okS27 (x : S27) : Prop := okI64 x.f0 ∧ okI64 x.f1 ∧ okStr x.f2
def szS27 (x : S27) : Nat := (szOne x.f0 + (szOne x.f1 + szStr x.f2)) + 1
theorem opens27 : Opens Tryd.prog 27 k27 okS27 szS27 := by
  have h := opens_iso (f := fun x : S27 => (x.f0, x.f1, x.f2)) (fun a => ⟨a.1, a.2.1, a.2.2⟩) (fun _ => rfl) (opens_struct Tryd.underlying27 (by kernel_rfl) (of_cons rfl (by kernel_rfl) (opens_i64 Tryd.underlying3) (of_cons rfl (by kernel_rfl) (opens_i64 Tryd.underlying3) (of_last rfl (by kernel_rfl) (opens_str Tryd.underlying9)))))
  exact h
end Go.Proofs.YtcochbkdgjgaeaaDoor.XO
end
section
namespace Go.Proofs.YtcochbkdgjgaeaaDoor.XL
open Go.RowKit Go.Proofs.YtcochbkdgjgaeaaDoorW.PrintWords Go.Proofs.YtcochbkdgjgaeaaDoorW.PrintMore

section
variable {α β : Type}
theorem Ev.pos {c : Prop} [Decidable c] {g f : Nat → Option α} {r : α} (h : c) (k : Ev g r) : Ev (fun n => if c then g n else f n) r := by
  simpa only [if_pos h] using k
theorem Ev.neg {c : Prop} [Decidable c] {g f : Nat → Option α} {r : α} (h : ¬ c) (k : Ev f r) : Ev (fun n => if c then g n else f n) r := by
  simpa only [if_neg h] using k
theorem Ev.ite {c : Prop} [Decidable c] {g f : Nat → Option α} {r : α} (h1 : c → Ev g r) (h2 : ¬ c → Ev f r) : Ev (fun n => if c then g n else f n) r := by
  by_cases h : c
  · exact Ev.pos h (h1 h)
  · exact Ev.neg h (h2 h)
theorem Ev.const {x : Option α} {r : α} (h : x = some r) : Ev (fun _ => x) r := ⟨0, fun _ _ => h⟩
theorem Ev.eq {g : Nat → Option α} {r r' : α} (h : Ev g r) (e : r = r') : Ev g r' := e ▸ h
theorem Ev.cbind {x : Option α} {f : Nat → α → Option β} {a : α} {r : β} (h : x = some a) (k : Ev (fun n => f n a) r) : Ev (fun n => x.bind (f n)) r := by
  subst h
  exact k
theorem Ev.done {g : Nat → Option α} {a : α} {f : α → β} {r : β} (h : Ev g a) (e : f a = r) : Ev (fun n => (g n).bind fun x => some (f x)) r := by
  subst e
  exact Ev.bind h (Ev.now _)
end
theorem wrap64_id {n : Int} (h1 : -9223372036854775808 ≤ n) (h2 : n ≤ 9223372036854775807) : wrap64 n = n := by
  unfold wrap64
  omega
theorem getD_mid {α : Type} (pre suf : List α) (s d : α) : (pre ++ s :: suf).getD pre.length d = s := by
  rw [List.getD_eq_getElem?_getD, List.getElem?_append_right (Nat.le_refl _), Nat.sub_self]
  rfl
end Go.Proofs.YtcochbkdgjgaeaaDoor.XL
end
section
-- Written by wip/xprint.py over the kit's print.py: the Lean function of each Go function, and the proof that the Go text comes to it.
namespace Go.Proofs.YtcochbkdgjgaeaaDoor.X
open Go.RowKit Go.Proofs.YtcochbkdgjgaeaaDoorW.PrintWords Go.Proofs.YtcochbkdgjgaeaaDoorW.PrintLast Go.Proofs.YtcochbkdgjgaeaaDoorW.PrintMore
attribute [local go_sem] max2_int min2_int max_two min_two max_three min_three max_four min_four   -- for this text's walks alone
set_option linter.unusedVariables false
set_option linter.unusedSimpArgs false

/-! ### lines_has: function 42 -/
def lines_has.f (l0 : List Int) (a1 : Int) : Option (Bool) := if a1 ≥ 0 then (some (decide (a1 ≤ (l0.length : Int)))) else (some false)
set_option maxHeartbeats 8000000 in
set_option maxRecDepth 100000 in
theorem lines_has.calls (A0 : Option Addr) (c0 : Nat) (l0 : List Int) (a1 : Int) (r : Bool) (w : World) (hr0 : Kd.C (Kd.int .u8) w A0 l0.length l0) (hc0 : l0.length ≤ c0) (h : lines_has.f l0 a1 = some r) :
    Calls Tryd.prog 42 #[.slice A0 l0.length c0, .int .i64 a1] w fun e w' => e = .returned (.bool r) ∧ Drawn0 w w' := by
  have HR0 := Aside0.mk hr0
  have HC0 := Aside0.mk hc0
  clear hr0 hc0
  have H : (if a1 ≥ 0 then (some (decide (a1 ≤ (l0.length : Int)))) else (some false)) = some r := h
  clear h
  by_cases c3 : a1 ≥ 0
  · rw [if_pos c3] at H
    have c3b0 : decide (0 ≤ a1) = true := decide_eq_true c3
    clear c3
    obtain rfl := Option.some.inj H
    go_enter Tryd.func42, Tryd.ntmps42
    go_wp2
    go_ret
    exact ⟨by first | rfl | (simp; done) | (simp [*]; done), by repeat (first | exact Drawn0.refl _ | apply Drawn0.step)⟩
  · rw [if_neg c3] at H
    have c3b0 : decide (0 ≤ a1) = false := decide_eq_false c3
    clear c3
    obtain rfl := Option.some.inj H
    go_enter Tryd.func42, Tryd.ntmps42
    go_wp2
    go_ret
    exact ⟨by first | rfl | (simp; done) | (simp [*]; done), by repeat (first | exact Drawn0.refl _ | apply Drawn0.step)⟩

end Go.Proofs.YtcochbkdgjgaeaaDoor.X
end
section
-- Written by wip/xprint.py over the kit's print.py: the Lean function of each Go function, and the proof that the Go text comes to it.
namespace Go.Proofs.YtcochbkdgjgaeaaDoor.X
open Go.RowKit Go.Proofs.YtcochbkdgjgaeaaDoorW.PrintWords Go.Proofs.YtcochbkdgjgaeaaDoorW.PrintLast Go.Proofs.YtcochbkdgjgaeaaDoorW.PrintMore
attribute [local go_sem] max2_int min2_int max_two min_two max_three min_three max_four min_four   -- for this text's walks alone
set_option linter.unusedVariables false
set_option linter.unusedSimpArgs false

/-! ### bytes_Count: function 43, by hand -/
def bytes_Count.f (l0 : List Int) (l1 : List Int) : Option (Int) := if (u8s l0 && u8s l1) = true then (if l1.length = 1 then some (cnt (rd l1 0) l0) else none) else none
set_option maxHeartbeats 2000000 in
set_option maxRecDepth 1000000 in
theorem bytes_Count.calls (A0 : Option Addr) (c0 : Nat) (l0 : List Int) (A1 : Option Addr) (c1 : Nat) (l1 : List Int) (r : Int) (w : World) (hr0 : Kd.C (Kd.int .u8) w A0 l0.length l0) (hc0 : l0.length ≤ c0) (hr1 : Kd.C (Kd.int .u8) w A1 l1.length l1) (hc1 : l1.length ≤ c1) (h : bytes_Count.f l0 l1 = some r) :
    Calls Tryd.prog 43 #[.slice A0 l0.length c0, .slice A1 l1.length c1] w fun e w' => e = .returned (.int .i64 r) ∧ Drawn0 w w' := by
  unfold bytes_Count.f at h
  by_cases hu : (u8s l0 && u8s l1) = true
  case neg => rw [if_neg hu] at h; cases h
  rw [if_pos hu] at h
  by_cases hl : l1.length = 1
  case neg => rw [if_neg hl] at h; cases h
  rw [if_pos hl] at h
  obtain rfl := Option.some.inj h
  obtain ⟨v, rfl⟩ : ∃ v, l1 = [v] := by
    match l1, hl with
    | [v], _ => exact ⟨v, rfl⟩
  rw [Bool.and_eq_true] at hu
  have hv := (u8s_cons hu.2).1
  have hcnt := cnt_eq hv l0 hu.1
  have hrd : rd [v] 0 = v := rfl
  rw [hrd, ← hcnt]
  obtain ⟨ad, rfl, hcell⟩ := read0_u8 hr1
  have hcell2 : w.cell? ad = some (.int .u8 v) := by rw [Addr.add_zero'] at hcell; exact hcell
  obtain ⟨hb0, hA⟩ := reads_u8 hr0
  have hrun : (Extern.BytealgCount.count #[.slice A0 l0.length c0, .int .u8 v]).run Tryd.prog w = .ok (.int .i64 (Lib.countByte (Lib.bytesOf l0) v.toNat.toUInt8)) w := by
    cases A0 with
    | none =>
      have h0 : l0 = [] := by
        cases l0 with
        | nil => rfl
        | cons x l => obtain ⟨_, h1, _⟩ := hA (by simp); cases h1
      subst h0
      exact Lib.run_countNil w _ _ v
    | some a =>
      refine Lib.run_countAt w a _ _ l0 rfl (fun i hi => ?_) v
      obtain ⟨a', h1, h2⟩ := hA (by omega)
      obtain rfl := Option.some.inj h1
      exact h2 i hi
  have HA := Aside0.mk hA
  have HR := Aside0.mk hrun
  clear hA hrun hcnt hrd hr0 hr1 hu h
  go_enter Tryd.func43, Tryd.ntmps43
  go_wp2
  rw [run_callFunc_extern Tryd.func55 (by kernel_rfl) (by kernel_rfl) (by kernel_rfl) (e := Extern.BytealgCount.count) (by kernel_rfl), HR.out]
  simp only [Result.andThen]
  rw [Oper.upon_value]
  go_wp2
  go_ret
  exact ⟨rfl, Drawn0.refl _⟩

end Go.Proofs.YtcochbkdgjgaeaaDoor.X
end
section
-- Written by wip/xprint.py over the kit's print.py: the Lean function of each Go function, and the proof that the Go text comes to it.
namespace Go.Proofs.YtcochbkdgjgaeaaDoor.X
open Go.RowKit Go.Proofs.YtcochbkdgjgaeaaDoorW.PrintWords Go.Proofs.YtcochbkdgjgaeaaDoorW.PrintLast Go.Proofs.YtcochbkdgjgaeaaDoorW.PrintMore
attribute [local go_sem] max2_int min2_int max_two min_two max_three min_three max_four min_four   -- for this text's walks alone
set_option linter.unusedVariables false
set_option linter.unusedSimpArgs false

/-! ### lines_Of: function 26 -/
def lines_Of.f (l0 : List Int) (a1 : Int) : Option (Int × Int) := (lines_has.f l0 a1).bind fun t101 => (if t101 = true then (if 0 ≤ a1 then (if a1 ≤ (l0.length : Int) then ((bytes_Count.f (l0.take (a1 : Int).toNat) (([10] : List Int))).bind fun t106 => (some (t106, 0))) else (none)) else (none)) else (some (0, 2)))
set_option maxHeartbeats 8000000 in
set_option maxRecDepth 100000 in
theorem lines_Of.calls (A0 : Option Addr) (c0 : Nat) (l0 : List Int) (a1 : Int) (r1 : Int) (r2 : Int) (w : World) (hr0 : Kd.C (Kd.int .u8) w A0 l0.length l0) (hc0 : l0.length ≤ c0) (h : lines_Of.f l0 a1 = some (r1, r2)) :
    Calls Tryd.prog 26 #[.slice A0 l0.length c0, .int .i64 a1] w fun e w' => e = .returned (.tuple #[.int .i64 r1, .int .i64 r2]) ∧ Below w.heap.size w w' := by
  have HR0 := Aside0.mk hr0
  have HC0 := Aside0.mk hc0
  clear hr0 hc0
  have HB := Aside0.mk (Below.refl w.heap.size w)
  have H : ((lines_has.f l0 a1).bind fun t101 => (if t101 = true then (if 0 ≤ a1 then (if a1 ≤ (l0.length : Int) then ((bytes_Count.f (l0.take (a1 : Int).toNat) (([10] : List Int))).bind fun t106 => (some (t106, 0))) else (none)) else (none)) else (some (0, 2)))) = some (r1, r2) := h
  clear h
  replace H := Option.bind_eq_some_iff.mp H
  obtain ⟨t101, A30, H⟩ := H
  replace H : (if t101 = true then (if 0 ≤ a1 then (if a1 ≤ (l0.length : Int) then ((bytes_Count.f (l0.take (a1 : Int).toNat) (([10] : List Int))).bind fun t106 => (some (t106, 0))) else (none)) else (none)) else (some (0, 2))) = some (r1, r2) := H
  have A3 := Aside0.mk A30
  clear A30
  by_cases c4 : t101 = true
  · subst c4
    have H1 : (if 0 ≤ a1 then (if a1 ≤ (l0.length : Int) then ((bytes_Count.f (l0.take (a1 : Int).toNat) (([10] : List Int))).bind fun t106 => (some (t106, 0))) else (none)) else (none)) = some (r1, r2) := by rw [if_pos rfl] at H; exact H
    clear H
    have H := H1
    clear H1
    by_cases c5 : 0 ≤ a1
    · rw [if_pos c5] at H
      have c5b0 := eq_true c5
      have c5b1 : decide (0 ≤ a1) = true := decide_eq_true c5
      clear c5
      by_cases c6 : a1 ≤ (l0.length : Int)
      · rw [if_pos c6] at H
        have c6b0 := eq_true c6
        have c6b1 : decide (a1 ≤ (l0.length : Int)) = true := decide_eq_true c6
        clear c6
        obtain ⟨y103, hy103⟩ : ∃ y_ : List Int, y_ = (([10] : List Int)) := ⟨_, rfl⟩
        replace H : ((bytes_Count.f (l0.take (a1 : Int).toNat) y103).bind fun t106 => (some (t106, 0))) = some (r1, r2) := by first | (rw [hy103]; with_reducible exact H) | (have H2_ := (Option.bind_some _ _).symm.trans H; rw [hy103]; with_reducible exact H2_) | (have H2_ := (Option.bind_some _ _).symm.trans H; with_reducible exact H2_) | with_reducible exact H | (rw [hy103]; exact H) | exact H
        have Ny103 := Aside0.mk hy103
        clear hy103
        replace H := Option.bind_eq_some_iff.mp H
        obtain ⟨t106, A70, H⟩ := H
        replace H : (some (t106, 0)) = some (r1, r2) := H
        have A7 := Aside0.mk A70
        clear A70
        simp only [Option.some.injEq, Prod.mk.injEq] at H
        obtain ⟨rfl, rfl⟩ := H
        go_enter Tryd.func26, Tryd.ntmps26
        go_wp2_with (first | ((with_reducible refine gate_callee (f := 42) rfl ?_); refine goesL_ (some 8) rfl rfl Tryd.func42 (by kernel_rfl) rfl #[.slice A0 l0.length c0, .int .i64 a1] rfl (by (try simp only [List.map_toArray, List.map_cons, List.map_nil]); first | done | rfl | (simp only [List.length_drop, List.length_take]; rfl)) ?_; (with_reducible refine (lines_has.calls _ _ l0 a1 true _ ?side1 ?side2 A3.out).mono ?_); (case side1 => repeat (first | exact HR0.out | (with_reducible refine Kd.C_alloc ?_ _) | (with_reducible refine Kd.C_drewN ?_ _) | (with_reducible refine Kd.C_drew ?_))); (case side2 => exact HC0.out); rintro e w' ⟨rfl, ⟨nd, rfl⟩⟩; refine ⟨_, rfl, ?_⟩; obtain ⟨i08, hi08, _, hsz8, _⟩ := info_parts info5; obtain ⟨hcut8, hA8, hC8⟩ := print_take_of (P := Tryd.prog) (Value.int .u8) 0 22 5 .i64 Tryd.underlying22 hi08 hsz8 A0 c0 l0 a1 (of_decide_eq_true (by first | (with_reducible assumption) | assumption)) (of_decide_eq_true (by first | (with_reducible assumption) | assumption)) HC0.out; have HR102 := Aside0.mk (Kd.C_of_reads (h1 := fun _ => rfl) (hA8 _ (Kd.reads_of_C HR0.out))); have HC102 := Aside0.mk hC8; clear hA8 hC8 hi08 hsz8) | ((with_reducible refine gate_dst (N := 13) rfl ?_); refine Kd.R_lit (Kd.int .u8) _ 5 ?hg (N := 13) ?hd (xs := ([10] : List Int)) (inner := [.int .u8 10]) (ok := fun _ => True) (okp := fun _ => True) ?hr ?hp (fun _ hk => hk) trivial (Below.refl _ _) (Nat.le_refl _) (by simp) ?_; (case hd => rfl); (case hg => rfl); (case hr => first | (go_simp; done) | (go_simp; rfl)); (case hp => exact (Reps.one (show Kd.M (Kd.int .u8) _ _ _ 10 [.int .u8 10] from rfl) (Reps.none _ _))); intro v104 w9 ho10 hb hg_ hnew_; clear hg_ hnew_; (first | rw [← Ny103.out] at ho10 | (simp only [Int.reduceToNat] at ho10; rw [← Ny103.out] at ho10)); have n0_ := Aside0.mk (Kd.R_lower ho10 (below_size (by repeat (first | (with_reducible first | exact HB.out | apply below_alloc | apply pw_below_drewN | apply below_drew1) | exact HB.out)))); have n1_ := Aside0.mk (below_step (by repeat (first | (with_reducible first | exact HB.out | apply below_alloc | apply pw_below_drewN | apply below_drew1) | exact HB.out)) hb); clear HB; have HO105 := n0_; have HB := n1_; clear n0_ n1_; clear hb ho10; obtain ⟨Ao11, co11, eo11⟩ := Kd.R_slice HO105.out; subst eo11) | ((with_reducible refine gate_callee (f := 43) rfl ?_); refine goesL_ (some 14) rfl rfl Tryd.func43 (by kernel_rfl) rfl #[.slice A0 (l0.take (a1 : Int).toNat).length c0, .slice Ao11 y103.length co11] rfl (by (try simp only [List.map_toArray, List.map_cons, List.map_nil]); first | done | (rw [show (l0.take (a1 : Int).toNat).length = a1.toNat from (by rw [List.length_take]; have h_ : (a1 : Int) ≤ (l0.length : Int) := of_decide_eq_true (by first | (with_reducible assumption) | assumption); omega)] <;> rfl) | rfl | (simp only [List.length_drop, List.length_take]; rfl)) ?_; (with_reducible refine (bytes_Count.calls _ _ (l0.take (a1 : Int).toNat) _ _ y103 t106 _ ?side1 ?side2 ?side3 ?side4 A7.out).mono ?_); (case side1 => repeat (first | exact (Kd.C_below HR102.out HB.out) | (with_reducible refine Kd.C_alloc ?_ _) | (with_reducible refine Kd.C_drewN ?_ _) | (with_reducible refine Kd.C_drew ?_))); (case side2 => exact HC102.out); (case side3 => repeat (first | exact (Kd.R_reads' HO105.out).2.2 | (with_reducible refine Kd.C_alloc ?_ _) | (with_reducible refine Kd.C_drewN ?_ _) | (with_reducible refine Kd.C_drew ?_))); (case side4 => exact (Kd.R_reads' HO105.out).2.1); rintro e w' ⟨rfl, ⟨nd, rfl⟩⟩; refine ⟨_, rfl, ?_⟩))
        go_ret2
        exact ⟨by first | rfl | (simp [errW_none, errW_some] <;> rfl) | (simp [*, errW_none, errW_some] <;> rfl), by repeat (first | (with_reducible first | exact HB.out | apply below_alloc | apply pw_below_drewN | apply below_drew1) | exact HB.out)⟩
      · rw [if_neg c6] at H
        exact absurd H (by simp)
    · rw [if_neg c5] at H
      exact absurd H (by simp)
  · replace c4 := Bool.eq_false_iff.mpr c4
    subst c4
    have H1 : (some (0, 2)) = some (r1, r2) := by rw [if_neg (show ¬ (false = true) by decide)] at H; exact H
    clear H
    have H := H1
    clear H1
    simp only [Option.some.injEq, Prod.mk.injEq] at H
    obtain ⟨rfl, rfl⟩ := H
    go_enter Tryd.func26, Tryd.ntmps26
    go_wp2_with (first | ((with_reducible refine gate_callee (f := 42) rfl ?_); refine goesL_ (some 8) rfl rfl Tryd.func42 (by kernel_rfl) rfl #[.slice A0 l0.length c0, .int .i64 a1] rfl (by (try simp only [List.map_toArray, List.map_cons, List.map_nil]); first | done | rfl | (simp only [List.length_drop, List.length_take]; rfl)) ?_; (with_reducible refine (lines_has.calls _ _ l0 a1 false _ ?side1 ?side2 A3.out).mono ?_); (case side1 => repeat (first | exact HR0.out | (with_reducible refine Kd.C_alloc ?_ _) | (with_reducible refine Kd.C_drewN ?_ _) | (with_reducible refine Kd.C_drew ?_))); (case side2 => exact HC0.out); rintro e w' ⟨rfl, ⟨nd, rfl⟩⟩; refine ⟨_, rfl, ?_⟩))
    go_ret2
    exact ⟨by first | rfl | (simp [errW_none, errW_some] <;> rfl) | (simp [*, errW_none, errW_some] <;> rfl), by repeat (first | (with_reducible first | exact HB.out | apply below_alloc | apply pw_below_drewN | apply below_drew1) | exact HB.out)⟩

end Go.Proofs.YtcochbkdgjgaeaaDoor.X
end
section
-- Written by wip/xprint.py over the kit's print.py: the Lean function of each Go function, and the proof that the Go text comes to it.
namespace Go.Proofs.YtcochbkdgjgaeaaDoor.X
open Go.RowKit Go.Proofs.YtcochbkdgjgaeaaDoorW.PrintWords Go.Proofs.YtcochbkdgjgaeaaDoorW.PrintLast Go.Proofs.YtcochbkdgjgaeaaDoorW.PrintMore
attribute [local go_sem] max2_int min2_int max_two min_two max_three min_three max_four min_four   -- for this text's walks alone
set_option linter.unusedVariables false
set_option linter.unusedSimpArgs false

/-! ### bytes_IndexByte: function 57, by hand -/
def bytes_IndexByte.f (l0 : List Int) (a1 : Int) : Option (Int) := if (u8s l0 && decide (0 ≤ a1 ∧ a1 ≤ 255)) = true then some (idx a1 l0) else none
set_option maxHeartbeats 2000000 in
set_option maxRecDepth 1000000 in
theorem bytes_IndexByte.calls (A0 : Option Addr) (c0 : Nat) (l0 : List Int) (a1 : Int) (r : Int) (w : World) (hr0 : Kd.C (Kd.int .u8) w A0 l0.length l0) (hc0 : l0.length ≤ c0) (h : bytes_IndexByte.f l0 a1 = some r) :
    Calls Tryd.prog 57 #[.slice A0 l0.length c0, .int .u8 a1] w fun e w' => e = .returned (.int .i64 r) ∧ Drawn0 w w' := by
  unfold bytes_IndexByte.f at h
  by_cases hu : (u8s l0 && decide (0 ≤ a1 ∧ a1 ≤ 255)) = true
  case neg => rw [if_neg hu] at h; cases h
  rw [if_pos hu] at h
  obtain rfl := Option.some.inj h
  rw [Bool.and_eq_true, decide_eq_true_iff] at hu
  have hidx := idx_eq hu.2 l0 hu.1
  rw [← hidx]
  obtain ⟨hb0, hA⟩ := reads_u8 hr0
  have hrun : (Extern.BytealgIndexByte.indexByte #[.slice A0 l0.length c0, .int .u8 a1]).run Tryd.prog w = .ok (.int .i64 (Lib.indexByte (Lib.bytesOf l0) a1.toNat.toUInt8)) w := by
    cases A0 with
    | none =>
      have h0 : l0 = [] := by
        cases l0 with
        | nil => rfl
        | cons x l => obtain ⟨_, h1, _⟩ := hA (by simp); cases h1
      subst h0
      exact Lib.run_indexByteNil w _ _ a1
    | some a =>
      refine Lib.run_indexByteAt w a _ _ l0 rfl (fun i hi => ?_) a1
      obtain ⟨a', h1, h2⟩ := hA (by omega)
      obtain rfl := Option.some.inj h1
      exact h2 i hi
  have HR := Aside0.mk hrun
  clear hA hrun hidx hr0 hu h
  go_enter Tryd.func57, Tryd.ntmps57
  go_wp2
  rw [run_callFunc_extern Tryd.func67 (by kernel_rfl) (by kernel_rfl) (by kernel_rfl) (e := Extern.BytealgIndexByte.indexByte) (by kernel_rfl), HR.out]
  simp only [Result.andThen]
  rw [Oper.upon_value]
  go_wp2
  go_ret
  exact ⟨rfl, Drawn0.refl _⟩

end Go.Proofs.YtcochbkdgjgaeaaDoor.X
end
section
-- Written by wip/xprint.py over the kit's print.py: the Lean function of each Go function, and the proof that the Go text comes to it.
namespace Go.Proofs.YtcochbkdgjgaeaaDoor.X
open Go.RowKit Go.Proofs.YtcochbkdgjgaeaaDoorW.PrintWords Go.Proofs.YtcochbkdgjgaeaaDoorW.PrintLast Go.Proofs.YtcochbkdgjgaeaaDoorW.PrintMore
attribute [local go_sem] max2_int min2_int max_two min_two max_three min_three max_four min_four   -- for this text's walks alone
set_option linter.unusedVariables false
set_option linter.unusedSimpArgs false

/-! ### lines_Start: function 44 -/
def lines_Start.l0 : Nat → List Int → Int → Int → Option (Int × Int)
  | 0, _, _, _ => none
  | k + 1, x0, x1, x6 => if x1 > 0 then (if 0 ≤ x6 then (if x6 ≤ (x0.length : Int) then ((bytes_IndexByte.f (x0.drop (x6 : Int).toNat) 10).bind fun t110 => (if t110 < 0 then (some (0, 2)) else (lines_Start.l0 k x0 (wrap64 (x1 - 1)) (wrap64 (x6 + (wrap64 (t110 + 1))))))) else (none)) else (none)) else (some (x6, 0))
def lines_Start.f (k : Nat) (l0 : List Int) (a1 : Int) : Option (Int × Int) := if a1 < 0 then (some (0, 2)) else (lines_Start.l0 k l0 a1 0)
theorem lines_Start.mono_l : ∀ k, (∀ y0 y1 y2, LeO (lines_Start.l0 k y0 y1 y2) (lines_Start.l0 (k + 1) y0 y1 y2))
  | 0 => fun _ _ _ r h => by simp [lines_Start.l0] at h
  | k + 1 => by
    have ih0 := lines_Start.mono_l k
    · intro y0 y1 y2
      unfold lines_Start.l0
      repeat' first
      | (with_reducible exact ih0 _ _ _)
      | (with_reducible exact LeO.refl _)
      | (with_reducible exact LeO.none _)
      | (with_reducible refine LeO.ite ?_ ?_)
      | (with_reducible refine LeO.bind ?_ (fun _ => ?_))
      | exact ih0 _ _ _
      | exact LeO.none _
      | refine LeO.ite ?_ ?_
      | refine LeO.bind ?_ (fun _ => ?_)
theorem lines_Start.mono : ∀ a0 a1 k, LeO (lines_Start.f k a0 a1) (lines_Start.f (k + 1) a0 a1) := by
  intro a0 a1 k
  have ih0 := lines_Start.mono_l k
  unfold lines_Start.f
  repeat' first
      | (with_reducible exact ih0 _ _ _)
      | (with_reducible exact LeO.refl _)
      | (with_reducible exact LeO.none _)
      | (with_reducible refine LeO.ite ?_ ?_)
      | (with_reducible refine LeO.bind ?_ (fun _ => ?_))
      | exact ih0 _ _ _
      | exact LeO.none _
      | refine LeO.ite ?_ ?_
      | refine LeO.bind ?_ (fun _ => ?_)
set_option maxHeartbeats 8000000 in
set_option maxRecDepth 100000 in
theorem lines_Start.calls (k : Nat) (A0 : Option Addr) (c0 : Nat) (l0 : List Int) (a1 : Int) (r1 : Int) (r2 : Int) (w : World) (hr0 : Kd.C (Kd.int .u8) w A0 l0.length l0) (hc0 : l0.length ≤ c0) (h : lines_Start.f k l0 a1 = some (r1, r2)) :
    Calls Tryd.prog 44 #[.slice A0 l0.length c0, .int .i64 a1] w fun e w' => e = .returned (.tuple #[.int .i64 r1, .int .i64 r2]) ∧ Drawn0 w w' := by
  have HR0 := Aside0.mk hr0
  have HC0 := Aside0.mk hc0
  clear hr0 hc0
  have H : (if a1 < 0 then (some (0, 2)) else (lines_Start.l0 k l0 a1 0)) = some (r1, r2) := h
  clear h
  by_cases c3 : a1 < 0
  · rw [if_pos c3] at H
    have c3b0 : decide (a1 < 0) = true := decide_eq_true c3
    clear c3
    simp only [Option.some.injEq, Prod.mk.injEq] at H
    obtain ⟨rfl, rfl⟩ := H
    go_enter Tryd.func44, Tryd.ntmps44
    go_wp2
    go_ret2
    exact ⟨by first | rfl | (simp; done) | (simp [*]; done), by repeat (first | exact Drawn0.refl _ | apply Drawn0.step)⟩
  · rw [if_neg c3] at H
    have c3b0 : decide (a1 < 0) = false := decide_eq_false c3
    clear c3
    have H' := Aside0.mk H
    clear H
    go_enter Tryd.func44, Tryd.ntmps44
    go_wp2
    go_loopg [1, 6] k (fun kq v1 v6 w' => ∃ (x1_1 : Int) (x6_1 : Int), v1 = .int .i64 x1_1 ∧ v6 = .int .i64 x6_1 ∧ Aside0 (lines_Start.l0 kq l0 x1_1 x6_1 = some (r1, r2)) ∧ Aside0 (kq ≤ k) ∧ Drawn0 w w')
    case atStart => exact ⟨(a1), (0), (by first | rfl | (simp; done) | (simp [*]; done)), (by first | rfl | (simp; done) | (simp [*]; done)), H', ⟨Nat.le_refl _⟩, by repeat (first | exact Drawn0.refl _ | apply Drawn0.step)⟩
    case round =>
      clear H'
      try clear p2
      try clear c3
      try clear c3b0
      obtain ⟨x1_1, x6_1, rfl, rfl, HA, HK1, ⟨m1, rfl⟩⟩ := hrel
      cases gk with
      | zero => exact absurd HA.out (by simp [lines_Start.l0])
      | succ k1 =>
        have H := HA.out
        clear HA
        simp only [lines_Start.l0] at H
        by_cases c4 : x1_1 > 0
        · rw [if_pos c4] at H
          have c4b0 : decide (0 < x1_1) = true := decide_eq_true c4
          clear c4
          by_cases c5 : 0 ≤ x6_1
          · rw [if_pos c5] at H
            have c5b0 := eq_true c5
            have c5b1 : decide (0 ≤ x6_1) = true := decide_eq_true c5
            clear c5
            by_cases c6 : x6_1 ≤ (l0.length : Int)
            · rw [if_pos c6] at H
              have c6b0 := eq_true c6
              have c6b1 : decide (x6_1 ≤ (l0.length : Int)) = true := decide_eq_true c6
              clear c6
              replace H := Option.bind_eq_some_iff.mp H
              obtain ⟨t110, A70, H⟩ := H
              replace H : (if t110 < 0 then (some (0, 2)) else (lines_Start.l0 k1 l0 (wrap64 (x1_1 - 1)) (wrap64 (x6_1 + (wrap64 (t110 + 1)))))) = some (r1, r2) := H
              have A7 := Aside0.mk A70
              clear A70
              by_cases c8 : t110 < 0
              · rw [if_pos c8] at H
                have c8b0 : decide (t110 < 0) = true := decide_eq_true c8
                clear c8
                simp only [Option.some.injEq, Prod.mk.injEq] at H
                obtain ⟨rfl, rfl⟩ := H
                obtain ⟨i09, hi09, _, hsz9, _⟩ := info_parts info5
                obtain ⟨A9, hcut9, hA9, hC9⟩ := print_drop_of (P := Tryd.prog) (Value.int .u8) 0 22 5 .i64 Tryd.underlying22 hi09 hsz9 A0 c0 l0 x6_1 (of_decide_eq_true (by first | (with_reducible assumption) | assumption)) (of_decide_eq_true (by first | (with_reducible assumption) | assumption)) HC0.out
                have HR109 := Aside0.mk (Kd.C_of_reads (h1 := fun _ => rfl) (hA9 _ (Kd.reads_of_C HR0.out)))
                have HC109 := Aside0.mk hC9
                clear hA9 hC9 hi09 hsz9
                go_wp2_with (first | ((with_reducible refine gate_callee (f := 57) rfl ?_); refine goesL_ (some 17) rfl rfl Tryd.func57 (by kernel_rfl) rfl #[.slice A9 (l0.drop (x6_1 : Int).toNat).length (c0 - x6_1.toNat), .int .u8 10] rfl (by (try simp only [List.map_toArray, List.map_cons, List.map_nil]); first | done | (rw [show (l0.drop (x6_1 : Int).toNat).length = (l0.length - x6_1.toNat) from List.length_drop] <;> rfl) | rfl | (simp only [List.length_drop, List.length_take]; rfl)) ?_; (with_reducible refine (bytes_IndexByte.calls _ _ (l0.drop (x6_1 : Int).toNat) 10 t110 _ ?side1 ?side2 A7.out).mono ?_); (case side1 => repeat (first | exact HR109.out | (with_reducible refine Kd.C_alloc ?_ _) | (with_reducible refine Kd.C_drewN ?_ _) | (with_reducible refine Kd.C_drew ?_))); (case side2 => exact HC109.out); rintro e w' ⟨rfl, ⟨nd, rfl⟩⟩; refine ⟨_, rfl, ?_⟩))
                go_ret2
                exact ⟨by first | rfl | (simp; done) | (simp [*]; done), by repeat (first | exact Drawn0.refl _ | apply Drawn0.step)⟩
              · rw [if_neg c8] at H
                have c8b0 : decide (t110 < 0) = false := decide_eq_false c8
                clear c8
                have H' := Aside0.mk H
                clear H
                obtain ⟨i010, hi010, _, hsz10, _⟩ := info_parts info5
                obtain ⟨A10, hcut10, hA10, hC10⟩ := print_drop_of (P := Tryd.prog) (Value.int .u8) 0 22 5 .i64 Tryd.underlying22 hi010 hsz10 A0 c0 l0 x6_1 (of_decide_eq_true (by first | (with_reducible assumption) | assumption)) (of_decide_eq_true (by first | (with_reducible assumption) | assumption)) HC0.out
                have HR109 := Aside0.mk (Kd.C_of_reads (h1 := fun _ => rfl) (hA10 _ (Kd.reads_of_C HR0.out)))
                have HC109 := Aside0.mk hC10
                clear hA10 hC10 hi010 hsz10
                go_wp2_with (first | ((with_reducible refine gate_callee (f := 57) rfl ?_); refine goesL_ (some 17) rfl rfl Tryd.func57 (by kernel_rfl) rfl #[.slice A10 (l0.drop (x6_1 : Int).toNat).length (c0 - x6_1.toNat), .int .u8 10] rfl (by (try simp only [List.map_toArray, List.map_cons, List.map_nil]); first | done | (rw [show (l0.drop (x6_1 : Int).toNat).length = (l0.length - x6_1.toNat) from List.length_drop] <;> rfl) | rfl | (simp only [List.length_drop, List.length_take]; rfl)) ?_; (with_reducible refine (bytes_IndexByte.calls _ _ (l0.drop (x6_1 : Int).toNat) 10 t110 _ ?side1 ?side2 A7.out).mono ?_); (case side1 => repeat (first | exact HR109.out | (with_reducible refine Kd.C_alloc ?_ _) | (with_reducible refine Kd.C_drewN ?_ _) | (with_reducible refine Kd.C_drew ?_))); (case side2 => exact HC109.out); rintro e w' ⟨rfl, ⟨nd, rfl⟩⟩; refine ⟨_, rfl, ?_⟩))
                go_roundg k1
                case measure => have := HK1.out; omega
                case rel => exact ⟨(wrap64 (x1_1 - 1)), (wrap64 (x6_1 + (wrap64 (t110 + 1)))), (by first | rfl | (simp; done) | (simp [*]; done)), (by first | rfl | (simp; done) | (simp [*]; done)), H', ⟨by have := HK1.out; omega⟩, by repeat (first | exact Drawn0.refl _ | apply Drawn0.step)⟩
            · rw [if_neg c6] at H
              exact absurd H (by simp)
          · rw [if_neg c5] at H
            exact absurd H (by simp)
        · rw [if_neg c4] at H
          have c4b0 : decide (0 < x1_1) = false := decide_eq_false c4
          clear c4
          simp only [Option.some.injEq, Prod.mk.injEq] at H
          obtain ⟨rfl, rfl⟩ := H
          go_wp2
          go_ret2
          exact ⟨by first | rfl | (simp; done) | (simp [*]; done), by repeat (first | exact Drawn0.refl _ | apply Drawn0.step)⟩

end Go.Proofs.YtcochbkdgjgaeaaDoor.X
end
section
-- Written by wip/xprint.py over the kit's print.py: the Lean function of each Go function, and the proof that the Go text comes to it.
namespace Go.Proofs.YtcochbkdgjgaeaaDoor.X
open Go.RowKit Go.Proofs.YtcochbkdgjgaeaaDoorW.PrintWords Go.Proofs.YtcochbkdgjgaeaaDoorW.PrintLast Go.Proofs.YtcochbkdgjgaeaaDoorW.PrintMore
attribute [local go_sem] max2_int min2_int max_two min_two max_three min_three max_four min_four   -- for this text's walks alone
set_option linter.unusedVariables false
set_option linter.unusedSimpArgs false

/-! ### lines_tail: function 58 -/
def lines_tail.f (l0 : List Int) (a1 : Int) : Option (Int) := if 0 ≤ a1 then (if a1 ≤ (l0.length : Int) then ((bytes_IndexByte.f (l0.drop (a1 : Int).toNat) 10).bind fun t112 => (if t112 ≥ 0 then (some (wrap64 (a1 + t112))) else (some (l0.length : Int)))) else (none)) else (none)
set_option maxHeartbeats 8000000 in
set_option maxRecDepth 100000 in
theorem lines_tail.calls (A0 : Option Addr) (c0 : Nat) (l0 : List Int) (a1 : Int) (r : Int) (w : World) (hr0 : Kd.C (Kd.int .u8) w A0 l0.length l0) (hc0 : l0.length ≤ c0) (h : lines_tail.f l0 a1 = some r) :
    Calls Tryd.prog 58 #[.slice A0 l0.length c0, .int .i64 a1] w fun e w' => e = .returned (.int .i64 r) ∧ Drawn0 w w' := by
  have HR0 := Aside0.mk hr0
  have HC0 := Aside0.mk hc0
  clear hr0 hc0
  have H : (if 0 ≤ a1 then (if a1 ≤ (l0.length : Int) then ((bytes_IndexByte.f (l0.drop (a1 : Int).toNat) 10).bind fun t112 => (if t112 ≥ 0 then (some (wrap64 (a1 + t112))) else (some (l0.length : Int)))) else (none)) else (none)) = some r := h
  clear h
  by_cases c3 : 0 ≤ a1
  · rw [if_pos c3] at H
    have c3b0 := eq_true c3
    have c3b1 : decide (0 ≤ a1) = true := decide_eq_true c3
    clear c3
    by_cases c4 : a1 ≤ (l0.length : Int)
    · rw [if_pos c4] at H
      have c4b0 := eq_true c4
      have c4b1 : decide (a1 ≤ (l0.length : Int)) = true := decide_eq_true c4
      clear c4
      replace H := Option.bind_eq_some_iff.mp H
      obtain ⟨t112, A50, H⟩ := H
      replace H : (if t112 ≥ 0 then (some (wrap64 (a1 + t112))) else (some (l0.length : Int))) = some r := H
      have A5 := Aside0.mk A50
      clear A50
      by_cases c6 : t112 ≥ 0
      · rw [if_pos c6] at H
        have c6b0 : decide (0 ≤ t112) = true := decide_eq_true c6
        clear c6
        obtain rfl := Option.some.inj H
        obtain ⟨i07, hi07, _, hsz7, _⟩ := info_parts info5
        obtain ⟨A7, hcut7, hA7, hC7⟩ := print_drop_of (P := Tryd.prog) (Value.int .u8) 0 22 5 .i64 Tryd.underlying22 hi07 hsz7 A0 c0 l0 a1 (of_decide_eq_true (by first | (with_reducible assumption) | assumption)) (of_decide_eq_true (by first | (with_reducible assumption) | assumption)) HC0.out
        have HR111 := Aside0.mk (Kd.C_of_reads (h1 := fun _ => rfl) (hA7 _ (Kd.reads_of_C HR0.out)))
        have HC111 := Aside0.mk hC7
        clear hA7 hC7 hi07 hsz7
        go_enter Tryd.func58, Tryd.ntmps58
        go_wp2_with (first | ((with_reducible refine gate_callee (f := 57) rfl ?_); refine goesL_ (some 9) rfl rfl Tryd.func57 (by kernel_rfl) rfl #[.slice A7 (l0.drop (a1 : Int).toNat).length (c0 - a1.toNat), .int .u8 10] rfl (by (try simp only [List.map_toArray, List.map_cons, List.map_nil]); first | done | (rw [show (l0.drop (a1 : Int).toNat).length = (l0.length - a1.toNat) from List.length_drop] <;> rfl) | rfl | (simp only [List.length_drop, List.length_take]; rfl)) ?_; (with_reducible refine (bytes_IndexByte.calls _ _ (l0.drop (a1 : Int).toNat) 10 t112 _ ?side1 ?side2 A5.out).mono ?_); (case side1 => repeat (first | exact HR111.out | (with_reducible refine Kd.C_alloc ?_ _) | (with_reducible refine Kd.C_drewN ?_ _) | (with_reducible refine Kd.C_drew ?_))); (case side2 => exact HC111.out); rintro e w' ⟨rfl, ⟨nd, rfl⟩⟩; refine ⟨_, rfl, ?_⟩))
        go_ret
        exact ⟨by first | rfl | (simp; done) | (simp [*]; done), by repeat (first | exact Drawn0.refl _ | apply Drawn0.step)⟩
      · rw [if_neg c6] at H
        have c6b0 : decide (0 ≤ t112) = false := decide_eq_false c6
        clear c6
        obtain rfl := Option.some.inj H
        obtain ⟨i08, hi08, _, hsz8, _⟩ := info_parts info5
        obtain ⟨A8, hcut8, hA8, hC8⟩ := print_drop_of (P := Tryd.prog) (Value.int .u8) 0 22 5 .i64 Tryd.underlying22 hi08 hsz8 A0 c0 l0 a1 (of_decide_eq_true (by first | (with_reducible assumption) | assumption)) (of_decide_eq_true (by first | (with_reducible assumption) | assumption)) HC0.out
        have HR111 := Aside0.mk (Kd.C_of_reads (h1 := fun _ => rfl) (hA8 _ (Kd.reads_of_C HR0.out)))
        have HC111 := Aside0.mk hC8
        clear hA8 hC8 hi08 hsz8
        go_enter Tryd.func58, Tryd.ntmps58
        go_wp2_with (first | ((with_reducible refine gate_callee (f := 57) rfl ?_); refine goesL_ (some 9) rfl rfl Tryd.func57 (by kernel_rfl) rfl #[.slice A8 (l0.drop (a1 : Int).toNat).length (c0 - a1.toNat), .int .u8 10] rfl (by (try simp only [List.map_toArray, List.map_cons, List.map_nil]); first | done | (rw [show (l0.drop (a1 : Int).toNat).length = (l0.length - a1.toNat) from List.length_drop] <;> rfl) | rfl | (simp only [List.length_drop, List.length_take]; rfl)) ?_; (with_reducible refine (bytes_IndexByte.calls _ _ (l0.drop (a1 : Int).toNat) 10 t112 _ ?side1 ?side2 A5.out).mono ?_); (case side1 => repeat (first | exact HR111.out | (with_reducible refine Kd.C_alloc ?_ _) | (with_reducible refine Kd.C_drewN ?_ _) | (with_reducible refine Kd.C_drew ?_))); (case side2 => exact HC111.out); rintro e w' ⟨rfl, ⟨nd, rfl⟩⟩; refine ⟨_, rfl, ?_⟩))
        go_ret
        exact ⟨by first | rfl | (simp; done) | (simp [*]; done), by repeat (first | exact Drawn0.refl _ | apply Drawn0.step)⟩
    · rw [if_neg c4] at H
      exact absurd H (by simp)
  · rw [if_neg c3] at H
    exact absurd H (by simp)

end Go.Proofs.YtcochbkdgjgaeaaDoor.X
end
section
-- Written by wip/xprint.py over the kit's print.py: the Lean function of each Go function, and the proof that the Go text comes to it.
namespace Go.Proofs.YtcochbkdgjgaeaaDoor.X
open Go.RowKit Go.Proofs.YtcochbkdgjgaeaaDoorW.PrintWords Go.Proofs.YtcochbkdgjgaeaaDoorW.PrintLast Go.Proofs.YtcochbkdgjgaeaaDoorW.PrintMore
attribute [local go_sem] max2_int min2_int max_two min_two max_three min_three max_four min_four   -- for this text's walks alone
set_option linter.unusedVariables false
set_option linter.unusedSimpArgs false

/-! ### lines_End: function 45 -/
def lines_End.f (k : Nat) (l0 : List Int) (a1 : Int) : Option (Int × Int) := (lines_Start.f k l0 a1).bind fun bt113 => (if bt113.2 = 0 then ((lines_tail.f l0 bt113.1).bind fun t115 => (some (t115, 0))) else (some (0, bt113.2)))
theorem lines_End.mono : ∀ a0 a1 k, LeO (lines_End.f k a0 a1) (lines_End.f (k + 1) a0 a1) := by
  intro a0 a1 k
  unfold lines_End.f
  repeat' first
      | (with_reducible exact lines_Start.mono _ _ _)
      | (with_reducible exact LeO.refl _)
      | (with_reducible exact LeO.none _)
      | (with_reducible refine LeO.ite ?_ ?_)
      | (with_reducible refine LeO.bind ?_ (fun _ => ?_))
      | exact lines_Start.mono _ _ _
      | exact LeO.none _
      | refine LeO.ite ?_ ?_
      | refine LeO.bind ?_ (fun _ => ?_)
set_option maxHeartbeats 8000000 in
set_option maxRecDepth 100000 in
theorem lines_End.calls (k : Nat) (A0 : Option Addr) (c0 : Nat) (l0 : List Int) (a1 : Int) (r1 : Int) (r2 : Int) (w : World) (hr0 : Kd.C (Kd.int .u8) w A0 l0.length l0) (hc0 : l0.length ≤ c0) (h : lines_End.f k l0 a1 = some (r1, r2)) :
    Calls Tryd.prog 45 #[.slice A0 l0.length c0, .int .i64 a1] w fun e w' => e = .returned (.tuple #[.int .i64 r1, .int .i64 r2]) ∧ Drawn0 w w' := by
  have HR0 := Aside0.mk hr0
  have HC0 := Aside0.mk hc0
  clear hr0 hc0
  have H : ((lines_Start.f k l0 a1).bind fun bt113 => (if bt113.2 = 0 then ((lines_tail.f l0 bt113.1).bind fun t115 => (some (t115, 0))) else (some (0, bt113.2)))) = some (r1, r2) := h
  clear h
  replace H := Option.bind_eq_some_iff.mp H
  obtain ⟨⟨t113, t114⟩, A30, H⟩ := H
  replace H : (if t114 = 0 then ((lines_tail.f l0 t113).bind fun t115 => (some (t115, 0))) else (some (0, t114))) = some (r1, r2) := H
  have A3 := Aside0.mk A30
  clear A30
  by_cases c4 : t114 = 0
  · rw [if_pos c4] at H
    have c4b0 : (t114 == 0) = true := beq_iff_eq.mpr c4
    have c4b1 : (t114 != 0) = false := bne_eq_false_iff_eq.mpr c4
    clear c4
    replace H := Option.bind_eq_some_iff.mp H
    obtain ⟨t115, A50, H⟩ := H
    replace H : (some (t115, 0)) = some (r1, r2) := H
    have A5 := Aside0.mk A50
    clear A50
    simp only [Option.some.injEq, Prod.mk.injEq] at H
    obtain ⟨rfl, rfl⟩ := H
    go_enter Tryd.func45, Tryd.ntmps45
    go_wp2_with (first | ((with_reducible refine gate_callee (f := 44) rfl ?_); refine goesL_ (some 11) rfl rfl Tryd.func44 (by kernel_rfl) rfl #[.slice A0 l0.length c0, .int .i64 a1] rfl (by (try simp only [List.map_toArray, List.map_cons, List.map_nil]); first | done | rfl | (simp only [List.length_drop, List.length_take]; rfl)) ?_; (with_reducible refine (lines_Start.calls k _ _ l0 a1 t113 t114 _ ?side1 ?side2 A3.out).mono ?_); (case side1 => repeat (first | exact HR0.out | (with_reducible refine Kd.C_alloc ?_ _) | (with_reducible refine Kd.C_drewN ?_ _) | (with_reducible refine Kd.C_drew ?_))); (case side2 => exact HC0.out); rintro e w' ⟨rfl, ⟨nd, rfl⟩⟩; refine ⟨_, rfl, ?_⟩) | ((with_reducible refine gate_callee (f := 58) rfl ?_); refine goesL_ (some 19) rfl rfl Tryd.func58 (by kernel_rfl) rfl #[.slice A0 l0.length c0, .int .i64 t113] rfl (by (try simp only [List.map_toArray, List.map_cons, List.map_nil]); first | done | rfl | (simp only [List.length_drop, List.length_take]; rfl)) ?_; (with_reducible refine (lines_tail.calls _ _ l0 t113 t115 _ ?side1 ?side2 A5.out).mono ?_); (case side1 => repeat (first | exact HR0.out | (with_reducible refine Kd.C_alloc ?_ _) | (with_reducible refine Kd.C_drewN ?_ _) | (with_reducible refine Kd.C_drew ?_))); (case side2 => exact HC0.out); rintro e w' ⟨rfl, ⟨nd, rfl⟩⟩; refine ⟨_, rfl, ?_⟩))
    go_ret2
    exact ⟨by first | rfl | (simp; done) | (simp [*]; done), by repeat (first | exact Drawn0.refl _ | apply Drawn0.step)⟩
  · rw [if_neg c4] at H
    have c4b0 : (t114 == 0) = false := beq_eq_false_iff_ne.mpr c4
    have c4b1 : (t114 != 0) = true := bne_iff_ne.mpr c4
    simp only [Option.some.injEq, Prod.mk.injEq] at H
    obtain ⟨rfl, rfl⟩ := H
    go_enter Tryd.func45, Tryd.ntmps45
    go_wp2_with (first | ((with_reducible refine gate_callee (f := 44) rfl ?_); refine goesL_ (some 11) rfl rfl Tryd.func44 (by kernel_rfl) rfl #[.slice A0 l0.length c0, .int .i64 a1] rfl (by (try simp only [List.map_toArray, List.map_cons, List.map_nil]); first | done | rfl | (simp only [List.length_drop, List.length_take]; rfl)) ?_; (with_reducible refine (lines_Start.calls k _ _ l0 a1 t113 t114 _ ?side1 ?side2 A3.out).mono ?_); (case side1 => repeat (first | exact HR0.out | (with_reducible refine Kd.C_alloc ?_ _) | (with_reducible refine Kd.C_drewN ?_ _) | (with_reducible refine Kd.C_drew ?_))); (case side2 => exact HC0.out); rintro e w' ⟨rfl, ⟨nd, rfl⟩⟩; refine ⟨_, rfl, ?_⟩))
    go_ret2
    exact ⟨by first | rfl | (simp; done) | (simp [*]; done), by repeat (first | exact Drawn0.refl _ | apply Drawn0.step)⟩

end Go.Proofs.YtcochbkdgjgaeaaDoor.X
end
section
namespace Go.Proofs.YtcochbkdgjgaeaaDoor.LN
open Go.RowKit Go.Proofs.YtcochbkdgjgaeaaDoorW.PrintWords Go.Proofs.YtcochbkdgjgaeaaDoorW.PrintMore Go.Proofs.YtcochbkdgjgaeaaDoor.X Go.Proofs.YtcochbkdgjgaeaaDoor.XL Go.Proofs.YtcochbkdgjgaeaaDoor.XO

theorem u8s_iff {l : List Int} : u8s l = true ↔ ∀ x ∈ l, 0 ≤ x ∧ x ≤ 255 := by
  unfold u8s
  rw [List.all_eq_true]
  constructor
  · intro h x hx; exact of_decide_eq_true (h x hx)
  · intro h x hx; exact decide_eq_true (h x hx)
theorem u8s_ok {B : Nat} {l : List Int} (h : okSl B okU8 l) : u8s l = true := u8s_iff.2 (fun x hx => h.2 x hx)
theorem u8s_take {l : List Int} (h : u8s l = true) (n : Nat) : u8s (l.take n) = true := u8s_iff.2 (fun x hx => u8s_iff.1 h x (List.mem_of_mem_take hx))
theorem u8s_drop {l : List Int} (h : u8s l = true) (n : Nat) : u8s (l.drop n) = true := u8s_iff.2 (fun x hx => u8s_iff.1 h x (List.mem_of_mem_drop hx))
theorem cnt_nonneg (c : Int) (l : List Int) : 0 ≤ cnt c l := by
  induction l with
  | nil => simp [cnt]
  | cons x l ih => simp only [cnt]; split <;> omega
theorem cnt_append (c : Int) (l m : List Int) : cnt c (l ++ m) = cnt c l + cnt c m := by
  induction l with
  | nil => simp [cnt]
  | cons x l ih => simp only [List.cons_append, cnt, ih]; omega
theorem cnt_le (c : Int) (l : List Int) : cnt c l ≤ (l.length : Int) := by
  induction l with
  | nil => simp [cnt]
  | cons x l ih => simp only [cnt, List.length_cons]; split <;> omega
theorem take_snoc {t : List Int} {n : Nat} (h : n < t.length) : t.take (n + 1) = t.take n ++ [t.getD n 0] := by
  rw [List.take_succ_eq_append_getElem h, List.getD_eq_getElem?_getD, List.getElem?_eq_getElem h]; rfl
theorem cnt_take_succ {t : List Int} {n : Nat} (h : n < t.length) : cnt 10 (t.take (n + 1)) = cnt 10 (t.take n) + (if t.getD n 0 = 10 then 1 else 0) := by
  rw [take_snoc h, cnt_append]
  simp [cnt]
/-- Bytes ahead of the first line end. -/
def run10 : List Int → Nat
  | [] => 0
  | x :: l => if x = 10 then 0 else run10 l + 1
theorem run10_le (l : List Int) : run10 l ≤ l.length := by
  induction l with
  | nil => simp [run10]
  | cons x l ih => simp only [run10]; split <;> simp; omega
theorem run10_at {l : List Int} (h : run10 l < l.length) : l.getD (run10 l) 0 = 10 := by
  induction l with
  | nil => simp at h
  | cons x l ih =>
    simp only [run10] at h ⊢
    split
    · rename_i e; simpa using e
    · rename_i e
      rw [if_neg e] at h
      simpa using ih (by simpa using h)
theorem run10_ne {l : List Int} {j : Nat} (h : j < run10 l) : l.getD j 0 ≠ 10 := by
  induction l generalizing j with
  | nil => simp [run10] at h
  | cons x l ih =>
    simp only [run10] at h
    split at h
    · omega
    · rename_i e
      cases j with
      | zero => simpa using e
      | succ j => simpa using ih (j := j) (by omega)
theorem idx_run (l : List Int) : idx 10 l = if run10 l < l.length then (run10 l : Int) else -1 := by
  induction l with
  | nil => simp [idx, run10]
  | cons x l ih =>
    by_cases e : x = 10
    · simp [idx, run10, e]
    · have e1 : run10 (x :: l) = run10 l + 1 := by simp [run10, e]
      have e2 : idx 10 (x :: l) = if idx 10 l = -1 then -1 else idx 10 l + 1 := by simp [idx, e]
      rw [e1, e2, ih]
      by_cases h : run10 l < l.length
      · rw [if_pos h, if_neg (by omega), if_pos (by simp; omega)]
        simp
      · rw [if_neg h, if_pos rfl, if_neg (by simp; omega)]
/-- The end of the bytes of the line of a place. -/
def fin (t : List Int) (p : Nat) : Nat := p + run10 (t.drop p)
theorem fin_ge (t : List Int) (p : Nat) : p ≤ fin t p := Nat.le_add_right _ _
theorem fin_le {t : List Int} {p : Nat} (h : p ≤ t.length) : fin t p ≤ t.length := by
  have := run10_le (t.drop p)
  rw [List.length_drop] at this
  unfold fin
  omega
theorem getD_drop (t : List Int) (p j : Nat) : (t.drop p).getD j 0 = t.getD (p + j) 0 := by
  rw [List.getD_eq_getElem?_getD, List.getD_eq_getElem?_getD, List.getElem?_drop]
theorem fin_at {t : List Int} {p : Nat} (h : fin t p < t.length) : t.getD (fin t p) 0 = 10 := by
  have h1 : run10 (t.drop p) < (t.drop p).length := by rw [List.length_drop]; unfold fin at h; omega
  have h2 := run10_at h1
  rwa [getD_drop] at h2
theorem fin_ne {t : List Int} {p j : Nat} (h1 : p ≤ j) (h2 : j < fin t p) : t.getD j 0 ≠ 10 := by
  have h3 := run10_ne (l := t.drop p) (j := j - p) (by unfold fin at h2; omega)
  rwa [getD_drop, Nat.add_sub_cancel' h1] at h3
theorem fin_unique {t : List Int} {p q : Nat} (hp : p ≤ q) (hq : q ≤ t.length) (h1 : ∀ j, p ≤ j → j < q → t.getD j 0 ≠ 10) (h2 : q < t.length → t.getD q 0 = 10) : q = fin t p := by
  rcases Nat.lt_trichotomy q (fin t p) with h | h | h
  · have := fin_le (t := t) (p := p) (by omega)
    exact absurd (h2 (by omega)) (fin_ne hp h)
  · exact h
  · exact absurd (fin_at (by omega)) (h1 _ (fin_ge t p) h)
/-- Where the line of a place begins. -/
def beg (t : List Int) : Nat → Nat
  | 0 => 0
  | n + 1 => if t.getD n 0 = 10 then n + 1 else beg t n
/-- A line begins there. -/
def isSt (t : List Int) (p : Nat) : Prop := p = 0 ∨ t.getD (p - 1) 0 = 10
theorem beg_le (t : List Int) (n : Nat) : beg t n ≤ n := by
  induction n with
  | zero => simp [beg]
  | succ n ih => simp only [beg]; split <;> omega
theorem beg_st (t : List Int) (n : Nat) : isSt t (beg t n) := by
  induction n with
  | zero => exact .inl rfl
  | succ n ih =>
    simp only [beg]
    split
    · rename_i e; exact .inr (by simpa using e)
    · exact ih
theorem beg_ne {t : List Int} {n j : Nat} (h1 : beg t n ≤ j) (h2 : j < n) : t.getD j 0 ≠ 10 := by
  induction n with
  | zero => omega
  | succ n ih =>
    simp only [beg] at h1
    split at h1
    · omega
    · rename_i e
      by_cases hj : j = n
      · rw [hj]; exact e
      · exact ih h1 (by omega)
theorem beg_unique {t : List Int} {p q : Nat} (hp : p ≤ q) (h1 : isSt t p) (h2 : ∀ j, p ≤ j → j < q → t.getD j 0 ≠ 10) : p = beg t q := by
  have hb := beg_le t q
  rcases Nat.lt_trichotomy p (beg t q) with h | h | h
  · rcases beg_st t q with h3 | h3
    · omega
    · exact absurd h3 (h2 _ (by omega) (by omega))
  · exact h
  · rcases h1 with h3 | h3
    · omega
    · exact absurd h3 (beg_ne (t := t) (n := q) (by omega) (by omega))
theorem cnt_same {t : List Int} {p q : Nat} (hp : p ≤ q) (hq : q ≤ t.length) (h : ∀ j, p ≤ j → j < q → t.getD j 0 ≠ 10) : cnt 10 (t.take q) = cnt 10 (t.take p) := by
  obtain ⟨d, rfl⟩ : ∃ d, q = p + d := ⟨q - p, by omega⟩
  induction d with
  | zero => rfl
  | succ d ih =>
    rw [← Nat.add_assoc, cnt_take_succ (by omega), if_neg (h _ (by omega) (by omega)), ih (by omega) (by omega) (fun j h1 h2 => h j h1 (by omega))]
    simp
theorem cnt_mono {t : List Int} {p q : Nat} (hp : p ≤ q) (hq : q ≤ t.length) : cnt 10 (t.take p) ≤ cnt 10 (t.take q) := by
  obtain ⟨d, rfl⟩ : ∃ d, q = p + d := ⟨q - p, by omega⟩
  induction d with
  | zero => exact Int.le_refl _
  | succ d ih =>
    rw [← Nat.add_assoc, cnt_take_succ (by omega)]
    have := ih (by omega) (by omega)
    split <;> omega
theorem beg_fin {t : List Int} {p : Nat} (h : p ≤ t.length) : fin t (beg t p) = fin t p := by
  have hb := beg_le t p
  refine (fin_unique (Nat.le_trans hb (fin_ge t p)) (fin_le h) (fun j h1 h2 => ?_) (fun h1 => fin_at h1)).symm
  by_cases hj : j < p
  · exact beg_ne h1 hj
  · exact fin_ne (by omega) h2
theorem cnt_beg {t : List Int} {p : Nat} (h : p ≤ t.length) : cnt 10 (t.take p) = cnt 10 (t.take (beg t p)) := cnt_same (beg_le t p) h (fun _ h1 h2 => beg_ne h1 h2)
/-- The n-th line behind the one that begins at p. -/
def sg (t : List Int) (p : Nat) : Nat → Option Nat
  | 0 => some p
  | n + 1 => if fin t p < t.length then sg t (fin t p + 1) n else none
theorem cnt_next {t : List Int} {p : Nat} (h : fin t p < t.length) : cnt 10 (t.take (fin t p + 1)) = cnt 10 (t.take p) + 1 := by
  rw [cnt_take_succ h, if_pos (fin_at h), cnt_same (fin_ge t p) (by omega) (fun j h1 h2 => fin_ne h1 h2)]
theorem sg_some {t : List Int} : ∀ {n p q : Nat}, p ≤ t.length → isSt t p → sg t p n = some q → isSt t q ∧ p ≤ q ∧ q ≤ t.length ∧ cnt 10 (t.take q) = cnt 10 (t.take p) + n := by
  intro n
  induction n with
  | zero =>
    intro p q hp hs h
    simp only [sg, Option.some.injEq] at h
    subst h
    exact ⟨hs, Nat.le_refl _, hp, by simp⟩
  | succ n ih =>
    intro p q hp hs h
    simp only [sg] at h
    split at h
    · rename_i hf
      obtain ⟨h1, h2, h3, h4⟩ := ih (by omega) (.inr (by simpa using fin_at hf)) h
      have := fin_ge t p
      exact ⟨h1, by omega, h3, by rw [h4, cnt_next hf]; omega⟩
    · cases h
theorem sg_of {t : List Int} : ∀ {n p q : Nat}, isSt t p → p ≤ q → q ≤ t.length → isSt t q → cnt 10 (t.take q) = cnt 10 (t.take p) + n → sg t p n = some q := by
  intro n
  induction n with
  | zero =>
    intro p q hs hp hq hsq hc
    simp only [sg, Option.some.injEq]
    rcases Nat.lt_or_eq_of_le hp with h | h
    · rcases hsq with h1 | h1
      · omega
      · have h2 : q - 1 + 1 = q := by omega
        have h3 := cnt_take_succ (t := t) (n := q - 1) (by omega)
        rw [if_pos h1, h2] at h3
        have h4 := cnt_mono (t := t) (p := p) (q := q - 1) (by omega) (by omega)
        omega
    · exact h
  | succ n ih =>
    intro p q hs hp hq hsq hc
    have hf : fin t p < q := by
      rcases Nat.lt_or_ge (fin t p) q with h | h
      · exact h
      · have := cnt_same (t := t) hp hq (fun j h1 h2 => fin_ne h1 (by omega))
        omega
    simp only [sg]
    rw [if_pos (by omega)]
    refine ih (.inr (by simpa using fin_at (by omega))) (by omega) hq hsq ?_
    rw [cnt_next (by omega), hc]
    omega
/-- The line that holds a place. -/
theorem sg_beg {t : List Int} {p : Nat} (h : p ≤ t.length) : sg t 0 (cnt 10 (t.take p)).toNat = some (beg t p) := by
  have hc := cnt_nonneg 10 (t.take p)
  refine sg_of (.inl rfl) (Nat.zero_le _) (Nat.le_trans (beg_le t p) h) (beg_st t p) ?_
  rw [← cnt_beg h]
  simp [cnt]
  omega

section
variable {t : List Int} (hu : u8s t = true)
include hu
theorem Of_eq (at_ : Int) : lines_Of.f t at_ = some (if 0 ≤ at_ ∧ at_ ≤ t.length then (cnt 10 (t.take at_.toNat), 0) else (0, 2)) := by
  unfold lines_Of.f
  by_cases h : 0 ≤ at_ ∧ at_ ≤ (t.length : Int)
  · have e1 : lines_has.f t at_ = some true := by unfold lines_has.f; rw [if_pos h.1, decide_eq_true h.2]
    rw [e1, if_pos h]
    simp only [Option.bind_some, if_true]
    rw [if_pos h.1, if_pos h.2]
    unfold bytes_Count.f
    rw [u8s_take hu]
    rfl
  · have e1 : lines_has.f t at_ = some false := by
      unfold lines_has.f
      by_cases h0 : at_ ≥ 0
      · rw [if_pos h0, decide_eq_false (fun h1 => h ⟨h0, h1⟩)]
      · rw [if_neg h0]
    rw [e1, if_neg h]
    rfl
theorem IndexByte_eq (n : Nat) : bytes_IndexByte.f (t.drop n) 10 = some (if run10 (t.drop n) < (t.drop n).length then (run10 (t.drop n) : Int) else -1) := by
  unfold bytes_IndexByte.f
  rw [u8s_drop hu, idx_run]
  rfl
end
section
variable {t : List Int} (hu : u8s t = true) (hl : t.length ≤ 140737488355328)
include hu hl
theorem Start_l0 : ∀ (n p : Nat), (n : Int) ≤ 9223372036854775807 → p ≤ t.length → Ev (fun k => lines_Start.l0 k t (n : Int) (p : Int)) (match sg t p n with | some q => ((q : Int), 0) | none => (0, 2)) := by
  intro n
  induction n with
  | zero =>
    intro p _ hp
    exact Ev.step (fun k => rfl) (Ev.neg (by simp) (Ev.now _))
  | succ n ih =>
    intro p hn hp
    refine Ev.step (fun k => rfl) (Ev.pos (by omega) (Ev.pos (by omega) (Ev.pos (by omega) ?_)))
    rw [Int.toNat_natCast]
    refine Ev.cbind (IndexByte_eq hu p) ?_
    have hr := run10_le (t.drop p)
    rw [List.length_drop] at hr ⊢
    simp only [sg]
    by_cases h : run10 (t.drop p) < t.length - p
    · rw [if_pos h, if_pos (by unfold fin; omega)]
      refine Ev.neg (by omega) ?_
      rw [wrap64_id (n := ((n + 1 : Nat) : Int) - 1) (by omega) (by omega), wrap64_id (n := (run10 (t.drop p) : Int) + 1) (by omega) (by omega), wrap64_id (by omega) (by omega)]
      rw [show ((n + 1 : Nat) : Int) - 1 = (n : Int) from by omega, show (p : Int) + ((run10 (t.drop p) : Int) + 1) = ((fin t p + 1 : Nat) : Int) from by unfold fin; omega]
      exact ih _ (by omega) (by unfold fin; omega)
    · rw [if_neg h, if_neg (by unfold fin; omega)]
      exact Ev.pos (by omega) (Ev.now _)
def startR (t : List Int) (n : Int) : Int × Int := if n < 0 then (0, 2) else match sg t 0 n.toNat with | some q => ((q : Int), 0) | none => (0, 2)
theorem Start_ev (n : Int) (hn : n ≤ 9223372036854775807) : Ev (fun k => lines_Start.f k t n) (startR t n) := by
  unfold startR
  by_cases h : n < 0
  · rw [if_pos h]
    exact Ev.pos h (Ev.now _)
  · rw [if_neg h]
    refine Ev.neg h ?_
    have e : n = (n.toNat : Int) := by omega
    have h1 := Start_l0 hu hl n.toNat 0 (by omega) (Nat.zero_le _)
    rw [← e] at h1
    exact h1
theorem tail_eq {p : Nat} (hp : p ≤ t.length) : lines_tail.f t (p : Int) = some (fin t p : Int) := by
  unfold lines_tail.f
  rw [if_pos (by omega), if_pos (by omega), Int.toNat_natCast, IndexByte_eq hu p]
  simp only [Option.bind_some]
  have hr := run10_le (t.drop p)
  rw [List.length_drop] at hr ⊢
  by_cases h : run10 (t.drop p) < t.length - p
  · rw [if_pos h, if_pos (by omega), wrap64_id (by omega) (by omega)]
    unfold fin
    simp
  · rw [if_neg h, if_neg (by omega)]
    unfold fin
    congr 1
    omega
def endR (t : List Int) (n : Int) : Int × Int := if n < 0 then (0, 2) else match sg t 0 n.toNat with | some q => ((fin t q : Nat), 0) | none => (0, 2)
theorem End_ev (n : Int) (hn : n ≤ 9223372036854775807) : Ev (fun k => lines_End.f k t n) (endR t n) := by
  refine Ev.bind (Start_ev hu hl n hn) ?_
  unfold startR endR
  by_cases h : n < 0
  · rw [if_pos h, if_pos h]
    exact Ev.neg (by decide) (Ev.now _)
  · rw [if_neg h, if_neg h]
    cases hs : sg t 0 n.toNat with
    | none => exact Ev.neg (by decide) (Ev.now _)
    | some q =>
      have hq := (sg_some (Nat.zero_le _) (.inl rfl) hs).2.2.1
      exact Ev.pos rfl (Ev.cbind (tail_eq hu hl hq) (Ev.now _))
/-- The line that holds a place: where it begins and ends. -/
theorem Start_of {p : Nat} (hp : p ≤ t.length) : Ev (fun k => lines_Start.f k t (cnt 10 (t.take p))) ((beg t p : Int), 0) := by
  have h0 := cnt_nonneg 10 (t.take p)
  have h1 := cnt_le 10 (t.take p)
  have h2 := List.length_take_le p t
  refine Ev.eq (Start_ev hu hl _ (by omega)) ?_
  unfold startR
  rw [if_neg (by omega), sg_beg hp]
theorem End_of {p : Nat} (hp : p ≤ t.length) : Ev (fun k => lines_End.f k t (cnt 10 (t.take p))) ((fin t p : Int), 0) := by
  have h0 := cnt_nonneg 10 (t.take p)
  have h1 := cnt_le 10 (t.take p)
  have h2 := List.length_take_le p t
  refine Ev.eq (End_ev hu hl _ (by omega)) ?_
  unfold endR
  rw [if_neg (by omega), sg_beg hp]
  simp only
  rw [beg_fin hp]
end
end Go.Proofs.YtcochbkdgjgaeaaDoor.LN
end
section
-- Written by wip/xprint.py over the kit's print.py: the Lean function of each Go function, and the proof that the Go text comes to it.
namespace Go.Proofs.YtcochbkdgjgaeaaDoor.X
open Go.RowKit Go.Proofs.YtcochbkdgjgaeaaDoorW.PrintWords Go.Proofs.YtcochbkdgjgaeaaDoorW.PrintLast Go.Proofs.YtcochbkdgjgaeaaDoorW.PrintMore
attribute [local go_sem] max2_int min2_int max_two min_two max_three min_three max_four min_four   -- for this text's walks alone
set_option linter.unusedVariables false
set_option linter.unusedSimpArgs false

/-! ### class_small: function 33 -/
def class_small.f (a0 : Int) : Option (Bool) := if a0 ≥ 97 then (some (decide (a0 ≤ 122))) else (some false)
set_option maxHeartbeats 8000000 in
set_option maxRecDepth 100000 in
theorem class_small.calls (a0 : Int) (r : Bool) (w : World) (h : class_small.f a0 = some r) :
    Calls Tryd.prog 33 #[.int .u8 a0] w fun e w' => e = .returned (.bool r) ∧ Drawn0 w w' := by
  have H : (if a0 ≥ 97 then (some (decide (a0 ≤ 122))) else (some false)) = some r := h
  clear h
  by_cases c2 : a0 ≥ 97
  · rw [if_pos c2] at H
    have c2b0 : decide (97 ≤ a0) = true := decide_eq_true c2
    clear c2
    obtain rfl := Option.some.inj H
    go_enter Tryd.func33, Tryd.ntmps33
    go_wp2
    go_ret
    exact ⟨by first | rfl | (simp; done) | (simp [*]; done), by repeat (first | exact Drawn0.refl _ | apply Drawn0.step)⟩
  · rw [if_neg c2] at H
    have c2b0 : decide (97 ≤ a0) = false := decide_eq_false c2
    clear c2
    obtain rfl := Option.some.inj H
    go_enter Tryd.func33, Tryd.ntmps33
    go_wp2
    go_ret
    exact ⟨by first | rfl | (simp; done) | (simp [*]; done), by repeat (first | exact Drawn0.refl _ | apply Drawn0.step)⟩

end Go.Proofs.YtcochbkdgjgaeaaDoor.X
end
section
-- Written by wip/xprint.py over the kit's print.py: the Lean function of each Go function, and the proof that the Go text comes to it.
namespace Go.Proofs.YtcochbkdgjgaeaaDoor.X
open Go.RowKit Go.Proofs.YtcochbkdgjgaeaaDoorW.PrintWords Go.Proofs.YtcochbkdgjgaeaaDoorW.PrintLast Go.Proofs.YtcochbkdgjgaeaaDoorW.PrintMore
attribute [local go_sem] max2_int min2_int max_two min_two max_three min_three max_four min_four   -- for this text's walks alone
set_option linter.unusedVariables false
set_option linter.unusedSimpArgs false

/-! ### class_great: function 34 -/
def class_great.f (a0 : Int) : Option (Bool) := if a0 ≥ 65 then (some (decide (a0 ≤ 90))) else (some false)
set_option maxHeartbeats 8000000 in
set_option maxRecDepth 100000 in
theorem class_great.calls (a0 : Int) (r : Bool) (w : World) (h : class_great.f a0 = some r) :
    Calls Tryd.prog 34 #[.int .u8 a0] w fun e w' => e = .returned (.bool r) ∧ Drawn0 w w' := by
  have H : (if a0 ≥ 65 then (some (decide (a0 ≤ 90))) else (some false)) = some r := h
  clear h
  by_cases c2 : a0 ≥ 65
  · rw [if_pos c2] at H
    have c2b0 : decide (65 ≤ a0) = true := decide_eq_true c2
    clear c2
    obtain rfl := Option.some.inj H
    go_enter Tryd.func34, Tryd.ntmps34
    go_wp2
    go_ret
    exact ⟨by first | rfl | (simp; done) | (simp [*]; done), by repeat (first | exact Drawn0.refl _ | apply Drawn0.step)⟩
  · rw [if_neg c2] at H
    have c2b0 : decide (65 ≤ a0) = false := decide_eq_false c2
    clear c2
    obtain rfl := Option.some.inj H
    go_enter Tryd.func34, Tryd.ntmps34
    go_wp2
    go_ret
    exact ⟨by first | rfl | (simp; done) | (simp [*]; done), by repeat (first | exact Drawn0.refl _ | apply Drawn0.step)⟩

end Go.Proofs.YtcochbkdgjgaeaaDoor.X
end
section
-- Written by wip/xprint.py over the kit's print.py: the Lean function of each Go function, and the proof that the Go text comes to it.
namespace Go.Proofs.YtcochbkdgjgaeaaDoor.X
open Go.RowKit Go.Proofs.YtcochbkdgjgaeaaDoorW.PrintWords Go.Proofs.YtcochbkdgjgaeaaDoorW.PrintLast Go.Proofs.YtcochbkdgjgaeaaDoorW.PrintMore
attribute [local go_sem] max2_int min2_int max_two min_two max_three min_three max_four min_four   -- for this text's walks alone
set_option linter.unusedVariables false
set_option linter.unusedSimpArgs false

/-! ### class_Of: function 15 -/
def class_Of.j0 : Nat → Int → Bool → Bool → Option (Int)
  | 0, _, _, _ => none
  | k + 1, x0, x1, x8 => if x8 = true then (some 0) else (if x1 = true then (some 2) else ((class_small.f x0).bind fun t107 => (if t107 = true then (some 2) else ((class_great.f x0).bind fun t108 => (if t108 = true then (some 2) else (if x0 ≥ 48 then (if x0 ≤ 57 then (some 2) else (if x0 = 95 then (some 2) else (if x0 ≥ 128 then (some 2) else (some 1)))) else (if x0 = 95 then (some 2) else (if x0 ≥ 128 then (some 2) else (some 1)))))))))
def class_Of.f (k : Nat) (a0 : Int) (a1 : Bool) : Option (Int) := if a0 = 10 then (some 3) else (if a0 = 32 then (class_Of.j0 k a0 a1 true) else (class_Of.j0 k a0 a1 (a0 == 9)))
theorem class_Of.mono_l : ∀ k, (∀ y0 y1 y2, LeO (class_Of.j0 k y0 y1 y2) (class_Of.j0 (k + 1) y0 y1 y2))
  | 0 => fun _ _ _ r h => by simp [class_Of.j0] at h
  | k + 1 => by
    have ih0 := class_Of.mono_l k
    · intro y0 y1 y2
      unfold class_Of.j0
      repeat' first
      | (with_reducible exact ih0 _ _ _)
      | (with_reducible exact LeO.refl _)
      | (with_reducible exact LeO.none _)
      | (with_reducible refine LeO.ite ?_ ?_)
      | (with_reducible refine LeO.bind ?_ (fun _ => ?_))
      | exact ih0 _ _ _
      | exact LeO.none _
      | refine LeO.ite ?_ ?_
      | refine LeO.bind ?_ (fun _ => ?_)
theorem class_Of.mono : ∀ a0 a1 k, LeO (class_Of.f k a0 a1) (class_Of.f (k + 1) a0 a1) := by
  intro a0 a1 k
  have ih0 := class_Of.mono_l k
  unfold class_Of.f
  repeat' first
      | (with_reducible exact ih0 _ _ _)
      | (with_reducible exact LeO.refl _)
      | (with_reducible exact LeO.none _)
      | (with_reducible refine LeO.ite ?_ ?_)
      | (with_reducible refine LeO.bind ?_ (fun _ => ?_))
      | exact ih0 _ _ _
      | exact LeO.none _
      | refine LeO.ite ?_ ?_
      | refine LeO.bind ?_ (fun _ => ?_)
set_option maxHeartbeats 8000000 in
set_option maxRecDepth 100000 in
theorem class_Of.calls (k : Nat) (a0 : Int) (a1 : Bool) (r : Int) (w : World) (h : class_Of.f k a0 a1 = some r) :
    Calls Tryd.prog 15 #[.int .u8 a0, .bool a1] w fun e w' => e = .returned (.int .i64 r) ∧ Drawn0 w w' := by
  have H : (if a0 = 10 then (some 3) else (if a0 = 32 then (class_Of.j0 k a0 a1 true) else (class_Of.j0 k a0 a1 (a0 == 9)))) = some r := h
  clear h
  by_cases c3 : a0 = 10
  · rw [if_pos c3] at H
    have c3b0 : (a0 == 10) = true := beq_iff_eq.mpr c3
    have c3b1 : (a0 != 10) = false := bne_eq_false_iff_eq.mpr c3
    clear c3
    obtain rfl := Option.some.inj H
    go_enter Tryd.func15, Tryd.ntmps15
    go_wp2
    go_ret
    exact ⟨by first | rfl | (simp; done) | (simp [*]; done), by repeat (first | exact Drawn0.refl _ | apply Drawn0.step)⟩
  · rw [if_neg c3] at H
    have c3b0 : (a0 == 10) = false := beq_eq_false_iff_ne.mpr c3
    have c3b1 : (a0 != 10) = true := bne_iff_ne.mpr c3
    have HC4 := Aside0.mk H
    clear H
    go_enter Tryd.func15, Tryd.ntmps15
    go_upto_region 3 with (fail)
    go_cut [8] (fun v8 wc => ∃ (kq : Nat) (x8_3 : Bool), v8 = .bool x8_3 ∧ Aside0 (class_Of.j0 kq a0 a1 x8_3 = some r) ∧ Aside0 (kq ≤ k) ∧ Drawn0 w wc)
    case first =>
      have H := HC4.out
      clear HC4
      by_cases c5 : a0 = 32
      · rw [if_pos c5] at H
        have c5b0 : (a0 == 32) = true := beq_iff_eq.mpr c5
        have c5b1 : (a0 != 32) = false := bne_eq_false_iff_eq.mpr c5
        clear c5
        (first | rw [c5b0] | (simp only [i64_w, i32_w]; rw [c5b0]) | skip)
        have H' := Aside0.mk H
        clear H
        go_wp2
        go_meet
        case rel => exact ⟨_, (true), (by first | rfl | (simp; done) | (simp [*]; done)), H', ⟨by first | omega | exact Nat.le_refl _⟩, by repeat (first | exact Drawn0.refl _ | apply Drawn0.step)⟩
      · rw [if_neg c5] at H
        have c5b0 : (a0 == 32) = false := beq_eq_false_iff_ne.mpr c5
        have c5b1 : (a0 != 32) = true := bne_iff_ne.mpr c5
        (first | rw [c5b0] | (simp only [i64_w, i32_w]; rw [c5b0]) | skip)
        have H' := Aside0.mk H
        clear H
        go_wp2
        go_meet
        case rel => exact ⟨_, ((a0 == 9)), (by first | rfl | (simp; done) | (simp [*]; done)), H', ⟨by first | omega | exact Nat.le_refl _⟩, by repeat (first | exact Drawn0.refl _ | apply Drawn0.step)⟩
    case rest =>
      clear HC4
      try clear c1
      try clear p2
      try clear c3
      try clear c3b0
      try clear c3b1
      try clear c5
      try clear c5b0
      try clear c5b1
      obtain ⟨kq, x8_3, rfl, HA, HJ3, ⟨mc3, rfl⟩⟩ := hcut
      cases kq with
      | zero => exact absurd HA.out (by simp [class_Of.j0])
      | succ kj3 =>
        have H := HA.out
        clear HA
        simp only [class_Of.j0] at H
        by_cases c6 : x8_3 = true
        · subst c6
          have H1 : (some 0) = some r := by rw [if_pos rfl] at H; exact H
          clear H
          have H := H1
          clear H1
          obtain rfl := Option.some.inj H
          go_wp2
          go_ret
          exact ⟨by first | rfl | (simp; done) | (simp [*]; done), by repeat (first | exact Drawn0.refl _ | apply Drawn0.step)⟩
        · replace c6 := Bool.eq_false_iff.mpr c6
          subst c6
          have H1 : (if a1 = true then (some 2) else ((class_small.f a0).bind fun t107 => (if t107 = true then (some 2) else ((class_great.f a0).bind fun t108 => (if t108 = true then (some 2) else (if a0 ≥ 48 then (if a0 ≤ 57 then (some 2) else (if a0 = 95 then (some 2) else (if a0 ≥ 128 then (some 2) else (some 1)))) else (if a0 = 95 then (some 2) else (if a0 ≥ 128 then (some 2) else (some 1))))))))) = some r := by rw [if_neg (show ¬ (false = true) by decide)] at H; exact H
          clear H
          have H := H1
          clear H1
          by_cases c7 : a1 = true
          · subst c7
            have H1 : (some 2) = some r := by rw [if_pos rfl] at H; exact H
            clear H
            have H := H1
            clear H1
            obtain rfl := Option.some.inj H
            go_wp2
            go_ret
            exact ⟨by first | rfl | (simp; done) | (simp [*]; done), by repeat (first | exact Drawn0.refl _ | apply Drawn0.step)⟩
          · replace c7 := Bool.eq_false_iff.mpr c7
            subst c7
            have H1 : ((class_small.f a0).bind fun t107 => (if t107 = true then (some 2) else ((class_great.f a0).bind fun t108 => (if t108 = true then (some 2) else (if a0 ≥ 48 then (if a0 ≤ 57 then (some 2) else (if a0 = 95 then (some 2) else (if a0 ≥ 128 then (some 2) else (some 1)))) else (if a0 = 95 then (some 2) else (if a0 ≥ 128 then (some 2) else (some 1)))))))) = some r := by rw [if_neg (show ¬ (false = true) by decide)] at H; exact H
            clear H
            have H := H1
            clear H1
            replace H := Option.bind_eq_some_iff.mp H
            obtain ⟨t107, A80, H⟩ := H
            replace H : (if t107 = true then (some 2) else ((class_great.f a0).bind fun t108 => (if t108 = true then (some 2) else (if a0 ≥ 48 then (if a0 ≤ 57 then (some 2) else (if a0 = 95 then (some 2) else (if a0 ≥ 128 then (some 2) else (some 1)))) else (if a0 = 95 then (some 2) else (if a0 ≥ 128 then (some 2) else (some 1))))))) = some r := H
            have A8 := Aside0.mk A80
            clear A80
            by_cases c9 : t107 = true
            · subst c9
              have H1 : (some 2) = some r := by rw [if_pos rfl] at H; exact H
              clear H
              have H := H1
              clear H1
              obtain rfl := Option.some.inj H
              go_wp2_with (first | (go_at_call 33; (with_reducible refine (class_small.calls a0 true _ A8.out).mono ?_); rintro e w' ⟨rfl, ⟨nd, rfl⟩⟩))
              go_ret
              exact ⟨by first | rfl | (simp; done) | (simp [*]; done), by repeat (first | exact Drawn0.refl _ | apply Drawn0.step)⟩
            · replace c9 := Bool.eq_false_iff.mpr c9
              subst c9
              have H1 : ((class_great.f a0).bind fun t108 => (if t108 = true then (some 2) else (if a0 ≥ 48 then (if a0 ≤ 57 then (some 2) else (if a0 = 95 then (some 2) else (if a0 ≥ 128 then (some 2) else (some 1)))) else (if a0 = 95 then (some 2) else (if a0 ≥ 128 then (some 2) else (some 1)))))) = some r := by rw [if_neg (show ¬ (false = true) by decide)] at H; exact H
              clear H
              have H := H1
              clear H1
              replace H := Option.bind_eq_some_iff.mp H
              obtain ⟨t108, A100, H⟩ := H
              replace H : (if t108 = true then (some 2) else (if a0 ≥ 48 then (if a0 ≤ 57 then (some 2) else (if a0 = 95 then (some 2) else (if a0 ≥ 128 then (some 2) else (some 1)))) else (if a0 = 95 then (some 2) else (if a0 ≥ 128 then (some 2) else (some 1))))) = some r := H
              have A10 := Aside0.mk A100
              clear A100
              by_cases c11 : t108 = true
              · subst c11
                have H1 : (some 2) = some r := by rw [if_pos rfl] at H; exact H
                clear H
                have H := H1
                clear H1
                obtain rfl := Option.some.inj H
                go_wp2_with (first | (go_at_call 33; (with_reducible refine (class_small.calls a0 false _ A8.out).mono ?_); rintro e w' ⟨rfl, ⟨nd, rfl⟩⟩) | (go_at_call 34; (with_reducible refine (class_great.calls a0 true _ A10.out).mono ?_); rintro e w' ⟨rfl, ⟨nd, rfl⟩⟩))
                go_ret
                exact ⟨by first | rfl | (simp; done) | (simp [*]; done), by repeat (first | exact Drawn0.refl _ | apply Drawn0.step)⟩
              · replace c11 := Bool.eq_false_iff.mpr c11
                subst c11
                have H1 : (if a0 ≥ 48 then (if a0 ≤ 57 then (some 2) else (if a0 = 95 then (some 2) else (if a0 ≥ 128 then (some 2) else (some 1)))) else (if a0 = 95 then (some 2) else (if a0 ≥ 128 then (some 2) else (some 1)))) = some r := by rw [if_neg (show ¬ (false = true) by decide)] at H; exact H
                clear H
                have H := H1
                clear H1
                by_cases c12 : a0 ≥ 48
                · rw [if_pos c12] at H
                  have c12b0 : decide (48 ≤ a0) = true := decide_eq_true c12
                  clear c12
                  by_cases c13 : a0 ≤ 57
                  · rw [if_pos c13] at H
                    have c13b0 : decide (a0 ≤ 57) = true := decide_eq_true c13
                    clear c13
                    obtain rfl := Option.some.inj H
                    go_wp2_with (first | (go_at_call 33; (with_reducible refine (class_small.calls a0 false _ A8.out).mono ?_); rintro e w' ⟨rfl, ⟨nd, rfl⟩⟩) | (go_at_call 34; (with_reducible refine (class_great.calls a0 false _ A10.out).mono ?_); rintro e w' ⟨rfl, ⟨nd, rfl⟩⟩))
                    go_ret
                    exact ⟨by first | rfl | (simp; done) | (simp [*]; done), by repeat (first | exact Drawn0.refl _ | apply Drawn0.step)⟩
                  · rw [if_neg c13] at H
                    have c13b0 : decide (a0 ≤ 57) = false := decide_eq_false c13
                    clear c13
                    by_cases c14 : a0 = 95
                    · rw [if_pos c14] at H
                      have c14b0 : (a0 == 95) = true := beq_iff_eq.mpr c14
                      have c14b1 : (a0 != 95) = false := bne_eq_false_iff_eq.mpr c14
                      clear c14
                      obtain rfl := Option.some.inj H
                      go_wp2_with (first | (go_at_call 33; (with_reducible refine (class_small.calls a0 false _ A8.out).mono ?_); rintro e w' ⟨rfl, ⟨nd, rfl⟩⟩) | (go_at_call 34; (with_reducible refine (class_great.calls a0 false _ A10.out).mono ?_); rintro e w' ⟨rfl, ⟨nd, rfl⟩⟩))
                      go_ret
                      exact ⟨by first | rfl | (simp; done) | (simp [*]; done), by repeat (first | exact Drawn0.refl _ | apply Drawn0.step)⟩
                    · rw [if_neg c14] at H
                      have c14b0 : (a0 == 95) = false := beq_eq_false_iff_ne.mpr c14
                      have c14b1 : (a0 != 95) = true := bne_iff_ne.mpr c14
                      by_cases c15 : a0 ≥ 128
                      · rw [if_pos c15] at H
                        have c15b0 : decide (128 ≤ a0) = true := decide_eq_true c15
                        clear c15
                        obtain rfl := Option.some.inj H
                        go_wp2_with (first | (go_at_call 33; (with_reducible refine (class_small.calls a0 false _ A8.out).mono ?_); rintro e w' ⟨rfl, ⟨nd, rfl⟩⟩) | (go_at_call 34; (with_reducible refine (class_great.calls a0 false _ A10.out).mono ?_); rintro e w' ⟨rfl, ⟨nd, rfl⟩⟩))
                        go_ret
                        exact ⟨by first | rfl | (simp; done) | (simp [*]; done), by repeat (first | exact Drawn0.refl _ | apply Drawn0.step)⟩
                      · rw [if_neg c15] at H
                        have c15b0 : decide (128 ≤ a0) = false := decide_eq_false c15
                        clear c15
                        obtain rfl := Option.some.inj H
                        go_wp2_with (first | (go_at_call 33; (with_reducible refine (class_small.calls a0 false _ A8.out).mono ?_); rintro e w' ⟨rfl, ⟨nd, rfl⟩⟩) | (go_at_call 34; (with_reducible refine (class_great.calls a0 false _ A10.out).mono ?_); rintro e w' ⟨rfl, ⟨nd, rfl⟩⟩))
                        go_ret
                        exact ⟨by first | rfl | (simp; done) | (simp [*]; done), by repeat (first | exact Drawn0.refl _ | apply Drawn0.step)⟩
                · rw [if_neg c12] at H
                  have c12b0 : decide (48 ≤ a0) = false := decide_eq_false c12
                  clear c12
                  by_cases c16 : a0 = 95
                  · rw [if_pos c16] at H
                    have c16b0 : (a0 == 95) = true := beq_iff_eq.mpr c16
                    have c16b1 : (a0 != 95) = false := bne_eq_false_iff_eq.mpr c16
                    clear c16
                    obtain rfl := Option.some.inj H
                    go_wp2_with (first | (go_at_call 33; (with_reducible refine (class_small.calls a0 false _ A8.out).mono ?_); rintro e w' ⟨rfl, ⟨nd, rfl⟩⟩) | (go_at_call 34; (with_reducible refine (class_great.calls a0 false _ A10.out).mono ?_); rintro e w' ⟨rfl, ⟨nd, rfl⟩⟩))
                    go_ret
                    exact ⟨by first | rfl | (simp; done) | (simp [*]; done), by repeat (first | exact Drawn0.refl _ | apply Drawn0.step)⟩
                  · rw [if_neg c16] at H
                    have c16b0 : (a0 == 95) = false := beq_eq_false_iff_ne.mpr c16
                    have c16b1 : (a0 != 95) = true := bne_iff_ne.mpr c16
                    by_cases c17 : a0 ≥ 128
                    · rw [if_pos c17] at H
                      have c17b0 : decide (128 ≤ a0) = true := decide_eq_true c17
                      clear c17
                      obtain rfl := Option.some.inj H
                      go_wp2_with (first | (go_at_call 33; (with_reducible refine (class_small.calls a0 false _ A8.out).mono ?_); rintro e w' ⟨rfl, ⟨nd, rfl⟩⟩) | (go_at_call 34; (with_reducible refine (class_great.calls a0 false _ A10.out).mono ?_); rintro e w' ⟨rfl, ⟨nd, rfl⟩⟩))
                      go_ret
                      exact ⟨by first | rfl | (simp; done) | (simp [*]; done), by repeat (first | exact Drawn0.refl _ | apply Drawn0.step)⟩
                    · rw [if_neg c17] at H
                      have c17b0 : decide (128 ≤ a0) = false := decide_eq_false c17
                      clear c17
                      obtain rfl := Option.some.inj H
                      go_wp2_with (first | (go_at_call 33; (with_reducible refine (class_small.calls a0 false _ A8.out).mono ?_); rintro e w' ⟨rfl, ⟨nd, rfl⟩⟩) | (go_at_call 34; (with_reducible refine (class_great.calls a0 false _ A10.out).mono ?_); rintro e w' ⟨rfl, ⟨nd, rfl⟩⟩))
                      go_ret
                      exact ⟨by first | rfl | (simp; done) | (simp [*]; done), by repeat (first | exact Drawn0.refl _ | apply Drawn0.step)⟩

end Go.Proofs.YtcochbkdgjgaeaaDoor.X
end
section
-- Written by wip/xprint.py over the kit's print.py: the Lean function of each Go function, and the proof that the Go text comes to it.
namespace Go.Proofs.YtcochbkdgjgaeaaDoor.X
open Go.RowKit Go.Proofs.YtcochbkdgjgaeaaDoorW.PrintWords Go.Proofs.YtcochbkdgjgaeaaDoorW.PrintLast Go.Proofs.YtcochbkdgjgaeaaDoorW.PrintMore
attribute [local go_sem] max2_int min2_int max_two min_two max_three min_three max_four min_four   -- for this text's walks alone
set_option linter.unusedVariables false
set_option linter.unusedSimpArgs false

/-! ### class_Runs: function 46 -/
def class_Runs.l0 : Nat → List Int → Bool → List Int → Int → Int → Option (List Int)
  | 0, _, _, _, _, _ => none
  | k + 1, x0, x1, x5, x8, x9 => if x9 < x8 then (if (wrap64 (x9 + 1)) = (x0.length : Int) then (if x5.length < 17592186044416 then (class_Runs.l0 k x0 x1 (x5 ++ [wrap64 (x9 + 1)]) x8 (wrap64 (x9 + 1))) else (none)) else (if 0 ≤ x9 then (if x9 < (x0.length : Int) then ((class_Of.f k (rd x0 x9) x1).bind fun t120 => (if 0 ≤ (wrap64 (x9 + 1)) then (if (wrap64 (x9 + 1)) < (x0.length : Int) then ((class_Of.f k (rd x0 (wrap64 (x9 + 1))) x1).bind fun t122 => (if t120 = t122 then (class_Runs.l0 k x0 x1 x5 x8 (wrap64 (x9 + 1))) else (if x5.length < 17592186044416 then (class_Runs.l0 k x0 x1 (x5 ++ [wrap64 (x9 + 1)]) x8 (wrap64 (x9 + 1))) else (none)))) else (none)) else (none))) else (none)) else (none))) else (some x5)
def class_Runs.f (k : Nat) (l0 : List Int) (a1 : Bool) : Option (List Int) := class_Runs.l0 k l0 a1 ([] : List Int) (l0.length : Int) 0
theorem class_Runs.mono_l : ∀ k, (∀ y0 y1 y2 y3 y4, LeO (class_Runs.l0 k y0 y1 y2 y3 y4) (class_Runs.l0 (k + 1) y0 y1 y2 y3 y4))
  | 0 => fun _ _ _ _ _ r h => by simp [class_Runs.l0] at h
  | k + 1 => by
    have ih0 := class_Runs.mono_l k
    · intro y0 y1 y2 y3 y4
      unfold class_Runs.l0
      repeat' first
      | (with_reducible exact ih0 _ _ _ _ _)
      | (with_reducible exact class_Of.mono _ _ _)
      | (with_reducible exact LeO.refl _)
      | (with_reducible exact LeO.none _)
      | (with_reducible refine LeO.ite ?_ ?_)
      | (with_reducible refine LeO.bind ?_ (fun _ => ?_))
      | exact ih0 _ _ _ _ _
      | exact class_Of.mono _ _ _
      | exact LeO.none _
      | refine LeO.ite ?_ ?_
      | refine LeO.bind ?_ (fun _ => ?_)
theorem class_Runs.mono : ∀ a0 a1 k, LeO (class_Runs.f k a0 a1) (class_Runs.f (k + 1) a0 a1) := by
  intro a0 a1 k
  have ih0 := class_Runs.mono_l k
  unfold class_Runs.f
  repeat' first
      | (with_reducible exact ih0 _ _ _ _ _)
      | (with_reducible exact class_Of.mono _ _ _)
      | (with_reducible exact LeO.refl _)
      | (with_reducible exact LeO.none _)
      | (with_reducible refine LeO.ite ?_ ?_)
      | (with_reducible refine LeO.bind ?_ (fun _ => ?_))
      | exact ih0 _ _ _ _ _
      | exact class_Of.mono _ _ _
      | exact LeO.none _
      | refine LeO.ite ?_ ?_
      | refine LeO.bind ?_ (fun _ => ?_)
set_option maxHeartbeats 8000000 in
set_option maxRecDepth 100000 in
theorem class_Runs.calls (k : Nat) (A0 : Option Addr) (c0 : Nat) (l0 : List Int) (a1 : Bool) (r : List Int) (w : World) (hr0 : Kd.C (Kd.int .u8) w A0 l0.length l0) (hc0 : l0.length ≤ c0) (h : class_Runs.f k l0 a1 = some r) :
    Calls Tryd.prog 46 #[.slice A0 l0.length c0, .bool a1] w fun e w' => ∃ v0_ : Value, e = .returned (v0_) ∧ Kd.R (Kd.int .i64) 3 w' w.heap.size (fun _ => True) v0_ r ∧ Below w.heap.size w w' := by
  have HR0 := Aside0.mk hr0
  have HC0 := Aside0.mk hc0
  clear hr0 hc0
  have HB := Aside0.mk (Below.refl w.heap.size w)
  have H : (class_Runs.l0 k l0 a1 ([] : List Int) (l0.length : Int) 0) = some r := h
  clear h
  have H' := Aside0.mk H
  clear H
  go_enter Tryd.func46, Tryd.ntmps46
  go_wp2
  repeat (go_quiet (fail); try go_wp2)
  go_loopg [5, 9] k (fun kq v5 v9 w' => ∃ (x5_1 : List Int) (x9_1 : Int), v9 = .int .i64 x9_1 ∧ Aside0 (class_Runs.l0 kq l0 a1 x5_1 (l0.length : Int) x9_1 = some r) ∧ Aside0 (kq ≤ k) ∧ Aside0 (Kd.R (Kd.int .i64) 3 w' w.heap.size (fun _ => True) v5 x5_1) ∧ Aside0 (Below w.heap.size w w'))
  case atStart => exact ⟨(([] : List Int)), (0), (by first | rfl | (simp; done) | (simp [*]; done)), H', ⟨Nat.le_refl _⟩, ⟨by first | exact Kd.R_nil _ _ _ _ _ | exact Kd.N_nil _ _ _ _ _ | exact Kd.V_nil _ _ _ _ _ | exact Kd.Q_nil _ _ _ _ _ | exact Kd.S_nil _ _ _ _ _⟩, ⟨by repeat (first | (with_reducible first | exact HB.out | apply below_alloc | apply pw_below_drewN | apply below_drew1) | exact HB.out)⟩⟩
  case round =>
    clear H'
    try clear p2
    obtain ⟨x5_1, x9_1, rfl, HA, HK1, HO_5, HB⟩ := hrel
    cases gk with
    | zero => exact absurd HA.out (by simp [class_Runs.l0])
    | succ k1 =>
      have H := HA.out
      clear HA
      simp only [class_Runs.l0] at H
      by_cases c3 : x9_1 < (l0.length : Int)
      · rw [if_pos c3] at H
        have c3b0 : decide (x9_1 < (l0.length : Int)) = true := decide_eq_true c3
        clear c3
        by_cases c4 : (wrap64 (x9_1 + 1)) = (l0.length : Int)
        · rw [if_pos c4] at H
          have c4b0 : ((wrap64 (x9_1 + 1)) == (l0.length : Int)) = true := beq_iff_eq.mpr c4
          have c4b1 : ((wrap64 (x9_1 + 1)) != (l0.length : Int)) = false := bne_eq_false_iff_eq.mpr c4
          clear c4
          by_cases c5 : x5_1.length < 17592186044416
          · rw [if_pos c5] at H
            have LMc5 := Aside0.mk c5
            clear c5
            obtain ⟨y116, hy116⟩ : ∃ y_ : List Int, y_ = (x5_1 ++ [wrap64 (x9_1 + 1)]) := ⟨_, rfl⟩
            replace H : (class_Runs.l0 k1 l0 a1 y116 (l0.length : Int) (wrap64 (x9_1 + 1))) = some r := by first | (rw [hy116]; with_reducible exact H) | (have H2_ := (Option.bind_some _ _).symm.trans H; rw [hy116]; with_reducible exact H2_) | (have H2_ := (Option.bind_some _ _).symm.trans H; with_reducible exact H2_) | with_reducible exact H | (rw [hy116]; exact H) | exact H
            have Ny116 := Aside0.mk hy116
            clear hy116
            have H' := Aside0.mk H
            clear H
            go_wp2_with (first | ((with_reducible refine gate_builtin (b := .append) (xs := #[.tmp 33, .tmp 36]) rfl ?_); at_builtin; refine Kd.R_append (Kd.int .i64) (w0 := w) w.heap.size rfl (.tmp 33) (.tmp 36) 68 3 (.int .i64 0) 8 rfl Tryd.underlying68 info3 rfl (by decide) (by omega) u5 x5_1 (wrap64 (x9_1 + 1)) [.int .i64 (wrap64 (x9_1 + 1))] (fun _ => True) (fun _ => False) rfl rfl ?aP (fun _ hk => hk.elim) ?aF ?aO ?aB ?aS ?aL ?_; (case aP => exact rfl); (case aB => exact (by repeat (first | (with_reducible first | exact HB.out | apply below_alloc | apply pw_below_drewN | apply below_drew1) | exact HB.out))); (case aF => exact (fun _ _ => trivial)); (case aO => exact (by (with_reducible repeat (first | apply Kd.R_alloc | apply Kd.R_drewN | apply Kd.R_drew)); exact HO_5.out)); (case aS => exact (below_size (by repeat (first | (with_reducible first | exact HB.out | apply below_alloc | apply pw_below_drewN | apply below_drew1) | exact HB.out)))); (case aL => have := LMc5.out; omega); intro v117 w6 ho hb hg hat; rw [← Ny116.out] at ho; have n0_ := Aside0.mk (hb); have n1_ := Aside0.mk (ho); clear HB; clear HO_5; have HB := n0_; have HO118 := n1_; clear n0_ n1_; clear ho hb hg hat))
            repeat (go_quiet (first | ((with_reducible refine gate_builtin (b := .append) (xs := #[.tmp 33, .tmp 36]) rfl ?_); at_builtin; refine Kd.R_append (Kd.int .i64) (w0 := w) w.heap.size rfl (.tmp 33) (.tmp 36) 68 3 (.int .i64 0) 8 rfl Tryd.underlying68 info3 rfl (by decide) (by omega) u5 x5_1 (wrap64 (x9_1 + 1)) [.int .i64 (wrap64 (x9_1 + 1))] (fun _ => True) (fun _ => False) rfl rfl ?aP (fun _ hk => hk.elim) ?aF ?aO ?aB ?aS ?aL ?_; (case aP => exact rfl); (case aB => exact (by repeat (first | (with_reducible first | exact HB.out | apply below_alloc | apply pw_below_drewN | apply below_drew1) | exact HB.out))); (case aF => exact (fun _ _ => trivial)); (case aO => exact (by (with_reducible repeat (first | apply Kd.R_alloc | apply Kd.R_drewN | apply Kd.R_drew)); exact HO_5.out)); (case aS => exact (below_size (by repeat (first | (with_reducible first | exact HB.out | apply below_alloc | apply pw_below_drewN | apply below_drew1) | exact HB.out)))); (case aL => have := LMc5.out; omega); intro v117 w6 ho hb hg hat; rw [← Ny116.out] at ho; have n0_ := Aside0.mk (hb); have n1_ := Aside0.mk (ho); clear HB; clear HO_5; have HB := n0_; have HO118 := n1_; clear n0_ n1_; clear ho hb hg hat)); try go_wp2_with (first | ((with_reducible refine gate_builtin (b := .append) (xs := #[.tmp 33, .tmp 36]) rfl ?_); at_builtin; refine Kd.R_append (Kd.int .i64) (w0 := w) w.heap.size rfl (.tmp 33) (.tmp 36) 68 3 (.int .i64 0) 8 rfl Tryd.underlying68 info3 rfl (by decide) (by omega) u5 x5_1 (wrap64 (x9_1 + 1)) [.int .i64 (wrap64 (x9_1 + 1))] (fun _ => True) (fun _ => False) rfl rfl ?aP (fun _ hk => hk.elim) ?aF ?aO ?aB ?aS ?aL ?_; (case aP => exact rfl); (case aB => exact (by repeat (first | (with_reducible first | exact HB.out | apply below_alloc | apply pw_below_drewN | apply below_drew1) | exact HB.out))); (case aF => exact (fun _ _ => trivial)); (case aO => exact (by (with_reducible repeat (first | apply Kd.R_alloc | apply Kd.R_drewN | apply Kd.R_drew)); exact HO_5.out)); (case aS => exact (below_size (by repeat (first | (with_reducible first | exact HB.out | apply below_alloc | apply pw_below_drewN | apply below_drew1) | exact HB.out)))); (case aL => have := LMc5.out; omega); intro v117 w6 ho hb hg hat; rw [← Ny116.out] at ho; have n0_ := Aside0.mk (hb); have n1_ := Aside0.mk (ho); clear HB; clear HO_5; have HB := n0_; have HO118 := n1_; clear n0_ n1_; clear ho hb hg hat)))
            go_roundg k1
            case measure => have := HK1.out; omega
            case rel => exact ⟨(y116), (wrap64 (x9_1 + 1)), (by first | rfl | (simp; done) | (simp [*]; done)), H', ⟨by have := HK1.out; omega⟩, ⟨by (with_reducible repeat (first | apply Kd.R_alloc | apply Kd.R_drewN | apply Kd.R_drew)); exact HO118.out⟩, ⟨by repeat (first | (with_reducible first | exact HB.out | apply below_alloc | apply pw_below_drewN | apply below_drew1) | exact HB.out)⟩⟩
          · rw [if_neg c5] at H
            exact absurd H (by simp)
        · rw [if_neg c4] at H
          have c4b0 : ((wrap64 (x9_1 + 1)) == (l0.length : Int)) = false := beq_eq_false_iff_ne.mpr c4
          have c4b1 : ((wrap64 (x9_1 + 1)) != (l0.length : Int)) = true := bne_iff_ne.mpr c4
          by_cases c7 : 0 ≤ x9_1
          · rw [if_pos c7] at H
            have c7b0 : decide (0 ≤ x9_1) = true := decide_eq_true c7
            clear c7
            by_cases c8 : x9_1 < (l0.length : Int)
            · rw [if_pos c8] at H
              have c8b0 : decide (x9_1 < (l0.length : Int)) = true := decide_eq_true c8
              clear c8
              replace H := Option.bind_eq_some_iff.mp H
              obtain ⟨t120, A90, H⟩ := H
              replace H : (if 0 ≤ (wrap64 (x9_1 + 1)) then (if (wrap64 (x9_1 + 1)) < (l0.length : Int) then ((class_Of.f k1 (rd l0 (wrap64 (x9_1 + 1))) a1).bind fun t122 => (if t120 = t122 then (class_Runs.l0 k1 l0 a1 x5_1 (l0.length : Int) (wrap64 (x9_1 + 1))) else (if x5_1.length < 17592186044416 then (class_Runs.l0 k1 l0 a1 (x5_1 ++ [wrap64 (x9_1 + 1)]) (l0.length : Int) (wrap64 (x9_1 + 1))) else (none)))) else (none)) else (none)) = some r := H
              have A9 := Aside0.mk A90
              clear A90
              obtain ⟨ji10, hji10⟩ : ∃ j_ : Int, (wrap64 (x9_1 + 1)) = j_ := ⟨_, rfl⟩
              replace H : (if 0 ≤ (ji10) then (if (ji10) < (l0.length : Int) then ((class_Of.f k1 (rd l0 (ji10)) a1).bind fun t122 => (if t120 = t122 then (class_Runs.l0 k1 l0 a1 x5_1 (l0.length : Int) ji10) else (if x5_1.length < 17592186044416 then (class_Runs.l0 k1 l0 a1 (x5_1 ++ [ji10]) (l0.length : Int) ji10) else (none)))) else (none)) else (none)) = some r := by first | (rw [hji10] at H; exact H) | (simp only [hji10] at H ⊢; exact H)
              (try rw [hji10] at c4b0)
              (try rw [hji10] at c4b1)
              (try rw [hji10] at A9)
              have hji10w : (IntKind.i64.wrap (x9_1 + 1)) = ji10 := (i64_w _).trans hji10
              by_cases c11 : 0 ≤ (ji10)
              · rw [if_pos c11] at H
                have c11b0 : decide (0 ≤ (ji10)) = true := decide_eq_true c11
                clear c11
                by_cases c12 : (ji10) < (l0.length : Int)
                · rw [if_pos c12] at H
                  have c12b0 : decide ((ji10) < (l0.length : Int)) = true := decide_eq_true c12
                  clear c12
                  replace H := Option.bind_eq_some_iff.mp H
                  obtain ⟨t122, A130, H⟩ := H
                  replace H : (if t120 = t122 then (class_Runs.l0 k1 l0 a1 x5_1 (l0.length : Int) ji10) else (if x5_1.length < 17592186044416 then (class_Runs.l0 k1 l0 a1 (x5_1 ++ [ji10]) (l0.length : Int) ji10) else (none))) = some r := H
                  have A13 := Aside0.mk A130
                  clear A130
                  by_cases c14 : t120 = t122
                  · rw [if_pos c14] at H
                    have c14b0 : (t120 == t122) = true := beq_iff_eq.mpr c14
                    have c14b1 : (t120 != t122) = false := bne_eq_false_iff_eq.mpr c14
                    clear c14
                    have H' := Aside0.mk H
                    clear H
                    have p119 : 0 ≤ (x9_1 : Int) := of_decide_eq_true (by first | (with_reducible assumption) | assumption)
                    have q119 : x9_1 < (l0.length : Int) := of_decide_eq_true (by first | (with_reducible assumption) | assumption)
                    obtain ⟨ad119, e119, hx119_0⟩ := Kd.at_int HR0.out x9_1 p119 q119
                    cases e119
                    replace hx119_0 := (HB.out.cell (World.block_lt_of_cell? w _ hx119_0)).trans hx119_0
                    replace p119 := eq_true p119
                    replace q119 := eq_true q119
                    go_wp2_with (first | (go_at_call 15; (with_reducible refine (class_Of.calls k1 (rd l0 x9_1) a1 t120 _ A9.out).mono ?_); rintro e w' ⟨rfl, ⟨nd, rfl⟩⟩; (try first | exact ⟨rfl, _, World.drewN_drewN _ _ _⟩ | exact ⟨rfl, _, Eq.trans (World.drewN_drewN _ _ _) (congrArg (World.drewN _) (Nat.add_assoc _ _ _))⟩); have p121 : 0 ≤ ((ji10) : Int) := of_decide_eq_true (by first | (with_reducible assumption) | assumption); have q121 : (ji10) < (l0.length : Int) := of_decide_eq_true (by first | (with_reducible assumption) | assumption); obtain ⟨ad121, e121, hx121_0⟩ := Kd.at_int HR0.out (ji10) p121 q121; obtain rfl : ad119 = ad121 := (by injection e121); replace hx121_0 := (HB.out.cell (World.block_lt_of_cell? w _ hx121_0)).trans hx121_0; replace p121 := eq_true p121; replace q121 := eq_true q121) | (go_at_call 15; (with_reducible refine (class_Of.calls k1 (rd l0 (ji10)) a1 t122 _ A13.out).mono ?_); rintro e w' ⟨rfl, ⟨nd, rfl⟩⟩; (try first | exact ⟨rfl, _, World.drewN_drewN _ _ _⟩ | exact ⟨rfl, _, Eq.trans (World.drewN_drewN _ _ _) (congrArg (World.drewN _) (Nat.add_assoc _ _ _))⟩)))
                    repeat (go_quiet (first | (go_at_call 15; (with_reducible refine (class_Of.calls k1 (rd l0 x9_1) a1 t120 _ A9.out).mono ?_); rintro e w' ⟨rfl, ⟨nd, rfl⟩⟩; (try first | exact ⟨rfl, _, World.drewN_drewN _ _ _⟩ | exact ⟨rfl, _, Eq.trans (World.drewN_drewN _ _ _) (congrArg (World.drewN _) (Nat.add_assoc _ _ _))⟩); have p121 : 0 ≤ ((ji10) : Int) := of_decide_eq_true (by first | (with_reducible assumption) | assumption); have q121 : (ji10) < (l0.length : Int) := of_decide_eq_true (by first | (with_reducible assumption) | assumption); obtain ⟨ad121, e121, hx121_0⟩ := Kd.at_int HR0.out (ji10) p121 q121; obtain rfl : ad119 = ad121 := (by injection e121); replace hx121_0 := (HB.out.cell (World.block_lt_of_cell? w _ hx121_0)).trans hx121_0; replace p121 := eq_true p121; replace q121 := eq_true q121) | (go_at_call 15; (with_reducible refine (class_Of.calls k1 (rd l0 (ji10)) a1 t122 _ A13.out).mono ?_); rintro e w' ⟨rfl, ⟨nd, rfl⟩⟩; (try first | exact ⟨rfl, _, World.drewN_drewN _ _ _⟩ | exact ⟨rfl, _, Eq.trans (World.drewN_drewN _ _ _) (congrArg (World.drewN _) (Nat.add_assoc _ _ _))⟩))); try go_wp2_with (first | (go_at_call 15; (with_reducible refine (class_Of.calls k1 (rd l0 x9_1) a1 t120 _ A9.out).mono ?_); rintro e w' ⟨rfl, ⟨nd, rfl⟩⟩; (try first | exact ⟨rfl, _, World.drewN_drewN _ _ _⟩ | exact ⟨rfl, _, Eq.trans (World.drewN_drewN _ _ _) (congrArg (World.drewN _) (Nat.add_assoc _ _ _))⟩); have p121 : 0 ≤ ((ji10) : Int) := of_decide_eq_true (by first | (with_reducible assumption) | assumption); have q121 : (ji10) < (l0.length : Int) := of_decide_eq_true (by first | (with_reducible assumption) | assumption); obtain ⟨ad121, e121, hx121_0⟩ := Kd.at_int HR0.out (ji10) p121 q121; obtain rfl : ad119 = ad121 := (by injection e121); replace hx121_0 := (HB.out.cell (World.block_lt_of_cell? w _ hx121_0)).trans hx121_0; replace p121 := eq_true p121; replace q121 := eq_true q121) | (go_at_call 15; (with_reducible refine (class_Of.calls k1 (rd l0 (ji10)) a1 t122 _ A13.out).mono ?_); rintro e w' ⟨rfl, ⟨nd, rfl⟩⟩; (try first | exact ⟨rfl, _, World.drewN_drewN _ _ _⟩ | exact ⟨rfl, _, Eq.trans (World.drewN_drewN _ _ _) (congrArg (World.drewN _) (Nat.add_assoc _ _ _))⟩))))
                    go_roundg k1
                    case measure => have := HK1.out; omega
                    case rel => exact ⟨(x5_1), (ji10), (by first | rfl | (simp; done) | (simp only [← hji10] <;> (first | rfl | simp)) | (simp [*]; done)), H', ⟨by have := HK1.out; omega⟩, ⟨by (with_reducible repeat (first | apply Kd.R_alloc | apply Kd.R_drewN | apply Kd.R_drew)); exact HO_5.out⟩, ⟨by repeat (first | (with_reducible first | exact HB.out | apply below_alloc | apply pw_below_drewN | apply below_drew1) | exact HB.out)⟩⟩
                  · rw [if_neg c14] at H
                    have c14b0 : (t120 == t122) = false := beq_eq_false_iff_ne.mpr c14
                    have c14b1 : (t120 != t122) = true := bne_iff_ne.mpr c14
                    by_cases c15 : x5_1.length < 17592186044416
                    · rw [if_pos c15] at H
                      have LMc15 := Aside0.mk c15
                      clear c15
                      obtain ⟨y123, hy123⟩ : ∃ y_ : List Int, y_ = (x5_1 ++ [ji10]) := ⟨_, rfl⟩
                      replace H : (class_Runs.l0 k1 l0 a1 y123 (l0.length : Int) ji10) = some r := by first | (rw [hy123]; with_reducible exact H) | (have H2_ := (Option.bind_some _ _).symm.trans H; rw [hy123]; with_reducible exact H2_) | (have H2_ := (Option.bind_some _ _).symm.trans H; with_reducible exact H2_) | with_reducible exact H | (rw [hy123]; exact H) | exact H
                      have Ny123 := Aside0.mk hy123
                      clear hy123
                      have H' := Aside0.mk H
                      clear H
                      have p119 : 0 ≤ (x9_1 : Int) := of_decide_eq_true (by first | (with_reducible assumption) | assumption)
                      have q119 : x9_1 < (l0.length : Int) := of_decide_eq_true (by first | (with_reducible assumption) | assumption)
                      obtain ⟨ad119, e119, hx119_0⟩ := Kd.at_int HR0.out x9_1 p119 q119
                      cases e119
                      replace hx119_0 := (HB.out.cell (World.block_lt_of_cell? w _ hx119_0)).trans hx119_0
                      replace p119 := eq_true p119
                      replace q119 := eq_true q119
                      go_wp2_with (first | (go_at_call 15; (with_reducible refine (class_Of.calls k1 (rd l0 x9_1) a1 t120 _ A9.out).mono ?_); rintro e w' ⟨rfl, ⟨nd, rfl⟩⟩; (try first | exact ⟨rfl, _, World.drewN_drewN _ _ _⟩ | exact ⟨rfl, _, Eq.trans (World.drewN_drewN _ _ _) (congrArg (World.drewN _) (Nat.add_assoc _ _ _))⟩); have p121 : 0 ≤ ((ji10) : Int) := of_decide_eq_true (by first | (with_reducible assumption) | assumption); have q121 : (ji10) < (l0.length : Int) := of_decide_eq_true (by first | (with_reducible assumption) | assumption); obtain ⟨ad121, e121, hx121_0⟩ := Kd.at_int HR0.out (ji10) p121 q121; obtain rfl : ad119 = ad121 := (by injection e121); replace hx121_0 := (HB.out.cell (World.block_lt_of_cell? w _ hx121_0)).trans hx121_0; replace p121 := eq_true p121; replace q121 := eq_true q121) | (go_at_call 15; (with_reducible refine (class_Of.calls k1 (rd l0 (ji10)) a1 t122 _ A13.out).mono ?_); rintro e w' ⟨rfl, ⟨nd, rfl⟩⟩; (try first | exact ⟨rfl, _, World.drewN_drewN _ _ _⟩ | exact ⟨rfl, _, Eq.trans (World.drewN_drewN _ _ _) (congrArg (World.drewN _) (Nat.add_assoc _ _ _))⟩)) | ((with_reducible refine gate_builtin (b := .append) (xs := #[.tmp 33, .tmp 36]) rfl ?_); at_builtin; refine Kd.R_append (Kd.int .i64) (w0 := w) w.heap.size rfl (.tmp 33) (.tmp 36) 68 3 (.int .i64 0) 8 rfl Tryd.underlying68 info3 rfl (by decide) (by omega) u5 x5_1 ji10 [.int .i64 ji10] (fun _ => True) (fun _ => False) rfl rfl ?aP (fun _ hk => hk.elim) ?aF ?aO ?aB ?aS ?aL ?_; (case aP => exact rfl); (case aB => exact (by repeat (first | (with_reducible first | exact HB.out | apply below_alloc | apply pw_below_drewN | apply below_drew1) | exact HB.out))); (case aF => exact (fun _ _ => trivial)); (case aO => exact (by (with_reducible repeat (first | apply Kd.R_alloc | apply Kd.R_drewN | apply Kd.R_drew)); exact HO_5.out)); (case aS => exact (below_size (by repeat (first | (with_reducible first | exact HB.out | apply below_alloc | apply pw_below_drewN | apply below_drew1) | exact HB.out)))); (case aL => have := LMc15.out; omega); intro v124 w16 ho hb hg hat; rw [← Ny123.out] at ho; have n0_ := Aside0.mk (hb); have n1_ := Aside0.mk (ho); clear HB; clear HO_5; have HB := n0_; have HO125 := n1_; clear n0_ n1_; clear ho hb hg hat))
                      repeat (go_quiet (first | (go_at_call 15; (with_reducible refine (class_Of.calls k1 (rd l0 x9_1) a1 t120 _ A9.out).mono ?_); rintro e w' ⟨rfl, ⟨nd, rfl⟩⟩; (try first | exact ⟨rfl, _, World.drewN_drewN _ _ _⟩ | exact ⟨rfl, _, Eq.trans (World.drewN_drewN _ _ _) (congrArg (World.drewN _) (Nat.add_assoc _ _ _))⟩); have p121 : 0 ≤ ((ji10) : Int) := of_decide_eq_true (by first | (with_reducible assumption) | assumption); have q121 : (ji10) < (l0.length : Int) := of_decide_eq_true (by first | (with_reducible assumption) | assumption); obtain ⟨ad121, e121, hx121_0⟩ := Kd.at_int HR0.out (ji10) p121 q121; obtain rfl : ad119 = ad121 := (by injection e121); replace hx121_0 := (HB.out.cell (World.block_lt_of_cell? w _ hx121_0)).trans hx121_0; replace p121 := eq_true p121; replace q121 := eq_true q121) | (go_at_call 15; (with_reducible refine (class_Of.calls k1 (rd l0 (ji10)) a1 t122 _ A13.out).mono ?_); rintro e w' ⟨rfl, ⟨nd, rfl⟩⟩; (try first | exact ⟨rfl, _, World.drewN_drewN _ _ _⟩ | exact ⟨rfl, _, Eq.trans (World.drewN_drewN _ _ _) (congrArg (World.drewN _) (Nat.add_assoc _ _ _))⟩)) | ((with_reducible refine gate_builtin (b := .append) (xs := #[.tmp 33, .tmp 36]) rfl ?_); at_builtin; refine Kd.R_append (Kd.int .i64) (w0 := w) w.heap.size rfl (.tmp 33) (.tmp 36) 68 3 (.int .i64 0) 8 rfl Tryd.underlying68 info3 rfl (by decide) (by omega) u5 x5_1 ji10 [.int .i64 ji10] (fun _ => True) (fun _ => False) rfl rfl ?aP (fun _ hk => hk.elim) ?aF ?aO ?aB ?aS ?aL ?_; (case aP => exact rfl); (case aB => exact (by repeat (first | (with_reducible first | exact HB.out | apply below_alloc | apply pw_below_drewN | apply below_drew1) | exact HB.out))); (case aF => exact (fun _ _ => trivial)); (case aO => exact (by (with_reducible repeat (first | apply Kd.R_alloc | apply Kd.R_drewN | apply Kd.R_drew)); exact HO_5.out)); (case aS => exact (below_size (by repeat (first | (with_reducible first | exact HB.out | apply below_alloc | apply pw_below_drewN | apply below_drew1) | exact HB.out)))); (case aL => have := LMc15.out; omega); intro v124 w16 ho hb hg hat; rw [← Ny123.out] at ho; have n0_ := Aside0.mk (hb); have n1_ := Aside0.mk (ho); clear HB; clear HO_5; have HB := n0_; have HO125 := n1_; clear n0_ n1_; clear ho hb hg hat)); try go_wp2_with (first | (go_at_call 15; (with_reducible refine (class_Of.calls k1 (rd l0 x9_1) a1 t120 _ A9.out).mono ?_); rintro e w' ⟨rfl, ⟨nd, rfl⟩⟩; (try first | exact ⟨rfl, _, World.drewN_drewN _ _ _⟩ | exact ⟨rfl, _, Eq.trans (World.drewN_drewN _ _ _) (congrArg (World.drewN _) (Nat.add_assoc _ _ _))⟩); have p121 : 0 ≤ ((ji10) : Int) := of_decide_eq_true (by first | (with_reducible assumption) | assumption); have q121 : (ji10) < (l0.length : Int) := of_decide_eq_true (by first | (with_reducible assumption) | assumption); obtain ⟨ad121, e121, hx121_0⟩ := Kd.at_int HR0.out (ji10) p121 q121; obtain rfl : ad119 = ad121 := (by injection e121); replace hx121_0 := (HB.out.cell (World.block_lt_of_cell? w _ hx121_0)).trans hx121_0; replace p121 := eq_true p121; replace q121 := eq_true q121) | (go_at_call 15; (with_reducible refine (class_Of.calls k1 (rd l0 (ji10)) a1 t122 _ A13.out).mono ?_); rintro e w' ⟨rfl, ⟨nd, rfl⟩⟩; (try first | exact ⟨rfl, _, World.drewN_drewN _ _ _⟩ | exact ⟨rfl, _, Eq.trans (World.drewN_drewN _ _ _) (congrArg (World.drewN _) (Nat.add_assoc _ _ _))⟩)) | ((with_reducible refine gate_builtin (b := .append) (xs := #[.tmp 33, .tmp 36]) rfl ?_); at_builtin; refine Kd.R_append (Kd.int .i64) (w0 := w) w.heap.size rfl (.tmp 33) (.tmp 36) 68 3 (.int .i64 0) 8 rfl Tryd.underlying68 info3 rfl (by decide) (by omega) u5 x5_1 ji10 [.int .i64 ji10] (fun _ => True) (fun _ => False) rfl rfl ?aP (fun _ hk => hk.elim) ?aF ?aO ?aB ?aS ?aL ?_; (case aP => exact rfl); (case aB => exact (by repeat (first | (with_reducible first | exact HB.out | apply below_alloc | apply pw_below_drewN | apply below_drew1) | exact HB.out))); (case aF => exact (fun _ _ => trivial)); (case aO => exact (by (with_reducible repeat (first | apply Kd.R_alloc | apply Kd.R_drewN | apply Kd.R_drew)); exact HO_5.out)); (case aS => exact (below_size (by repeat (first | (with_reducible first | exact HB.out | apply below_alloc | apply pw_below_drewN | apply below_drew1) | exact HB.out)))); (case aL => have := LMc15.out; omega); intro v124 w16 ho hb hg hat; rw [← Ny123.out] at ho; have n0_ := Aside0.mk (hb); have n1_ := Aside0.mk (ho); clear HB; clear HO_5; have HB := n0_; have HO125 := n1_; clear n0_ n1_; clear ho hb hg hat)))
                      go_roundg k1
                      case measure => have := HK1.out; omega
                      case rel => exact ⟨(y123), (ji10), (by first | rfl | (simp; done) | (simp only [← hji10] <;> (first | rfl | simp)) | (simp [*]; done)), H', ⟨by have := HK1.out; omega⟩, ⟨by (with_reducible repeat (first | apply Kd.R_alloc | apply Kd.R_drewN | apply Kd.R_drew)); exact HO125.out⟩, ⟨by repeat (first | (with_reducible first | exact HB.out | apply below_alloc | apply pw_below_drewN | apply below_drew1) | exact HB.out)⟩⟩
                    · rw [if_neg c15] at H
                      exact absurd H (by simp)
                · rw [if_neg c12] at H
                  exact absurd H (by simp)
              · rw [if_neg c11] at H
                exact absurd H (by simp)
            · rw [if_neg c8] at H
              exact absurd H (by simp)
          · rw [if_neg c7] at H
            exact absurd H (by simp)
      · rw [if_neg c3] at H
        have c3b0 : decide (x9_1 < (l0.length : Int)) = false := decide_eq_false c3
        clear c3
        obtain rfl := Option.some.inj H
        go_wp2
        repeat (go_quiet (fail); try go_wp2)
        go_ret
        exact ⟨_, by first | rfl | (simp [errW_none, errW_some] <;> rfl) | (simp [*, errW_none, errW_some] <;> rfl), by (with_reducible repeat (first | apply Kd.R_alloc | apply Kd.R_drewN | apply Kd.R_drew)); exact HO_5.out, by repeat (first | (with_reducible first | exact HB.out | apply below_alloc | apply pw_below_drewN | apply below_drew1) | exact HB.out)⟩

end Go.Proofs.YtcochbkdgjgaeaaDoor.X
end
section
-- Written by wip/xprint.py over the kit's print.py: the Lean function of each Go function, and the proof that the Go text comes to it.
namespace Go.Proofs.YtcochbkdgjgaeaaDoor.X
open Go.RowKit Go.Proofs.YtcochbkdgjgaeaaDoorW.PrintWords Go.Proofs.YtcochbkdgjgaeaaDoorW.PrintLast Go.Proofs.YtcochbkdgjgaeaaDoorW.PrintMore
attribute [local go_sem] max2_int min2_int max_two min_two max_three min_three max_four min_four   -- for this text's walks alone
set_option linter.unusedVariables false
set_option linter.unusedSimpArgs false

/-! ### object_taken: function 47 -/
def object_taken.l0 : Nat → List (S76) → Int → Int → Int → Option (Int × Int × Bool)
  | 0, _, _, _, _ => none
  | k + 1, x0, x1, x2, x11 => if x2 > 0 then (if x1 ≥ (x0.length : Int) then (some (0, 0, false)) else (if 0 ≤ x1 then (if x1 < (x0.length : Int) then (if (rd_T76 x0 x1).f2 = true then (if (wrap64 (x1 + 1)) ≥ (x0.length : Int) then (some (0, 0, false)) else (object_taken.l0 k x0 (wrap64 (x1 + 2)) (wrap64 (x2 - 1)) x11)) else (if (wrap64 (x1 + 1)) < (x0.length : Int) then (if 0 ≤ (wrap64 (x1 + 1)) then (if (rd_T76 x0 (wrap64 (x1 + 1))).f2 = true then (if 0 ≤ x11 then (if x11 < (x0.length : Int) then (if ((rd_T76 x0 x11).f2 = true) then (object_taken.l0 k x0 (wrap64 (x1 + 1)) (wrap64 (x2 - 1)) x11) else (object_taken.l0 k x0 (wrap64 ((wrap64 (x1 + 1)) + 1)) (wrap64 (x2 - 1)) x11)) else (none)) else (none)) else (object_taken.l0 k x0 (wrap64 (x1 + 1)) (wrap64 (x2 - 1)) x11)) else (none)) else (object_taken.l0 k x0 (wrap64 (x1 + 1)) (wrap64 (x2 - 1)) x11))) else (none)) else (none))) else (if x11 > 0 then (if 0 ≤ x11 then (if x11 < (x0.length : Int) then (if ((rd_T76 x0 x11).f2 = true) then (some (x11, x1, true)) else (if 0 ≤ (wrap64 (x1 - 1)) then (if (wrap64 (x1 - 1)) < (x0.length : Int) then (if ((rd_T76 x0 (wrap64 (x1 - 1))).f2 = true) then (some (x11, x1, true)) else (if 0 ≤ (wrap64 (x11 - 1)) then (if (wrap64 (x11 - 1)) < (x0.length : Int) then (if (rd_T76 x0 (wrap64 (x11 - 1))).f2 = true then (some (wrap64 (x11 - 1), x1, true)) else (some (x11, x1, true))) else (none)) else (none))) else (none)) else (none))) else (none)) else (none)) else (some (x11, x1, true)))
def object_taken.f (k : Nat) (l0 : List (S76)) (a1 : Int) (a2 : Int) (a3 : Bool) : Option (Int × Int × Bool) := if a3 = true then (object_taken.l0 k l0 a1 a2 a1) else (some (a1, wrap64 (a1 + a2), decide ((wrap64 (a1 + a2)) ≤ (l0.length : Int))))
theorem object_taken.mono_l : ∀ k, (∀ y0 y1 y2 y3, LeO (object_taken.l0 k y0 y1 y2 y3) (object_taken.l0 (k + 1) y0 y1 y2 y3))
  | 0 => fun _ _ _ _ r h => by simp [object_taken.l0] at h
  | k + 1 => by
    have ih0 := object_taken.mono_l k
    · intro y0 y1 y2 y3
      unfold object_taken.l0
      repeat' first
      | (with_reducible exact ih0 _ _ _ _)
      | (with_reducible exact LeO.refl _)
      | (with_reducible exact LeO.none _)
      | (with_reducible refine LeO.ite ?_ ?_)
      | (with_reducible refine LeO.bind ?_ (fun _ => ?_))
      | exact ih0 _ _ _ _
      | exact LeO.none _
      | refine LeO.ite ?_ ?_
      | refine LeO.bind ?_ (fun _ => ?_)
theorem object_taken.mono : ∀ a0 a1 a2 a3 k, LeO (object_taken.f k a0 a1 a2 a3) (object_taken.f (k + 1) a0 a1 a2 a3) := by
  intro a0 a1 a2 a3 k
  have ih0 := object_taken.mono_l k
  unfold object_taken.f
  repeat' first
      | (with_reducible exact ih0 _ _ _ _)
      | (with_reducible exact LeO.refl _)
      | (with_reducible exact LeO.none _)
      | (with_reducible refine LeO.ite ?_ ?_)
      | (with_reducible refine LeO.bind ?_ (fun _ => ?_))
      | exact ih0 _ _ _ _
      | exact LeO.none _
      | refine LeO.ite ?_ ?_
      | refine LeO.bind ?_ (fun _ => ?_)
set_option maxHeartbeats 8000000 in
set_option maxRecDepth 100000 in
theorem object_taken.calls (k : Nat) (A0 : Option Addr) (c0 : Nat) (l0 : List (S76)) (a1 : Int) (a2 : Int) (a3 : Bool) (r1 : Int) (r2 : Int) (r3 : Bool) (w : World) (hr0 : Kd.C k76 w A0 l0.length l0) (hc0 : l0.length ≤ c0) (h : object_taken.f k l0 a1 a2 a3 = some (r1, r2, r3)) :
    Calls Tryd.prog 47 #[.slice A0 l0.length c0, .int .i64 a1, .int .i64 a2, .bool a3] w fun e w' => e = .returned (.tuple #[.int .i64 r1, .int .i64 r2, .bool r3]) ∧ Drawn0 w w' := by
  have HR0 := Aside0.mk hr0
  have HC0 := Aside0.mk hc0
  clear hr0 hc0
  have H : (if a3 = true then (object_taken.l0 k l0 a1 a2 a1) else (some (a1, wrap64 (a1 + a2), decide ((wrap64 (a1 + a2)) ≤ (l0.length : Int))))) = some (r1, r2, r3) := h
  clear h
  by_cases c5 : a3 = true
  · subst c5
    have H1 : (object_taken.l0 k l0 a1 a2 a1) = some (r1, r2, r3) := by rw [if_pos rfl] at H; exact H
    clear H
    have H := H1
    clear H1
    have H' := Aside0.mk H
    clear H
    go_enter Tryd.func47, Tryd.ntmps47
    go_wp2
    go_loopg [1, 2] k (fun kq v1 v2 w' => ∃ (x1_1 : Int) (x2_1 : Int), v1 = .int .i64 x1_1 ∧ v2 = .int .i64 x2_1 ∧ Aside0 (object_taken.l0 kq l0 x1_1 x2_1 a1 = some (r1, r2, r3)) ∧ Aside0 (kq ≤ k) ∧ Drawn0 w w')
    case atStart => exact ⟨(a1), (a2), (by first | rfl | (simp; done) | (simp [*]; done)), (by first | rfl | (simp; done) | (simp [*]; done)), H', ⟨Nat.le_refl _⟩, by repeat (first | exact Drawn0.refl _ | apply Drawn0.step)⟩
    case round =>
      clear H'
      try clear p2
      try clear c4
      try clear c5
      obtain ⟨x1_1, x2_1, rfl, rfl, HA, HK1, ⟨m1, rfl⟩⟩ := hrel
      cases gk with
      | zero => exact absurd HA.out (by simp [object_taken.l0])
      | succ k1 =>
        have H := HA.out
        clear HA
        simp only [object_taken.l0] at H
        by_cases c6 : x2_1 > 0
        · rw [if_pos c6] at H
          have c6b0 : decide (0 < x2_1) = true := decide_eq_true c6
          clear c6
          by_cases c7 : x1_1 ≥ (l0.length : Int)
          · rw [if_pos c7] at H
            have c7b0 : decide ((l0.length : Int) ≤ x1_1) = true := decide_eq_true c7
            clear c7
            simp only [Option.some.injEq, Prod.mk.injEq] at H
            obtain ⟨rfl, rfl, rfl⟩ := H
            go_wp2
            go_ret3
            exact ⟨by first | rfl | (simp; done) | (simp [*]; done), by repeat (first | exact Drawn0.refl _ | apply Drawn0.step)⟩
          · rw [if_neg c7] at H
            have c7b0 : decide ((l0.length : Int) ≤ x1_1) = false := decide_eq_false c7
            clear c7
            by_cases c8 : 0 ≤ x1_1
            · rw [if_pos c8] at H
              have c8b0 : decide (0 ≤ x1_1) = true := decide_eq_true c8
              clear c8
              by_cases c9 : x1_1 < (l0.length : Int)
              · rw [if_pos c9] at H
                have c9b0 : decide (x1_1 < (l0.length : Int)) = true := decide_eq_true c9
                clear c9
                obtain ⟨bq10, hbq10⟩ : ∃ b_ : Bool, b_ = ((rd_T76 l0 x1_1).f2) := ⟨_, rfl⟩
                replace H : (if bq10 = true then (if (wrap64 (x1_1 + 1)) ≥ (l0.length : Int) then (some (0, 0, false)) else (object_taken.l0 k1 l0 (wrap64 (x1_1 + 2)) (wrap64 (x2_1 - 1)) a1)) else (if (wrap64 (x1_1 + 1)) < (l0.length : Int) then (if 0 ≤ (wrap64 (x1_1 + 1)) then (if (rd_T76 l0 (wrap64 (x1_1 + 1))).f2 = true then (if 0 ≤ a1 then (if a1 < (l0.length : Int) then (if ((rd_T76 l0 a1).f2 = true) then (object_taken.l0 k1 l0 (wrap64 (x1_1 + 1)) (wrap64 (x2_1 - 1)) a1) else (object_taken.l0 k1 l0 (wrap64 ((wrap64 (x1_1 + 1)) + 1)) (wrap64 (x2_1 - 1)) a1)) else (none)) else (none)) else (object_taken.l0 k1 l0 (wrap64 (x1_1 + 1)) (wrap64 (x2_1 - 1)) a1)) else (none)) else (object_taken.l0 k1 l0 (wrap64 (x1_1 + 1)) (wrap64 (x2_1 - 1)) a1))) = some (r1, r2, r3) := by rw [← hbq10] at H; exact H
                have Nbq10 := Aside0.mk hbq10
                clear hbq10
                by_cases c11 : bq10 = true
                · subst c11
                  have H1 : (if (wrap64 (x1_1 + 1)) ≥ (l0.length : Int) then (some (0, 0, false)) else (object_taken.l0 k1 l0 (wrap64 (x1_1 + 2)) (wrap64 (x2_1 - 1)) a1)) = some (r1, r2, r3) := by rw [if_pos rfl] at H; exact H
                  clear H
                  have H := H1
                  clear H1
                  by_cases c12 : (wrap64 (x1_1 + 1)) ≥ (l0.length : Int)
                  · rw [if_pos c12] at H
                    have c12b0 : decide ((l0.length : Int) ≤ (wrap64 (x1_1 + 1))) = true := decide_eq_true c12
                    clear c12
                    simp only [Option.some.injEq, Prod.mk.injEq] at H
                    obtain ⟨rfl, rfl, rfl⟩ := H
                    have p129 : 0 ≤ (x1_1 : Int) := of_decide_eq_true (by first | (with_reducible assumption) | assumption)
                    have q129 : x1_1 < (l0.length : Int) := of_decide_eq_true (by first | (with_reducible assumption) | assumption)
                    obtain ⟨ad129, e129, hx129_0, hx129_1, hx129_2⟩ := at_T76 HR0.out x1_1 p129 q129
                    (try rw [← Nbq10.out] at hx129_2)
                    cases e129
                    replace p129 := eq_true p129
                    replace q129 := eq_true q129
                    go_wp2
                    go_ret3
                    exact ⟨by first | rfl | (simp; done) | (simp [*]; done), by repeat (first | exact Drawn0.refl _ | apply Drawn0.step)⟩
                  · rw [if_neg c12] at H
                    have c12b0 : decide ((l0.length : Int) ≤ (wrap64 (x1_1 + 1))) = false := decide_eq_false c12
                    clear c12
                    have H' := Aside0.mk H
                    clear H
                    have p129 : 0 ≤ (x1_1 : Int) := of_decide_eq_true (by first | (with_reducible assumption) | assumption)
                    have q129 : x1_1 < (l0.length : Int) := of_decide_eq_true (by first | (with_reducible assumption) | assumption)
                    obtain ⟨ad129, e129, hx129_0, hx129_1, hx129_2⟩ := at_T76 HR0.out x1_1 p129 q129
                    (try rw [← Nbq10.out] at hx129_2)
                    cases e129
                    replace p129 := eq_true p129
                    replace q129 := eq_true q129
                    go_wp2
                    go_roundg k1
                    case measure => have := HK1.out; omega
                    case rel => exact ⟨(wrap64 (x1_1 + 2)), (wrap64 (x2_1 - 1)), (by first | rfl | (simp; done) | (simp [*]; done)), (by first | rfl | (simp; done) | (simp [*]; done)), H', ⟨by have := HK1.out; omega⟩, by repeat (first | exact Drawn0.refl _ | apply Drawn0.step)⟩
                · replace c11 := Bool.eq_false_iff.mpr c11
                  subst c11
                  have H1 : (if (wrap64 (x1_1 + 1)) < (l0.length : Int) then (if 0 ≤ (wrap64 (x1_1 + 1)) then (if (rd_T76 l0 (wrap64 (x1_1 + 1))).f2 = true then (if 0 ≤ a1 then (if a1 < (l0.length : Int) then (if ((rd_T76 l0 a1).f2 = true) then (object_taken.l0 k1 l0 (wrap64 (x1_1 + 1)) (wrap64 (x2_1 - 1)) a1) else (object_taken.l0 k1 l0 (wrap64 ((wrap64 (x1_1 + 1)) + 1)) (wrap64 (x2_1 - 1)) a1)) else (none)) else (none)) else (object_taken.l0 k1 l0 (wrap64 (x1_1 + 1)) (wrap64 (x2_1 - 1)) a1)) else (none)) else (object_taken.l0 k1 l0 (wrap64 (x1_1 + 1)) (wrap64 (x2_1 - 1)) a1)) = some (r1, r2, r3) := by rw [if_neg (show ¬ (false = true) by decide)] at H; exact H
                  clear H
                  have H := H1
                  clear H1
                  by_cases c13 : (wrap64 (x1_1 + 1)) < (l0.length : Int)
                  · rw [if_pos c13] at H
                    have c13b0 : decide ((wrap64 (x1_1 + 1)) < (l0.length : Int)) = true := decide_eq_true c13
                    clear c13
                    obtain ⟨ji14, hji14⟩ : ∃ j_ : Int, (wrap64 (x1_1 + 1)) = j_ := ⟨_, rfl⟩
                    replace H : (if 0 ≤ (ji14) then (if (rd_T76 l0 (ji14)).f2 = true then (if 0 ≤ a1 then (if a1 < (l0.length : Int) then (if ((rd_T76 l0 a1).f2 = true) then (object_taken.l0 k1 l0 ji14 (wrap64 (x2_1 - 1)) a1) else (object_taken.l0 k1 l0 (wrap64 ((ji14) + 1)) (wrap64 (x2_1 - 1)) a1)) else (none)) else (none)) else (object_taken.l0 k1 l0 ji14 (wrap64 (x2_1 - 1)) a1)) else (none)) = some (r1, r2, r3) := by first | (rw [hji14] at H; exact H) | (simp only [hji14] at H ⊢; exact H)
                    (try rw [hji14] at c13b0)
                    have hji14w : (IntKind.i64.wrap (x1_1 + 1)) = ji14 := (i64_w _).trans hji14
                    by_cases c15 : 0 ≤ (ji14)
                    · rw [if_pos c15] at H
                      have c15b0 : decide (0 ≤ (ji14)) = true := decide_eq_true c15
                      clear c15
                      obtain ⟨bq16, hbq16⟩ : ∃ b_ : Bool, b_ = ((rd_T76 l0 (ji14)).f2) := ⟨_, rfl⟩
                      replace H : (if bq16 = true then (if 0 ≤ a1 then (if a1 < (l0.length : Int) then (if ((rd_T76 l0 a1).f2 = true) then (object_taken.l0 k1 l0 ji14 (wrap64 (x2_1 - 1)) a1) else (object_taken.l0 k1 l0 (wrap64 ((ji14) + 1)) (wrap64 (x2_1 - 1)) a1)) else (none)) else (none)) else (object_taken.l0 k1 l0 ji14 (wrap64 (x2_1 - 1)) a1)) = some (r1, r2, r3) := by rw [← hbq16] at H; exact H
                      have Nbq16 := Aside0.mk hbq16
                      clear hbq16
                      by_cases c17 : bq16 = true
                      · subst c17
                        have H1 : (if 0 ≤ a1 then (if a1 < (l0.length : Int) then (if ((rd_T76 l0 a1).f2 = true) then (object_taken.l0 k1 l0 ji14 (wrap64 (x2_1 - 1)) a1) else (object_taken.l0 k1 l0 (wrap64 ((ji14) + 1)) (wrap64 (x2_1 - 1)) a1)) else (none)) else (none)) = some (r1, r2, r3) := by rw [if_pos rfl] at H; exact H
                        clear H
                        have H := H1
                        clear H1
                        by_cases c18 : 0 ≤ a1
                        · rw [if_pos c18] at H
                          have c18b0 : decide (0 ≤ a1) = true := decide_eq_true c18
                          clear c18
                          by_cases c19 : a1 < (l0.length : Int)
                          · rw [if_pos c19] at H
                            have c19b0 : decide (a1 < (l0.length : Int)) = true := decide_eq_true c19
                            clear c19
                            obtain ⟨bq20, hbq20⟩ : ∃ b_ : Bool, b_ = ((rd_T76 l0 a1).f2) := ⟨_, rfl⟩
                            replace H : (if (bq20 = true) then (object_taken.l0 k1 l0 ji14 (wrap64 (x2_1 - 1)) a1) else (object_taken.l0 k1 l0 (wrap64 ((ji14) + 1)) (wrap64 (x2_1 - 1)) a1)) = some (r1, r2, r3) := by rw [← hbq20] at H; exact H
                            have Nbq20 := Aside0.mk hbq20
                            clear hbq20
                            by_cases c21 : (bq20 = true)
                            · subst c21
                              have H1 : (object_taken.l0 k1 l0 ji14 (wrap64 (x2_1 - 1)) a1) = some (r1, r2, r3) := by rw [if_pos rfl] at H; exact H
                              clear H
                              have H := H1
                              clear H1
                              have H' := Aside0.mk H
                              clear H
                              have p129 : 0 ≤ (x1_1 : Int) := of_decide_eq_true (by first | (with_reducible assumption) | assumption)
                              have q129 : x1_1 < (l0.length : Int) := of_decide_eq_true (by first | (with_reducible assumption) | assumption)
                              obtain ⟨ad129, e129, hx129_0, hx129_1, hx129_2⟩ := at_T76 HR0.out x1_1 p129 q129
                              (try rw [← Nbq10.out] at hx129_2)
                              (try rw [← Nbq16.out] at hx129_2)
                              (try rw [← Nbq20.out] at hx129_2)
                              cases e129
                              replace p129 := eq_true p129
                              replace q129 := eq_true q129
                              have p130 : 0 ≤ ((ji14) : Int) := of_decide_eq_true (by first | (with_reducible assumption) | assumption)
                              have q130 : (ji14) < (l0.length : Int) := of_decide_eq_true (by first | (with_reducible assumption) | assumption)
                              obtain ⟨ad130, e130, hx130_0, hx130_1, hx130_2⟩ := at_T76 HR0.out (ji14) p130 q130
                              (try rw [← Nbq10.out] at hx130_2)
                              (try rw [← Nbq16.out] at hx130_2)
                              (try rw [← Nbq20.out] at hx130_2)
                              obtain rfl : ad129 = ad130 := (by injection e130)
                              replace p130 := eq_true p130
                              replace q130 := eq_true q130
                              have p131 : 0 ≤ (a1 : Int) := of_decide_eq_true (by first | (with_reducible assumption) | assumption)
                              have q131 : a1 < (l0.length : Int) := of_decide_eq_true (by first | (with_reducible assumption) | assumption)
                              obtain ⟨ad131, e131, hx131_0, hx131_1, hx131_2⟩ := at_T76 HR0.out a1 p131 q131
                              (try rw [← Nbq10.out] at hx131_2)
                              (try rw [← Nbq16.out] at hx131_2)
                              (try rw [← Nbq20.out] at hx131_2)
                              obtain rfl : ad129 = ad131 := (by injection e131)
                              replace p131 := eq_true p131
                              replace q131 := eq_true q131
                              go_wp2
                              go_roundg k1
                              case measure => have := HK1.out; omega
                              case rel => exact ⟨(ji14), (wrap64 (x2_1 - 1)), (by first | rfl | (simp; done) | (simp only [← hji14] <;> (first | rfl | simp)) | (simp [*]; done)), (by first | rfl | (simp; done) | (simp [*]; done)), H', ⟨by have := HK1.out; omega⟩, by repeat (first | exact Drawn0.refl _ | apply Drawn0.step)⟩
                            · replace c21 := Bool.eq_false_iff.mpr c21
                              subst c21
                              have H1 : (object_taken.l0 k1 l0 (wrap64 ((ji14) + 1)) (wrap64 (x2_1 - 1)) a1) = some (r1, r2, r3) := by rw [if_neg (show ¬ (false = true) by decide)] at H; exact H
                              clear H
                              have H := H1
                              clear H1
                              have H' := Aside0.mk H
                              clear H
                              have p129 : 0 ≤ (x1_1 : Int) := of_decide_eq_true (by first | (with_reducible assumption) | assumption)
                              have q129 : x1_1 < (l0.length : Int) := of_decide_eq_true (by first | (with_reducible assumption) | assumption)
                              obtain ⟨ad129, e129, hx129_0, hx129_1, hx129_2⟩ := at_T76 HR0.out x1_1 p129 q129
                              (try rw [← Nbq10.out] at hx129_2)
                              (try rw [← Nbq16.out] at hx129_2)
                              (try rw [← Nbq20.out] at hx129_2)
                              cases e129
                              replace p129 := eq_true p129
                              replace q129 := eq_true q129
                              have p130 : 0 ≤ ((ji14) : Int) := of_decide_eq_true (by first | (with_reducible assumption) | assumption)
                              have q130 : (ji14) < (l0.length : Int) := of_decide_eq_true (by first | (with_reducible assumption) | assumption)
                              obtain ⟨ad130, e130, hx130_0, hx130_1, hx130_2⟩ := at_T76 HR0.out (ji14) p130 q130
                              (try rw [← Nbq10.out] at hx130_2)
                              (try rw [← Nbq16.out] at hx130_2)
                              (try rw [← Nbq20.out] at hx130_2)
                              obtain rfl : ad129 = ad130 := (by injection e130)
                              replace p130 := eq_true p130
                              replace q130 := eq_true q130
                              have p131 : 0 ≤ (a1 : Int) := of_decide_eq_true (by first | (with_reducible assumption) | assumption)
                              have q131 : a1 < (l0.length : Int) := of_decide_eq_true (by first | (with_reducible assumption) | assumption)
                              obtain ⟨ad131, e131, hx131_0, hx131_1, hx131_2⟩ := at_T76 HR0.out a1 p131 q131
                              (try rw [← Nbq10.out] at hx131_2)
                              (try rw [← Nbq16.out] at hx131_2)
                              (try rw [← Nbq20.out] at hx131_2)
                              obtain rfl : ad129 = ad131 := (by injection e131)
                              replace p131 := eq_true p131
                              replace q131 := eq_true q131
                              go_wp2
                              go_roundg k1
                              case measure => have := HK1.out; omega
                              case rel => exact ⟨(wrap64 ((ji14) + 1)), (wrap64 (x2_1 - 1)), (by first | rfl | (simp; done) | (simp only [← hji14] <;> (first | rfl | simp)) | (simp [*]; done)), (by first | rfl | (simp; done) | (simp [*]; done)), H', ⟨by have := HK1.out; omega⟩, by repeat (first | exact Drawn0.refl _ | apply Drawn0.step)⟩
                          · rw [if_neg c19] at H
                            exact absurd H (by simp)
                        · rw [if_neg c18] at H
                          exact absurd H (by simp)
                      · replace c17 := Bool.eq_false_iff.mpr c17
                        subst c17
                        have H1 : (object_taken.l0 k1 l0 ji14 (wrap64 (x2_1 - 1)) a1) = some (r1, r2, r3) := by rw [if_neg (show ¬ (false = true) by decide)] at H; exact H
                        clear H
                        have H := H1
                        clear H1
                        have H' := Aside0.mk H
                        clear H
                        have p129 : 0 ≤ (x1_1 : Int) := of_decide_eq_true (by first | (with_reducible assumption) | assumption)
                        have q129 : x1_1 < (l0.length : Int) := of_decide_eq_true (by first | (with_reducible assumption) | assumption)
                        obtain ⟨ad129, e129, hx129_0, hx129_1, hx129_2⟩ := at_T76 HR0.out x1_1 p129 q129
                        (try rw [← Nbq10.out] at hx129_2)
                        (try rw [← Nbq16.out] at hx129_2)
                        cases e129
                        replace p129 := eq_true p129
                        replace q129 := eq_true q129
                        have p130 : 0 ≤ ((ji14) : Int) := of_decide_eq_true (by first | (with_reducible assumption) | assumption)
                        have q130 : (ji14) < (l0.length : Int) := of_decide_eq_true (by first | (with_reducible assumption) | assumption)
                        obtain ⟨ad130, e130, hx130_0, hx130_1, hx130_2⟩ := at_T76 HR0.out (ji14) p130 q130
                        (try rw [← Nbq10.out] at hx130_2)
                        (try rw [← Nbq16.out] at hx130_2)
                        obtain rfl : ad129 = ad130 := (by injection e130)
                        replace p130 := eq_true p130
                        replace q130 := eq_true q130
                        go_wp2
                        go_roundg k1
                        case measure => have := HK1.out; omega
                        case rel => exact ⟨(ji14), (wrap64 (x2_1 - 1)), (by first | rfl | (simp; done) | (simp only [← hji14] <;> (first | rfl | simp)) | (simp [*]; done)), (by first | rfl | (simp; done) | (simp [*]; done)), H', ⟨by have := HK1.out; omega⟩, by repeat (first | exact Drawn0.refl _ | apply Drawn0.step)⟩
                    · rw [if_neg c15] at H
                      exact absurd H (by simp)
                  · rw [if_neg c13] at H
                    have c13b0 : decide ((wrap64 (x1_1 + 1)) < (l0.length : Int)) = false := decide_eq_false c13
                    clear c13
                    have H' := Aside0.mk H
                    clear H
                    have p129 : 0 ≤ (x1_1 : Int) := of_decide_eq_true (by first | (with_reducible assumption) | assumption)
                    have q129 : x1_1 < (l0.length : Int) := of_decide_eq_true (by first | (with_reducible assumption) | assumption)
                    obtain ⟨ad129, e129, hx129_0, hx129_1, hx129_2⟩ := at_T76 HR0.out x1_1 p129 q129
                    (try rw [← Nbq10.out] at hx129_2)
                    cases e129
                    replace p129 := eq_true p129
                    replace q129 := eq_true q129
                    go_wp2
                    go_roundg k1
                    case measure => have := HK1.out; omega
                    case rel => exact ⟨(wrap64 (x1_1 + 1)), (wrap64 (x2_1 - 1)), (by first | rfl | (simp; done) | (simp [*]; done)), (by first | rfl | (simp; done) | (simp [*]; done)), H', ⟨by have := HK1.out; omega⟩, by repeat (first | exact Drawn0.refl _ | apply Drawn0.step)⟩
              · rw [if_neg c9] at H
                exact absurd H (by simp)
            · rw [if_neg c8] at H
              exact absurd H (by simp)
        · rw [if_neg c6] at H
          have c6b0 : decide (0 < x2_1) = false := decide_eq_false c6
          clear c6
          by_cases c22 : a1 > 0
          · rw [if_pos c22] at H
            have c22b0 : decide (0 < a1) = true := decide_eq_true c22
            clear c22
            by_cases c23 : 0 ≤ a1
            · rw [if_pos c23] at H
              have c23b0 : decide (0 ≤ a1) = true := decide_eq_true c23
              clear c23
              by_cases c24 : a1 < (l0.length : Int)
              · rw [if_pos c24] at H
                have c24b0 : decide (a1 < (l0.length : Int)) = true := decide_eq_true c24
                clear c24
                obtain ⟨bq25, hbq25⟩ : ∃ b_ : Bool, b_ = ((rd_T76 l0 a1).f2) := ⟨_, rfl⟩
                replace H : (if (bq25 = true) then (some (a1, x1_1, true)) else (if 0 ≤ (wrap64 (x1_1 - 1)) then (if (wrap64 (x1_1 - 1)) < (l0.length : Int) then (if ((rd_T76 l0 (wrap64 (x1_1 - 1))).f2 = true) then (some (a1, x1_1, true)) else (if 0 ≤ (wrap64 (a1 - 1)) then (if (wrap64 (a1 - 1)) < (l0.length : Int) then (if (rd_T76 l0 (wrap64 (a1 - 1))).f2 = true then (some (wrap64 (a1 - 1), x1_1, true)) else (some (a1, x1_1, true))) else (none)) else (none))) else (none)) else (none))) = some (r1, r2, r3) := by rw [← hbq25] at H; exact H
                have Nbq25 := Aside0.mk hbq25
                clear hbq25
                by_cases c26 : (bq25 = true)
                · subst c26
                  have H1 : (some (a1, x1_1, true)) = some (r1, r2, r3) := by rw [if_pos rfl] at H; exact H
                  clear H
                  have H := H1
                  clear H1
                  simp only [Option.some.injEq, Prod.mk.injEq] at H
                  obtain ⟨rfl, rfl, rfl⟩ := H
                  have p126 : 0 ≤ (a1 : Int) := of_decide_eq_true (by first | (with_reducible assumption) | assumption)
                  have q126 : a1 < (l0.length : Int) := of_decide_eq_true (by first | (with_reducible assumption) | assumption)
                  obtain ⟨ad126, e126, hx126_0, hx126_1, hx126_2⟩ := at_T76 HR0.out a1 p126 q126
                  (try rw [← Nbq25.out] at hx126_2)
                  cases e126
                  replace p126 := eq_true p126
                  replace q126 := eq_true q126
                  go_wp2
                  go_ret3
                  exact ⟨by first | rfl | (simp; done) | (simp [*]; done), by repeat (first | exact Drawn0.refl _ | apply Drawn0.step)⟩
                · replace c26 := Bool.eq_false_iff.mpr c26
                  subst c26
                  have H1 : (if 0 ≤ (wrap64 (x1_1 - 1)) then (if (wrap64 (x1_1 - 1)) < (l0.length : Int) then (if ((rd_T76 l0 (wrap64 (x1_1 - 1))).f2 = true) then (some (a1, x1_1, true)) else (if 0 ≤ (wrap64 (a1 - 1)) then (if (wrap64 (a1 - 1)) < (l0.length : Int) then (if (rd_T76 l0 (wrap64 (a1 - 1))).f2 = true then (some (wrap64 (a1 - 1), x1_1, true)) else (some (a1, x1_1, true))) else (none)) else (none))) else (none)) else (none)) = some (r1, r2, r3) := by rw [if_neg (show ¬ (false = true) by decide)] at H; exact H
                  clear H
                  have H := H1
                  clear H1
                  obtain ⟨ji27, hji27⟩ : ∃ j_ : Int, (wrap64 (x1_1 - 1)) = j_ := ⟨_, rfl⟩
                  replace H : (if 0 ≤ (ji27) then (if (ji27) < (l0.length : Int) then (if ((rd_T76 l0 (ji27)).f2 = true) then (some (a1, x1_1, true)) else (if 0 ≤ (wrap64 (a1 - 1)) then (if (wrap64 (a1 - 1)) < (l0.length : Int) then (if (rd_T76 l0 (wrap64 (a1 - 1))).f2 = true then (some (wrap64 (a1 - 1), x1_1, true)) else (some (a1, x1_1, true))) else (none)) else (none))) else (none)) else (none)) = some (r1, r2, r3) := by first | (rw [hji27] at H; exact H) | (simp only [hji27] at H ⊢; exact H)
                  have hji27w : (IntKind.i64.wrap (x1_1 - 1)) = ji27 := (i64_w _).trans hji27
                  by_cases c28 : 0 ≤ (ji27)
                  · rw [if_pos c28] at H
                    have c28b0 : decide (0 ≤ (ji27)) = true := decide_eq_true c28
                    clear c28
                    by_cases c29 : (ji27) < (l0.length : Int)
                    · rw [if_pos c29] at H
                      have c29b0 : decide ((ji27) < (l0.length : Int)) = true := decide_eq_true c29
                      clear c29
                      obtain ⟨bq30, hbq30⟩ : ∃ b_ : Bool, b_ = ((rd_T76 l0 (ji27)).f2) := ⟨_, rfl⟩
                      replace H : (if (bq30 = true) then (some (a1, x1_1, true)) else (if 0 ≤ (wrap64 (a1 - 1)) then (if (wrap64 (a1 - 1)) < (l0.length : Int) then (if (rd_T76 l0 (wrap64 (a1 - 1))).f2 = true then (some (wrap64 (a1 - 1), x1_1, true)) else (some (a1, x1_1, true))) else (none)) else (none))) = some (r1, r2, r3) := by rw [← hbq30] at H; exact H
                      have Nbq30 := Aside0.mk hbq30
                      clear hbq30
                      by_cases c31 : (bq30 = true)
                      · subst c31
                        have H1 : (some (a1, x1_1, true)) = some (r1, r2, r3) := by rw [if_pos rfl] at H; exact H
                        clear H
                        have H := H1
                        clear H1
                        simp only [Option.some.injEq, Prod.mk.injEq] at H
                        obtain ⟨rfl, rfl, rfl⟩ := H
                        have p126 : 0 ≤ (a1 : Int) := of_decide_eq_true (by first | (with_reducible assumption) | assumption)
                        have q126 : a1 < (l0.length : Int) := of_decide_eq_true (by first | (with_reducible assumption) | assumption)
                        obtain ⟨ad126, e126, hx126_0, hx126_1, hx126_2⟩ := at_T76 HR0.out a1 p126 q126
                        (try rw [← Nbq25.out] at hx126_2)
                        (try rw [← Nbq30.out] at hx126_2)
                        cases e126
                        replace p126 := eq_true p126
                        replace q126 := eq_true q126
                        have p127 : 0 ≤ ((ji27) : Int) := of_decide_eq_true (by first | (with_reducible assumption) | assumption)
                        have q127 : (ji27) < (l0.length : Int) := of_decide_eq_true (by first | (with_reducible assumption) | assumption)
                        obtain ⟨ad127, e127, hx127_0, hx127_1, hx127_2⟩ := at_T76 HR0.out (ji27) p127 q127
                        (try rw [← Nbq25.out] at hx127_2)
                        (try rw [← Nbq30.out] at hx127_2)
                        obtain rfl : ad126 = ad127 := (by injection e127)
                        replace p127 := eq_true p127
                        replace q127 := eq_true q127
                        go_wp2
                        go_ret3
                        exact ⟨by first | rfl | (simp; done) | (simp only [← hji27] <;> (first | rfl | simp)) | (simp [*]; done), by repeat (first | exact Drawn0.refl _ | apply Drawn0.step)⟩
                      · replace c31 := Bool.eq_false_iff.mpr c31
                        subst c31
                        have H1 : (if 0 ≤ (wrap64 (a1 - 1)) then (if (wrap64 (a1 - 1)) < (l0.length : Int) then (if (rd_T76 l0 (wrap64 (a1 - 1))).f2 = true then (some (wrap64 (a1 - 1), x1_1, true)) else (some (a1, x1_1, true))) else (none)) else (none)) = some (r1, r2, r3) := by rw [if_neg (show ¬ (false = true) by decide)] at H; exact H
                        clear H
                        have H := H1
                        clear H1
                        obtain ⟨ji32, hji32⟩ : ∃ j_ : Int, (wrap64 (a1 - 1)) = j_ := ⟨_, rfl⟩
                        replace H : (if 0 ≤ (ji32) then (if (ji32) < (l0.length : Int) then (if (rd_T76 l0 (ji32)).f2 = true then (some (ji32, x1_1, true)) else (some (a1, x1_1, true))) else (none)) else (none)) = some (r1, r2, r3) := by first | (rw [hji32] at H; exact H) | (simp only [hji32] at H ⊢; exact H)
                        have hji32w : (IntKind.i64.wrap (a1 - 1)) = ji32 := (i64_w _).trans hji32
                        by_cases c33 : 0 ≤ (ji32)
                        · rw [if_pos c33] at H
                          have c33b0 : decide (0 ≤ (ji32)) = true := decide_eq_true c33
                          clear c33
                          by_cases c34 : (ji32) < (l0.length : Int)
                          · rw [if_pos c34] at H
                            have c34b0 : decide ((ji32) < (l0.length : Int)) = true := decide_eq_true c34
                            clear c34
                            obtain ⟨bq35, hbq35⟩ : ∃ b_ : Bool, b_ = ((rd_T76 l0 (ji32)).f2) := ⟨_, rfl⟩
                            replace H : (if bq35 = true then (some (ji32, x1_1, true)) else (some (a1, x1_1, true))) = some (r1, r2, r3) := by rw [← hbq35] at H; exact H
                            have Nbq35 := Aside0.mk hbq35
                            clear hbq35
                            by_cases c36 : bq35 = true
                            · subst c36
                              have H1 : (some (ji32, x1_1, true)) = some (r1, r2, r3) := by rw [if_pos rfl] at H; exact H
                              clear H
                              have H := H1
                              clear H1
                              simp only [Option.some.injEq, Prod.mk.injEq] at H
                              obtain ⟨rfl, rfl, rfl⟩ := H
                              have p126 : 0 ≤ (a1 : Int) := of_decide_eq_true (by first | (with_reducible assumption) | assumption)
                              have q126 : a1 < (l0.length : Int) := of_decide_eq_true (by first | (with_reducible assumption) | assumption)
                              obtain ⟨ad126, e126, hx126_0, hx126_1, hx126_2⟩ := at_T76 HR0.out a1 p126 q126
                              (try rw [← Nbq25.out] at hx126_2)
                              (try rw [← Nbq30.out] at hx126_2)
                              (try rw [← Nbq35.out] at hx126_2)
                              cases e126
                              replace p126 := eq_true p126
                              replace q126 := eq_true q126
                              have p127 : 0 ≤ ((ji27) : Int) := of_decide_eq_true (by first | (with_reducible assumption) | assumption)
                              have q127 : (ji27) < (l0.length : Int) := of_decide_eq_true (by first | (with_reducible assumption) | assumption)
                              obtain ⟨ad127, e127, hx127_0, hx127_1, hx127_2⟩ := at_T76 HR0.out (ji27) p127 q127
                              (try rw [← Nbq25.out] at hx127_2)
                              (try rw [← Nbq30.out] at hx127_2)
                              (try rw [← Nbq35.out] at hx127_2)
                              obtain rfl : ad126 = ad127 := (by injection e127)
                              replace p127 := eq_true p127
                              replace q127 := eq_true q127
                              have p128 : 0 ≤ ((ji32) : Int) := of_decide_eq_true (by first | (with_reducible assumption) | assumption)
                              have q128 : (ji32) < (l0.length : Int) := of_decide_eq_true (by first | (with_reducible assumption) | assumption)
                              obtain ⟨ad128, e128, hx128_0, hx128_1, hx128_2⟩ := at_T76 HR0.out (ji32) p128 q128
                              (try rw [← Nbq25.out] at hx128_2)
                              (try rw [← Nbq30.out] at hx128_2)
                              (try rw [← Nbq35.out] at hx128_2)
                              obtain rfl : ad126 = ad128 := (by injection e128)
                              replace p128 := eq_true p128
                              replace q128 := eq_true q128
                              go_wp2
                              go_ret3
                              exact ⟨by first | rfl | (simp; done) | (simp only [← hji27, ← hji32] <;> (first | rfl | simp)) | (simp [*]; done), by repeat (first | exact Drawn0.refl _ | apply Drawn0.step)⟩
                            · replace c36 := Bool.eq_false_iff.mpr c36
                              subst c36
                              have H1 : (some (a1, x1_1, true)) = some (r1, r2, r3) := by rw [if_neg (show ¬ (false = true) by decide)] at H; exact H
                              clear H
                              have H := H1
                              clear H1
                              simp only [Option.some.injEq, Prod.mk.injEq] at H
                              obtain ⟨rfl, rfl, rfl⟩ := H
                              have p126 : 0 ≤ (a1 : Int) := of_decide_eq_true (by first | (with_reducible assumption) | assumption)
                              have q126 : a1 < (l0.length : Int) := of_decide_eq_true (by first | (with_reducible assumption) | assumption)
                              obtain ⟨ad126, e126, hx126_0, hx126_1, hx126_2⟩ := at_T76 HR0.out a1 p126 q126
                              (try rw [← Nbq25.out] at hx126_2)
                              (try rw [← Nbq30.out] at hx126_2)
                              (try rw [← Nbq35.out] at hx126_2)
                              cases e126
                              replace p126 := eq_true p126
                              replace q126 := eq_true q126
                              have p127 : 0 ≤ ((ji27) : Int) := of_decide_eq_true (by first | (with_reducible assumption) | assumption)
                              have q127 : (ji27) < (l0.length : Int) := of_decide_eq_true (by first | (with_reducible assumption) | assumption)
                              obtain ⟨ad127, e127, hx127_0, hx127_1, hx127_2⟩ := at_T76 HR0.out (ji27) p127 q127
                              (try rw [← Nbq25.out] at hx127_2)
                              (try rw [← Nbq30.out] at hx127_2)
                              (try rw [← Nbq35.out] at hx127_2)
                              obtain rfl : ad126 = ad127 := (by injection e127)
                              replace p127 := eq_true p127
                              replace q127 := eq_true q127
                              have p128 : 0 ≤ ((ji32) : Int) := of_decide_eq_true (by first | (with_reducible assumption) | assumption)
                              have q128 : (ji32) < (l0.length : Int) := of_decide_eq_true (by first | (with_reducible assumption) | assumption)
                              obtain ⟨ad128, e128, hx128_0, hx128_1, hx128_2⟩ := at_T76 HR0.out (ji32) p128 q128
                              (try rw [← Nbq25.out] at hx128_2)
                              (try rw [← Nbq30.out] at hx128_2)
                              (try rw [← Nbq35.out] at hx128_2)
                              obtain rfl : ad126 = ad128 := (by injection e128)
                              replace p128 := eq_true p128
                              replace q128 := eq_true q128
                              go_wp2
                              go_ret3
                              exact ⟨by first | rfl | (simp; done) | (simp only [← hji27, ← hji32] <;> (first | rfl | simp)) | (simp [*]; done), by repeat (first | exact Drawn0.refl _ | apply Drawn0.step)⟩
                          · rw [if_neg c34] at H
                            exact absurd H (by simp)
                        · rw [if_neg c33] at H
                          exact absurd H (by simp)
                    · rw [if_neg c29] at H
                      exact absurd H (by simp)
                  · rw [if_neg c28] at H
                    exact absurd H (by simp)
              · rw [if_neg c24] at H
                exact absurd H (by simp)
            · rw [if_neg c23] at H
              exact absurd H (by simp)
          · rw [if_neg c22] at H
            have c22b0 : decide (0 < a1) = false := decide_eq_false c22
            clear c22
            simp only [Option.some.injEq, Prod.mk.injEq] at H
            obtain ⟨rfl, rfl, rfl⟩ := H
            go_wp2
            go_ret3
            exact ⟨by first | rfl | (simp; done) | (simp [*]; done), by repeat (first | exact Drawn0.refl _ | apply Drawn0.step)⟩
  · replace c5 := Bool.eq_false_iff.mpr c5
    subst c5
    have H1 : (some (a1, wrap64 (a1 + a2), decide ((wrap64 (a1 + a2)) ≤ (l0.length : Int)))) = some (r1, r2, r3) := by rw [if_neg (show ¬ (false = true) by decide)] at H; exact H
    clear H
    have H := H1
    clear H1
    simp only [Option.some.injEq, Prod.mk.injEq] at H
    obtain ⟨rfl, rfl, rfl⟩ := H
    go_enter Tryd.func47, Tryd.ntmps47
    go_wp2
    go_ret3
    exact ⟨by first | rfl | (simp; done) | (simp [*]; done), by repeat (first | exact Drawn0.refl _ | apply Drawn0.step)⟩

end Go.Proofs.YtcochbkdgjgaeaaDoor.X
end
