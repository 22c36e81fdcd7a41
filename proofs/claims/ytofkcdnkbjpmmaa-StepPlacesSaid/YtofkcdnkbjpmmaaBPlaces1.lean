/-
  Texts of one proof in one file (wip/bundle.py): XO, X0, XS, XL, X2, X3, X4, X6, X7, X8, X9, LN, X5, X13, X14, X15, X16, X10, X45, X11.
  Conditions: none.
-/
import Derived.Test.YtofkcdnkbjpmmaaRows
import Derived.Test.YtofkcdnkbjpmmaaWWords
import Derived.Test.YtofkcdnkbjpmmaaWLast
import Derived.Deep.Slices
import Derived.ChangeArms
import Derived.ChangeShapes
import Derived.RowKit
import Derived.WideShapes
import Derived.SizedLaws
import Derived.Test.YtofkcdnkbjpmmaaProg
import Derived.Below
import Derived.Deep.Draws
import Derived.Deep.AppendLies
import Derived.Maps.AppendAt
import Derived.OwnWalk
import Derived.Laws.BytesArg
import Derived.Laws.MakeOwn
import Derived.Laws.OwnMore
import Derived.Deep.OwnRows
import Derived.Tactics
import Derived.Lib.ConvBytes
import Derived.Laws.Slices
import Derived.WalkKit
import Derived.KernelRfl
import Derived.RowKit3
import Derived.Deep.LoopGhost
import Derived.Deep.QuietTactic
import Derived.BigQuiet
import Derived.WideLaws
import Derived.Deep.DeepCutAuto
import Derived.Deep.CutBlock
import Derived.Deep.RegionHeld3
import Derived.Laws.Rows
import Derived.Lib.AppendStr
import Derived.ArgAppend
import Derived.Laws.IdiomCopy
import Derived.OrdersHeld
import Derived.Laws.BitsLemmas
import Derived.Lib.SlBytesConst
import Derived.Lib.Bytealg
import Derived.Lib.Bytes
import Derived.Shelf.Bytes.SlCountOne
import Derived.Shelf.Bytes.SlIndexAt
import Derived.Laws.Externs
import Derived.Lib.SliceRun
import Derived.Lib.SmallJoins
import Derived.Lib.SlSplitV
import Derived.Test.YtofkcdnkbjpmmaaWTab
import Derived.Test.YtofkcdnkbjpmmaaWFour
import Derived.Test.YtofkcdnkbjpmmaaWQPut
import Derived.Test.YtofkcdnkbjpmmaaWApart
import Derived.Test.YtofkcdnkbjpmmaaWArr
import Derived.Test.YtofkcdnkbjpmmaaWZeros
import Derived.Test.YtofkcdnkbjpmmaaWFoot
import Derived.Test.YtofkcdnkbjpmmaaWKept
import Derived.Test.YtofkcdnkbjpmmaaWShare
import Derived.Test.YtofkcdnkbjpmmaaWN
import Derived.Test.YtofkcdnkbjpmmaaWFootNe
import Derived.Test.YtofkcdnkbjpmmaaWAt
import Derived.Test.YtofkcdnkbjpmmaaWEqStruct
import Derived.Test.YtofkcdnkbjpmmaaWRepsOne
import Derived.Test.YtofkcdnkbjpmmaaWInv
import Derived.Test.YtofkcdnkbjpmmaaWInvWords
import Derived.Test.YtofkcdnkbjpmmaaWGuard
import Derived.Test.YtofkcdnkbjpmmaaWNEv
import Derived.Test.YtofkcdnkbjpmmaaWMore
section
namespace Go.Proofs.Ytofkcdnkbjpmmaa.XO
open Go.RowKit Go.ChangeShapes Go.WideShapes Go.Deep Go.Proofs.YtofkcdnkbjpmmaaW.PrintWords

def okI64 (n : Int) : Prop := -9223372036854775808 ≤ n ∧ n ≤ 9223372036854775807
def okU8 (n : Int) : Prop := 0 ≤ n ∧ n ≤ 255
def okStr (s : ByteArray) : Prop := s.size ≤ 140737488351232
def okSl {α : Type} (B : Nat) (ok : α → Prop) (l : List α) : Prop := l.length * B ≤ 140737488351232 ∧ ∀ x ∈ l, ok x
def szOne {α : Type} (_ : α) : Nat := 1
def szStr (s : ByteArray) : Nat := s.size + 1
def szSl {α : Type} (sz : α → Nat) (l : List α) : Nat := (l.map sz).sum + 1
def Opens {α : Type} (P : Program) (t : TypeId) (d : Kd α) (ok : α → Prop) (sz : α → Nat) : Prop :=
  ∀ (H : Type) (enc : TypeId × Value → H) (W : World) (fuel : Nat) (cs : List Value) (x : DataW H × List MemPlace),
    DataW.trod enc P W 0 (fun _ => true) true fuel t cs = some x → (x.1.weights P t).all (· ≤ reachBytes) = true →
    ∃ a, d.K W a cs ∧ ok a ∧ sz a ≤ Rows.uptoBulk x.1

section
variable {P : Program} {t e : TypeId}
theorem Opens.get {α : Type} {d : Kd α} {ok : α → Prop} {sz : α → Nat} (h : Opens P t d ok sz) {H : Type} {enc : TypeId × Value → H} {W : World} {fuel : Nat} {cs : List Value} {x : DataW H × List MemPlace}
    (hx : DataW.trod enc P W 0 (fun _ => true) true fuel t cs = some x) (hw : (x.1.weights P t).all (· ≤ reachBytes) = true) : ∃ a, d.K W a cs ∧ ok a ∧ sz a ≤ Rows.uptoBulk x.1 := h _ _ _ _ _ _ hx hw
theorem wf_i64 {n : Int} (h : (Lit.int .i64 n).wf = true) : okI64 n := by
  have h1 : (decide (IntKind.i64.min ≤ n) && decide (n ≤ IntKind.i64.max)) = true := h
  rw [Bool.and_eq_true] at h1
  exact ⟨of_decide_eq_true h1.1, of_decide_eq_true h1.2⟩
theorem wf_u8 {n : Int} (h : (Lit.int .u8 n).wf = true) : okU8 n := by
  have h1 : (decide (IntKind.u8.min ≤ n) && decide (n ≤ IntKind.u8.max)) = true := h
  rw [Bool.and_eq_true] at h1
  exact ⟨of_decide_eq_true h1.1, of_decide_eq_true h1.2⟩
theorem opens_i64 (hu : P.underlying t = some (.int .i64)) : Opens P t (Kd.int .i64) okI64 szOne := by
  intro H enc W fuel cs x h _
  obtain ⟨n, rfl, rfl, hwf⟩ := DataW.trod_int hu h
  exact ⟨n, rfl, wf_i64 hwf, by simp [szOne, Rows.uptoBulk]⟩
theorem opens_u8 (hu : P.underlying t = some (.int .u8)) : Opens P t (Kd.int .u8) okU8 szOne := by
  intro H enc W fuel cs x h _
  obtain ⟨n, rfl, rfl, hwf⟩ := DataW.trod_int hu h
  exact ⟨n, rfl, wf_u8 hwf, by simp [szOne, Rows.uptoBulk]⟩
theorem opens_str (hu : P.underlying t = some .string) : Opens P t Kd.string okStr szStr := by
  intro H enc W fuel cs x h hw
  obtain ⟨s, rfl, rfl, hm⟩ := DataW.trod_string hu h
  have e : s.data.toList.length = s.size := by rw [Array.length_toList]; rfl
  refine ⟨s, rfl, ?_, ?_⟩
  · simp only [DataW.weights, List.all_cons, List.all_nil, Bool.and_true] at hw
    have h1 := of_decide_eq_true hw
    rw [e] at h1
    exact h1
  · simp only [szStr, Rows.uptoBulk, e]; omega
theorem weightsAll_mem {H : Type} {e : TypeId} {l : List (DataW H)} {d : DataW H} (hd : d ∈ l) {p : Nat → Bool} (h : (DataW.weightsAll P e l).all p = true) : (d.weights P e).all p = true := by
  induction l with
  | nil => cases hd
  | cons b l ih =>
    simp only [DataW.weightsAll, List.all_append, Bool.and_eq_true] at h
    cases List.mem_cons.1 hd with
    | inl e => subst e; exact h.1
    | inr e => exact ih e h.2
theorem bulkAll_append {H : Type} (l r : List (DataW H)) : Rows.uptoBulkAll (l ++ r) = Rows.uptoBulkAll l + Rows.uptoBulkAll r := by
  induction l with
  | nil => simp [Rows.uptoBulkAll]
  | cons x l ih => simp only [List.cons_append, Rows.uptoBulkAll, ih]; omega
theorem opens_list {α : Type} {ok : α → Prop} {sz : α → Nat} (n : Nat) : ∀ {H : Type} (D : Nat → DataW H) {Q : Nat → α → Prop}, (∀ i, i < n → ∃ a, Q i a ∧ ok a ∧ sz a ≤ Rows.uptoBulk (D i)) →
    ∃ xs : List α, xs.length = n ∧ (∀ i a, xs[i]? = some a → Q i a) ∧ (∀ x ∈ xs, ok x) ∧ (xs.map sz).sum ≤ Rows.uptoBulkAll ((List.range n).map D) := by
  intro H D Q h
  induction n with
  | zero => exact ⟨[], rfl, (fun i a h => by simp at h), (fun x hx => absurd hx List.not_mem_nil), by simp⟩
  | succ n ih =>
    obtain ⟨xs, hl, hq, hok, hs⟩ := ih (fun i hi => h i (by omega))
    obtain ⟨a, ha, hoa, hsa⟩ := h n (by omega)
    refine ⟨xs ++ [a], by simp [hl], fun i b hb => ?_, fun x hx => ?_, ?_⟩
    · by_cases hi : i < xs.length
      · rw [List.getElem?_append_left hi] at hb
        exact hq i b hb
      · rw [List.getElem?_append_right (by omega)] at hb
        have h0 : i - xs.length = 0 := by
          by_cases h1 : i - xs.length = 0
          · exact h1
          · obtain ⟨m, hm⟩ : ∃ m, i - xs.length = m + 1 := ⟨i - xs.length - 1, by omega⟩
            rw [hm] at hb; simp at hb
        rw [h0] at hb
        simp at hb
        subst hb
        have : i = n := by omega
        rw [this]; exact ha
    · rcases List.mem_append.1 hx with hx | hx
      · exact hok x hx
      · rw [List.mem_singleton.1 hx]; exact hoa
    · rw [List.range_succ, List.map_append (f := D), bulkAll_append, List.map_append (f := sz), List.sum_append]
      simp only [List.map_cons, List.map_nil, List.sum_cons, List.sum_nil, Rows.uptoBulkAll]
      omega
theorem opens_sl {α : Type} {d : Kd α} {ok : α → Prop} {sz : α → Nat} {B : Nat} (hu : P.underlying t = some (.slice e)) (he : Opens P e d ok sz) (hc : P.cellsOf e = d.sz) (hb : P.bytesOf e = B) :
    Opens P t (Kd.slice e d) (okSl B ok) (szSl sz) := by
  intro H enc W fuel cs x h hw
  rcases open_slice hu h with ⟨rfl, rfl⟩ | ⟨a, len, cap, m, n, D, Pl, rfl, _, hl, hm, hmm, rfl, hi⟩
  · refine ⟨[], ⟨none, 0, rfl, Nat.le_refl _, ?_⟩, ⟨by simp, fun x hx => by cases hx⟩, by simp [szSl, Rows.uptoBulk]⟩
    exact ⟨rfl, by simp, fun h0 => absurd h0 (by simp)⟩
  · have hmc : m = cap := by simpa using hmm
    subst hmc
    simp only [DataW.weights, hu] at hw
    rw [List.all_cons, Bool.and_eq_true, List.all_append, Bool.and_eq_true] at hw
    obtain ⟨hw0, hwe, _⟩ := hw
    obtain ⟨xs, hxl, hxq, hxo, hxs⟩ := opens_list (α := α) (ok := ok) (sz := sz) len D (Q := fun i y => ∃ cs', W.cells? 0 (a.add (i * P.cellsOf e)) (P.cellsOf e) = some cs' ∧ d.K W y cs') (fun i hil => by
      obtain ⟨cs', hcs, ht⟩ := hi i (by omega)
      obtain ⟨y, hK, hok, hsz⟩ := he.get ht (weightsAll_mem (List.mem_map.2 ⟨i, List.mem_range.2 hil, rfl⟩) hwe)
      exact ⟨y, ⟨cs', hcs, hK⟩, hok, hsz⟩)
    refine ⟨xs, ⟨some a, m, by rw [hxl], by omega, ?_⟩, ⟨?_, hxo⟩, ?_⟩
    · have hmx : m ≤ maxLen := hm
      unfold maxLen at hmx
      refine ⟨rfl, by omega, fun _ => ⟨a, rfl, fun j p hj => ?_⟩⟩
      · obtain ⟨cs', hcs, hK⟩ := hxq j p hj
        obtain ⟨_, hlen, hat⟩ := World.cells?_some hcs
        refine ⟨cs', by rw [hlen, hc], hK, fun i u hu' => ?_⟩
        have hil : i < P.cellsOf e := by
          obtain ⟨h1, _⟩ := List.getElem?_eq_some_iff.1 hu'
          omega
        have h2 := hat i hil
        rw [hu'] at h2
        rw [← hc, ← h2, Go.Deep.add_add]
    · have h3 : (((List.range len).map D).length + ((List.range (m - len)).map fun j => D (len + j)).length) * P.bytesOf e ≤ reachBytes := of_decide_eq_true hw0
      simp only [List.length_map, List.length_range, hb] at h3
      rw [hxl]
      have h4 : len * B ≤ (len + (m - len)) * B := Nat.mul_le_mul_right _ (by omega)
      have h5 : reachBytes = 140737488351232 := by decide
      omega
    · simp only [szSl, Rows.uptoBulk]
      omega
theorem opens_iso {α β : Type} {d : Kd α} {f : β → α} {ok : α → Prop} {sz : α → Nat} (g : α → β) (hg : ∀ a, f (g a) = a) (h : Opens P t d ok sz) : Opens P t (Kd.iso d f) (fun b => ok (f b)) (fun b => sz (f b)) := by
  intro H enc W fuel cs x hx hw
  obtain ⟨a, hK, hok, hs⟩ := h.get hx hw
  refine ⟨g a, ?_, ?_, ?_⟩
  · show d.K W (f (g a)) cs
    rw [hg]; exact hK
  · show ok (f (g a))
    rw [hg]; exact hok
  · show sz (f (g a)) ≤ _
    rw [hg]; exact hs
/-- The fields of a struct from one on; their cells from off on. -/
def OF {α : Type} (P : Program) (fs : List Field) (off : Nat) (d : Kd α) (ok : α → Prop) (sz : α → Nat) : Prop :=
  ∀ (H : Type) (enc : TypeId × Value → H) (W : World) (n : Nat) (cs : List Value) (ys : List (DataW H × List MemPlace)), cs.length = off + d.sz → ys.length = fs.length →
    (∀ (j : Nat) (f : Field), fs[j]? = some f → DataW.trod enc P W 0 (fun _ => true) true n f.type ((cs.drop f.offset).take (P.cellsOf f.type)) = ys[j]?) →
    (DataW.weightsEach P (fs.map (·.type)) (ys.map (·.1))).all (· ≤ reachBytes) = true → ∃ a, d.K W a (cs.drop off) ∧ ok a ∧ sz a ≤ Rows.uptoBulkAll (ys.map (·.1))
theorem of_last {α : Type} {f : Field} {off : Nat} {d : Kd α} {ok : α → Prop} {sz : α → Nat} (ho : f.offset = off) (hc : P.cellsOf f.type = d.sz) (h : Opens P f.type d ok sz) : OF P [f] off d ok sz := by
  intro H enc W n cs ys hl hy hf hw
  obtain ⟨y, rfl⟩ : ∃ y, ys = [y] := by
    match ys, hy with
    | [y], _ => exact ⟨y, rfl⟩
  have h1 := hf 0 f rfl
  rw [ho, hc, List.take_of_length_le (by rw [List.length_drop]; omega)] at h1
  simp only [List.map_cons, List.map_nil, DataW.weightsEach, List.append_nil] at hw
  obtain ⟨a, hK, hok, hs⟩ := h.get h1 hw
  exact ⟨a, hK, hok, by simp only [List.map_cons, List.map_nil, Rows.uptoBulkAll]; omega⟩
theorem of_cons {α β : Type} {f : Field} {fs : List Field} {off : Nat} {d : Kd α} {d' : Kd β} {ok : α → Prop} {ok' : β → Prop} {sz : α → Nat} {sz' : β → Nat} (ho : f.offset = off) (hc : P.cellsOf f.type = d.sz) (h : Opens P f.type d ok sz) (h' : OF P fs (off + d.sz) d' ok' sz') :
    OF P (f :: fs) off (Kd.pair d d') (fun x => ok x.1 ∧ ok' x.2) (fun x => sz x.1 + sz' x.2) := by
  intro H enc W n cs ys hl hy hf hw
  have hl : cs.length = off + (d.sz + d'.sz) := hl
  obtain ⟨y, ys, rfl⟩ : ∃ y zs, ys = y :: zs := by
    match ys, hy with
    | y :: zs, _ => exact ⟨y, zs, rfl⟩
  have h1 := hf 0 f rfl
  rw [ho, hc] at h1
  simp only [List.map_cons, DataW.weightsEach, List.all_append, Bool.and_eq_true] at hw
  obtain ⟨a, hK, hok, hs⟩ := h.get h1 hw.1
  obtain ⟨b, hK', hok', hs'⟩ := h' H enc W n cs ys (by omega) (by simpa using hy) (fun j g hj => by simpa using hf (j + 1) g (by simpa using hj)) hw.2
  refine ⟨(a, b), ⟨_, _, ?_, hK, hK'⟩, ⟨hok, hok'⟩, by simp only [List.map_cons, Rows.uptoBulkAll]; omega⟩
  rw [← List.drop_drop, List.take_append_drop]
theorem opens_struct {α : Type} {fs : Array Field} {d : Kd α} {ok : α → Prop} {sz : α → Nat} (hu : P.underlying t = some (.struct fs)) (hc : P.cellsOf t = d.sz) (h : OF P fs.toList 0 d ok sz) : Opens P t d ok (fun a => sz a + 1) := by
  intro H enc W fuel cs x hx hw
  obtain ⟨ys, n, _, rfl, hl, hyl, hf⟩ := DataW.trod_struct hu hx
  simp only [DataW.weights, hu] at hw
  obtain ⟨a, hK, hok, hs⟩ := h H enc W n cs ys (by omega) (by simpa using hyl) (fun j f hj => hf j f (by simpa using hj)) hw
  exact ⟨a, by simpa using hK, hok, by simp only [Rows.uptoBulk]; omega⟩
theorem weightsEach_at {H : Type} {ts : List TypeId} {ds : List (DataW H)} {j : Nat} {t : TypeId} {d : DataW H} (ht : ts[j]? = some t) (hd : ds[j]? = some d) {p : Nat → Bool} (h : (DataW.weightsEach P ts ds).all p = true) : (d.weights P t).all p = true := by
  induction ts generalizing ds j with
  | nil => simp at ht
  | cons t0 ts ih =>
    cases ds with
    | nil => simp at hd
    | cons d0 ds =>
      simp only [DataW.weightsEach, List.all_append, Bool.and_eq_true] at h
      cases j with
      | zero =>
        simp at ht hd
        subst ht hd
        exact h.1
      | succ j => exact ih (by simpa using ht) (by simpa using hd) h.2
end
end Go.Proofs.Ytofkcdnkbjpmmaa.XO
end
section
-- Written by wip/xprint.py over the kit's print.py: the Lean function of each Go function, and the proof that the Go text comes to it.
namespace Go.Proofs.Ytofkcdnkbjpmmaa.X
open Go.RowKit Go.Proofs.YtofkcdnkbjpmmaaW.PrintWords Go.Proofs.YtofkcdnkbjpmmaaW.PrintLast Go.Proofs.YtofkcdnkbjpmmaaW.PrintMore
attribute [local go_sem] max2_int min2_int max_two min_two max_three min_three max_four min_four   -- for this text's walks alone
set_option linter.unusedVariables false
set_option linter.unusedSimpArgs false



def errW : Option Int → Value
  | none => .nilIface
  | some c => .iface 0 (.int .i64 c)
theorem errW_none : errW none = .nilIface := rfl
theorem errW_some (c : Int) : errW (some c) = .iface 0 (.int .i64 c) := rfl

theorem info3 : (Try.prog.info? 3).map (fun i => (i.zero, i.size, i.bytes)) = some (some (.int .i64 0), 1, 8) := by kernel_rfl
theorem info5 : (Try.prog.info? 5).map (fun i => (i.zero, i.size, i.bytes)) = some (some (.int .u8 0), 1, 1) := by kernel_rfl
-- the values' own types
/-! #### struct type 27 -/
structure S27 where
  f0 : Int
  f1 : Int
  f2 : Int
  f3 : ByteArray
def z27 : S27 := ⟨(0 : Int), (0 : Int), (0 : Int), (⟨#[]⟩ : ByteArray)⟩
def k27 : Kd S27 := Kd.iso (Kd.pair (Kd.int .i64) (Kd.pair (Kd.int .i64) (Kd.pair (Kd.int .i64) Kd.string))) (fun x : S27 => (x.f0, x.f1, x.f2, x.f3))
theorem k27_open {w : World} {x : S27} {cs : List Value} (h : k27.K w x cs) : cs = [.int .i64 x.f0, .int .i64 x.f1, .int .i64 x.f2, .string x.f3] := by
  obtain ⟨_, _, rfl, rfl, ⟨_, _, rfl, rfl, ⟨_, _, rfl, rfl, rfl⟩⟩⟩ := h
  exact rfl
theorem k27_openM {w : World} {base : Nat} {ok : Nat → Prop} {x : S27} {cs : List Value} (h : k27.M w base ok x cs) : cs = [.int .i64 x.f0, .int .i64 x.f1, .int .i64 x.f2, .string x.f3] := by
  obtain ⟨_, _, rfl, rfl, ⟨_, _, rfl, rfl, ⟨_, _, rfl, rfl, rfl⟩⟩⟩ := h
  exact rfl
theorem k27_mk (w : World) (x : S27)  : k27.K w x [.int .i64 x.f0, .int .i64 x.f1, .int .i64 x.f2, .string x.f3] := ⟨[.int .i64 x.f0], [.int .i64 x.f1, .int .i64 x.f2, .string x.f3], rfl, rfl, ⟨[.int .i64 x.f1], [.int .i64 x.f2, .string x.f3], rfl, rfl, ⟨[.int .i64 x.f2], [.string x.f3], rfl, rfl, rfl⟩⟩⟩
theorem k27_mkM (w : World) (base : Nat) (ok : Nat → Prop) (x : S27)  : k27.M w base ok x [.int .i64 x.f0, .int .i64 x.f1, .int .i64 x.f2, .string x.f3] := ⟨[.int .i64 x.f0], [.int .i64 x.f1, .int .i64 x.f2, .string x.f3], rfl, rfl, ⟨[.int .i64 x.f1], [.int .i64 x.f2, .string x.f3], rfl, rfl, ⟨[.int .i64 x.f2], [.string x.f3], rfl, rfl, rfl⟩⟩⟩
def rd_T27 (xs : List S27) (i : Int) : S27 := xs.getD i.toNat z27
theorem at_T27 {w : World} {A : Option Addr} {n : Nat} {xs : List S27} (h : Kd.C k27 w A n xs) (i : Int) (h0 : 0 ≤ i) (h1 : i < n) : ∃ ad , A = some ad ∧ w.cell? (ad.add (i.toNat * 4)) = some (.int .i64 (rd_T27 xs i).f0) ∧ w.cell? ⟨(ad.add (i.toNat * 4)).block, (ad.add (i.toNat * 4)).off + 1, none⟩ = some (.int .i64 (rd_T27 xs i).f1) ∧ w.cell? ⟨(ad.add (i.toNat * 4)).block, (ad.add (i.toNat * 4)).off + 2, none⟩ = some (.int .i64 (rd_T27 xs i).f2) ∧ w.cell? ⟨(ad.add (i.toNat * 4)).block, (ad.add (i.toNat * 4)).off + 3, none⟩ = some (.string (rd_T27 xs i).f3) := by
  obtain ⟨ad, c, e, _, hK, hc0⟩ := Kd.C_get h z27 i h0 h1
  have hc : ∀ j u, c[j]? = some u → w.cell? (ad.add (i.toNat * 4 + j)) = some u := hc0
  obtain rfl := k27_open hK
  exact ⟨ad, e, hc 0 _ rfl, by rw [← add_field _ _ 1 (by omega)]; exact hc 1 _ rfl, by rw [← add_field _ _ 2 (by omega)]; exact hc 2 _ rfl, by rw [← add_field _ _ 3 (by omega)]; exact hc 3 _ rfl⟩

def rd_L4 (xs : List (List Int)) (i : Int) : (List Int) := xs.getD i.toNat ([] : List Int)
theorem at_L4 {w : World} {A : Option Addr} {n : Nat} {xs : List (List Int)} (h : Kd.C (Kd.slice 5 (Kd.int .u8)) w A n xs) (i : Int) (h0 : 0 ≤ i) (h1 : i < n) : ∃ ad A0 c0, A = some ad ∧ w.cell? (ad.add i.toNat) = some (.slice A0 (rd_L4 xs i).length c0) ∧ (rd_L4 xs i).length ≤ c0 ∧ (Kd.int .u8).C w A0 (rd_L4 xs i).length (rd_L4 xs i) := by
  obtain ⟨ad, c, e, _, hK, hc0⟩ := Kd.C_get h ([] : List Int) i h0 h1
  have hc : ∀ j u, c[j]? = some u → w.cell? (ad.add (i.toNat * 1 + j)) = some u := hc0
  obtain ⟨A0, c0, rfl, l0, g0⟩ := hK
  exact ⟨ad, A0, c0, e, by have hq := hc 0 _ rfl; rwa [Nat.mul_one, Nat.add_zero] at hq, l0, g0⟩

def rd_L5 (xs : List (List S27)) (i : Int) : (List S27) := xs.getD i.toNat ([] : List S27)
theorem at_L5 {w : World} {A : Option Addr} {n : Nat} {xs : List (List S27)} (h : Kd.C (Kd.slice 27 k27) w A n xs) (i : Int) (h0 : 0 ≤ i) (h1 : i < n) : ∃ ad A0 c0, A = some ad ∧ w.cell? (ad.add i.toNat) = some (.slice A0 (rd_L5 xs i).length c0) ∧ (rd_L5 xs i).length ≤ c0 ∧ k27.C w A0 (rd_L5 xs i).length (rd_L5 xs i) := by
  obtain ⟨ad, c, e, _, hK, hc0⟩ := Kd.C_get h ([] : List S27) i h0 h1
  have hc : ∀ j u, c[j]? = some u → w.cell? (ad.add (i.toNat * 1 + j)) = some u := hc0
  obtain ⟨A0, c0, rfl, l0, g0⟩ := hK
  exact ⟨ad, A0, c0, e, by have hq := hc 0 _ rfl; rwa [Nat.mul_one, Nat.add_zero] at hq, l0, g0⟩


/-- Bytes: each from 0 to 255. -/
def u8s (l : List Int) : Bool := l.all fun x => decide (0 ≤ x ∧ x ≤ 255)
def cnt (c : Int) : List Int → Int
  | [] => 0
  | x :: l => (if x = c then 1 else 0) + cnt c l
def idx (c : Int) : List Int → Int
  | [] => -1
  | x :: l => if x = c then 0 else if idx c l = -1 then -1 else idx c l + 1
theorem u8_eq {x c : Int} (hx : 0 ≤ x ∧ x ≤ 255) (hc : 0 ≤ c ∧ c ≤ 255) : (UInt8.ofNat x.toNat == c.toNat.toUInt8) = decide (x = c) := by
  rw [Bool.eq_iff_iff, beq_iff_eq, decide_eq_true_iff]
  constructor
  · intro h
    have h1 := congrArg UInt8.toNat h
    rw [show c.toNat.toUInt8 = UInt8.ofNat c.toNat from rfl, UInt8.toNat_ofNat', UInt8.toNat_ofNat'] at h1
    omega
  · rintro rfl
    rfl
theorem u8s_cons {x : Int} {l : List Int} (h : u8s (x :: l) = true) : (0 ≤ x ∧ x ≤ 255) ∧ u8s l = true := by
  unfold u8s at h ⊢
  rw [List.all_cons, Bool.and_eq_true, decide_eq_true_iff] at h
  exact h
theorem cnt_eq {c : Int} (hc : 0 ≤ c ∧ c ≤ 255) : ∀ l : List Int, u8s l = true → ((Lib.countByte (Lib.bytesOf l) c.toNat.toUInt8 : Nat) : Int) = cnt c l := by
  intro l
  induction l with
  | nil => intro _; rfl
  | cons x l ih =>
    intro h
    obtain ⟨hx, hl⟩ := u8s_cons h
    have h1 := ih hl
    have h2 := u8_eq hx hc
    unfold Lib.countByte Lib.bytesOf at h1 ⊢
    rw [List.map_cons, List.count_cons, h2]
    unfold cnt
    by_cases he : x = c
    · simp only [he, decide_true, if_true]
      omega
    · simp only [he, decide_false, if_false]
      simp
      omega
theorem idx_eq {c : Int} (hc : 0 ≤ c ∧ c ≤ 255) : ∀ l : List Int, u8s l = true → Lib.indexByte (Lib.bytesOf l) c.toNat.toUInt8 = idx c l := by
  intro l
  induction l with
  | nil => intro _; rfl
  | cons x l ih =>
    intro h
    obtain ⟨hx, hl⟩ := u8s_cons h
    have h1 := ih hl
    have h2 := u8_eq hx hc
    unfold Lib.bytesOf at h1 ⊢
    rw [List.map_cons]
    unfold Lib.indexByte idx
    rw [h2, h1]
    by_cases he : x = c
    · simp [he]
    · simp [he]
theorem reads_u8 {w : World} {A : Option Addr} {l : List Int} (h : Kd.C (Kd.int .u8) w A l.length l) : l.length ≤ 9223372036854775807 ∧ (0 < l.length → ∃ ad, A = some ad ∧ ∀ j, j < l.length → w.cell? (ad.add j) = some (.int .u8 (l.getD j 0))) :=
  (Kd.reads_of_C (d := (0 : Int)) h).2
theorem read0_u8 {w : World} {A : Option Addr} {v : Int} (h : Kd.C (Kd.int .u8) w A 1 [v]) : ∃ ad, A = some ad ∧ w.cell? (ad.add 0) = some (.int .u8 v) := by
  obtain ⟨ad, e, hc⟩ := (reads_u8 (l := [v]) h).2 (by simp)
  exact ⟨ad, e, hc 0 (by simp)⟩

open Kd
section
variable {P : Program} {ops : Array Oper} {rest : List Oper} {o : Oper} {a : Act} {Q : Exit → Act → World → Prop}
/-- Bytes of a constant text, behind the conversion that marks their block: a row that is only read. -/
theorem Kd.V_conv {W : World} (e : Nat) (hgd : o.guard = none) {N : Tmp} (_hd : o.dst = some N) (xs : List Int) {cs : Array Value} (hcs : cs.toList = xs.map (Value.int .u8))
    (hrun : (execOp a.eval o).run P (W.alloc (.cells cs e)) = .ok (.value (.slice (some ⟨W.heap.size, 0, none⟩) xs.length xs.length)) (W.alloc (.cells cs e (cs.size, cs.size + 1)))) (hm : xs.length ≤ 9223372036854775807)
    (h : ∀ v1 w1, (Kd.int .u8).V e w1 W.heap.size (fun k => W.heap.size ≤ k) v1 xs → Below W.heap.size W w1 → wpList P ops Q rest (a.put o.dst v1) w1) : wpList P ops Q (o :: rest) a (W.alloc (.cells cs e)) := by
  refine event_run hgd hrun (h _ _ (V_mk (Nat.le_refl _) (fun W' hW => ?_)) (below_alloc (Below.refl _ _) _))
  have hblk : W'.heap[W.heap.size]? = some (.cells cs e (cs.size, cs.size + 1)) := by
    rw [hW _ (Nat.le_refl _) (by show W.heap.size < (W.heap.push _).size; simp)]
    show (W.heap.push _)[W.heap.size]? = _
    simp
  refine C_of_reads (d := (0 : Int)) (h1 := fun _ => rfl) ⟨rfl, hm, fun _ => ⟨_, rfl, fun j hj => ?_⟩⟩
  rw [add_plain]
  unfold World.cell?
  simp only [hblk]
  have h2 : cs[j]? = (cs.toList)[j]? := by simp
  rw [h2, hcs, List.getElem?_map, List.getElem?_eq_getElem hj, List.getD_eq_getElem?_getD, List.getElem?_eq_getElem hj]
  rfl
end

end Go.Proofs.Ytofkcdnkbjpmmaa.X
end
section
namespace Go.Proofs.Ytofkcdnkbjpmmaa.XO
open Go.RowKit Go.Proofs.YtofkcdnkbjpmmaaW.PrintWords Go.Proofs.Ytofkcdnkbjpmmaa.X
def okS27 (x : S27) : Prop := okI64 x.f0 ∧ okI64 x.f1 ∧ okI64 x.f2 ∧ okStr x.f3
def szS27 (x : S27) : Nat := (szOne x.f0 + (szOne x.f1 + (szOne x.f2 + szStr x.f3))) + 1
theorem opens27 : Opens Try.prog 27 k27 okS27 szS27 := by
  have h := opens_iso (f := fun x : S27 => (x.f0, x.f1, x.f2, x.f3)) (fun a => ⟨a.1, a.2.1, a.2.2.1, a.2.2.2⟩) (fun _ => rfl) (opens_struct Try.underlying27 (by kernel_rfl) (of_cons rfl (by kernel_rfl) (opens_i64 Try.underlying3) (of_cons rfl (by kernel_rfl) (opens_i64 Try.underlying3) (of_cons rfl (by kernel_rfl) (opens_i64 Try.underlying3) (of_last rfl (by kernel_rfl) (opens_str Try.underlying9))))))
  exact h
end Go.Proofs.Ytofkcdnkbjpmmaa.XO
end
section
namespace Go.Proofs.Ytofkcdnkbjpmmaa.XL
open Go.RowKit Go.Proofs.YtofkcdnkbjpmmaaW.PrintWords Go.Proofs.YtofkcdnkbjpmmaaW.PrintMore

section
variable {α β : Type}
theorem Ev.pos {c : Prop} [Decidable c] {g f : Nat → Option α} {r : α} (h : c) (k : Ev g r) : Ev (fun n => if c then g n else f n) r := by
  simpa only [if_pos h] using k
theorem Ev.neg {c : Prop} [Decidable c] {g f : Nat → Option α} {r : α} (h : ¬ c) (k : Ev f r) : Ev (fun n => if c then g n else f n) r := by
  simpa only [if_neg h] using k
theorem Ev.ite {c : Prop} [Decidable c] {g f : Nat → Option α} {r : α} (h1 : c → Ev g r) (h2 : ¬ c → Ev f r) : Ev (fun n => if c then g n else f n) r := by
  by_cases h : c
  · exact Ev.pos h (h1 h)
  · exact Ev.neg h (h2 h)
theorem Ev.const {x : Option α} {r : α} (h : x = some r) : Ev (fun _ => x) r := ⟨0, fun _ _ => h⟩
theorem Ev.eq {g : Nat → Option α} {r r' : α} (h : Ev g r) (e : r = r') : Ev g r' := e ▸ h
theorem Ev.cbind {x : Option α} {f : Nat → α → Option β} {a : α} {r : β} (h : x = some a) (k : Ev (fun n => f n a) r) : Ev (fun n => x.bind (f n)) r := by
  subst h
  exact k
theorem Ev.done {g : Nat → Option α} {a : α} {f : α → β} {r : β} (h : Ev g a) (e : f a = r) : Ev (fun n => (g n).bind fun x => some (f x)) r := by
  subst e
  exact Ev.bind h (Ev.now _)
theorem Ev.pass {g : Nat → Option α} {a : α} (h : Ev g a) : Ev (fun n => (g n).bind fun x => some x) a := Ev.done h rfl
end
theorem wrap64_id {n : Int} (h1 : -9223372036854775808 ≤ n) (h2 : n ≤ 9223372036854775807) : wrap64 n = n := by
  unfold wrap64
  omega
theorem mx_eq (a b : Int) : mx a b = max a b := by unfold mx; omega
theorem mn_eq (a b : Int) : mn a b = min a b := by unfold mn; omega
end Go.Proofs.Ytofkcdnkbjpmmaa.XL
end
section
-- Written by wip/xprint.py over the kit's print.py: the Lean function of each Go function, and the proof that the Go text comes to it.
namespace Go.Proofs.Ytofkcdnkbjpmmaa.X
open Go.RowKit Go.Proofs.YtofkcdnkbjpmmaaW.PrintWords Go.Proofs.YtofkcdnkbjpmmaaW.PrintLast Go.Proofs.YtofkcdnkbjpmmaaW.PrintMore
attribute [local go_sem] max2_int min2_int max_two min_two max_three min_three max_four min_four   -- for this text's walks alone
set_option linter.unusedVariables false
set_option linter.unusedSimpArgs false

/-! ### lines_has: function 31 -/
def lines_has.f (l0 : List Int) (a1 : Int) : Option (Bool) := if a1 ≥ 0 then (some (decide (a1 ≤ (l0.length : Int)))) else (some false)
set_option maxHeartbeats 8000000 in
set_option maxRecDepth 100000 in
theorem lines_has.calls (A0 : Option Addr) (c0 : Nat) (l0 : List Int) (a1 : Int) (r : Bool) (w : World) (hr0 : Kd.C (Kd.int .u8) w A0 l0.length l0) (hc0 : l0.length ≤ c0) (h : lines_has.f l0 a1 = some r) :
    Calls Try.prog 31 #[.slice A0 l0.length c0, .int .i64 a1] w fun e w' => e = .returned (.bool r) ∧ Drawn0 w w' := by
  have HR0 := Aside0.mk hr0
  have HC0 := Aside0.mk hc0
  clear hr0 hc0
  have H : (if a1 ≥ 0 then (some (decide (a1 ≤ (l0.length : Int)))) else (some false)) = some r := h
  clear h
  by_cases c3 : a1 ≥ 0
  · rw [if_pos c3] at H
    have c3b0 : decide (0 ≤ a1) = true := decide_eq_true c3
    clear c3
    obtain rfl := Option.some.inj H
    go_enter Try.func31, Try.ntmps31
    go_wp2
    go_ret
    exact ⟨by first | rfl | (simp; done) | (simp [*]; done), by repeat (first | exact Drawn0.refl _ | apply Drawn0.step)⟩
  · rw [if_neg c3] at H
    have c3b0 : decide (0 ≤ a1) = false := decide_eq_false c3
    clear c3
    obtain rfl := Option.some.inj H
    go_enter Try.func31, Try.ntmps31
    go_wp2
    go_ret
    exact ⟨by first | rfl | (simp; done) | (simp [*]; done), by repeat (first | exact Drawn0.refl _ | apply Drawn0.step)⟩

end Go.Proofs.Ytofkcdnkbjpmmaa.X
end
section
-- Written by wip/xprint.py over the kit's print.py: the Lean function of each Go function, and the proof that the Go text comes to it.
namespace Go.Proofs.Ytofkcdnkbjpmmaa.X
open Go.RowKit Go.Proofs.YtofkcdnkbjpmmaaW.PrintWords Go.Proofs.YtofkcdnkbjpmmaaW.PrintLast Go.Proofs.YtofkcdnkbjpmmaaW.PrintMore
attribute [local go_sem] max2_int min2_int max_two min_two max_three min_three max_four min_four   -- for this text's walks alone
set_option linter.unusedVariables false
set_option linter.unusedSimpArgs false

/-! ### bytes_Count: function 32, by hand -/
def bytes_Count.f (l0 : List Int) (l1 : List Int) : Option (Int) := if (u8s l0 && u8s l1) = true then (if l1.length = 1 then some (cnt (rd l1 0) l0) else none) else none
set_option maxHeartbeats 2000000 in
set_option maxRecDepth 1000000 in
theorem bytes_Count.calls (A0 : Option Addr) (c0 : Nat) (l0 : List Int) (A1 : Option Addr) (c1 : Nat) (l1 : List Int) (r : Int) (w : World) (hr0 : Kd.C (Kd.int .u8) w A0 l0.length l0) (hc0 : l0.length ≤ c0) (hr1 : Kd.C (Kd.int .u8) w A1 l1.length l1) (hc1 : l1.length ≤ c1) (h : bytes_Count.f l0 l1 = some r) :
    Calls Try.prog 32 #[.slice A0 l0.length c0, .slice A1 l1.length c1] w fun e w' => e = .returned (.int .i64 r) ∧ Drawn0 w w' := by
  unfold bytes_Count.f at h
  by_cases hu : (u8s l0 && u8s l1) = true
  case neg => rw [if_neg hu] at h; cases h
  rw [if_pos hu] at h
  by_cases hl : l1.length = 1
  case neg => rw [if_neg hl] at h; cases h
  rw [if_pos hl] at h
  obtain rfl := Option.some.inj h
  obtain ⟨v, rfl⟩ : ∃ v, l1 = [v] := by
    match l1, hl with
    | [v], _ => exact ⟨v, rfl⟩
  rw [Bool.and_eq_true] at hu
  have hv := (u8s_cons hu.2).1
  have hcnt := cnt_eq hv l0 hu.1
  have hrd : rd [v] 0 = v := rfl
  rw [hrd, ← hcnt]
  obtain ⟨ad, rfl, hcell⟩ := read0_u8 hr1
  have hcell2 : w.cell? ad = some (.int .u8 v) := by rw [Addr.add_zero'] at hcell; exact hcell
  obtain ⟨hb0, hA⟩ := reads_u8 hr0
  have hrun : (Extern.BytealgCount.count #[.slice A0 l0.length c0, .int .u8 v]).run Try.prog w = .ok (.int .i64 (Lib.countByte (Lib.bytesOf l0) v.toNat.toUInt8)) w := by
    cases A0 with
    | none =>
      have h0 : l0 = [] := by
        cases l0 with
        | nil => rfl
        | cons x l => obtain ⟨_, h1, _⟩ := hA (by simp); cases h1
      subst h0
      exact Lib.run_countNil w _ _ v
    | some a =>
      refine Lib.run_countAt w a _ _ l0 rfl (fun i hi => ?_) v
      obtain ⟨a', h1, h2⟩ := hA (by omega)
      obtain rfl := Option.some.inj h1
      exact h2 i hi
  have HA := Aside0.mk hA
  have HR := Aside0.mk hrun
  clear hA hrun hcnt hrd hr0 hr1 hu h
  go_enter Try.func32, Try.ntmps32
  go_wp2
  rw [run_callFunc_extern Try.func47 (by kernel_rfl) (by kernel_rfl) (by kernel_rfl) (e := Extern.BytealgCount.count) (by kernel_rfl), HR.out]
  simp only [Result.andThen]
  rw [Oper.upon_value]
  go_wp2
  go_ret
  exact ⟨rfl, Drawn0.refl _⟩

end Go.Proofs.Ytofkcdnkbjpmmaa.X
end
section
-- Written by wip/xprint.py over the kit's print.py: the Lean function of each Go function, and the proof that the Go text comes to it.
namespace Go.Proofs.Ytofkcdnkbjpmmaa.X
open Go.RowKit Go.Proofs.YtofkcdnkbjpmmaaW.PrintWords Go.Proofs.YtofkcdnkbjpmmaaW.PrintLast Go.Proofs.YtofkcdnkbjpmmaaW.PrintMore
attribute [local go_sem] max2_int min2_int max_two min_two max_three min_three max_four min_four   -- for this text's walks alone
set_option linter.unusedVariables false
set_option linter.unusedSimpArgs false

/-! ### lines_Of: function 13 -/
def lines_Of.f (l0 : List Int) (a1 : Int) : Option (Int × Int) := (lines_has.f l0 a1).bind fun t101 => (if t101 = true then (if 0 ≤ a1 then (if a1 ≤ (l0.length : Int) then ((bytes_Count.f (l0.take (a1 : Int).toNat) (([10] : List Int))).bind fun t106 => (some (t106, 0))) else (none)) else (none)) else (some (0, 2)))
set_option maxHeartbeats 8000000 in
set_option maxRecDepth 100000 in
theorem lines_Of.calls (A0 : Option Addr) (c0 : Nat) (l0 : List Int) (a1 : Int) (r1 : Int) (r2 : Int) (w : World) (hr0 : Kd.C (Kd.int .u8) w A0 l0.length l0) (hc0 : l0.length ≤ c0) (h : lines_Of.f l0 a1 = some (r1, r2)) :
    Calls Try.prog 13 #[.slice A0 l0.length c0, .int .i64 a1] w fun e w' => e = .returned (.tuple #[.int .i64 r1, .int .i64 r2]) ∧ Below w.heap.size w w' := by
  have HR0 := Aside0.mk hr0
  have HC0 := Aside0.mk hc0
  clear hr0 hc0
  have HB := Aside0.mk (Below.refl w.heap.size w)
  have H : ((lines_has.f l0 a1).bind fun t101 => (if t101 = true then (if 0 ≤ a1 then (if a1 ≤ (l0.length : Int) then ((bytes_Count.f (l0.take (a1 : Int).toNat) (([10] : List Int))).bind fun t106 => (some (t106, 0))) else (none)) else (none)) else (some (0, 2)))) = some (r1, r2) := h
  clear h
  replace H := Option.bind_eq_some_iff.mp H
  obtain ⟨t101, A30, H⟩ := H
  replace H : (if t101 = true then (if 0 ≤ a1 then (if a1 ≤ (l0.length : Int) then ((bytes_Count.f (l0.take (a1 : Int).toNat) (([10] : List Int))).bind fun t106 => (some (t106, 0))) else (none)) else (none)) else (some (0, 2))) = some (r1, r2) := H
  have A3 := Aside0.mk A30
  clear A30
  by_cases c4 : t101 = true
  · subst c4
    have H1 : (if 0 ≤ a1 then (if a1 ≤ (l0.length : Int) then ((bytes_Count.f (l0.take (a1 : Int).toNat) (([10] : List Int))).bind fun t106 => (some (t106, 0))) else (none)) else (none)) = some (r1, r2) := by rw [if_pos rfl] at H; exact H
    clear H
    have H := H1
    clear H1
    by_cases c5 : 0 ≤ a1
    · rw [if_pos c5] at H
      have c5b0 := eq_true c5
      have c5b1 : decide (0 ≤ a1) = true := decide_eq_true c5
      clear c5
      by_cases c6 : a1 ≤ (l0.length : Int)
      · rw [if_pos c6] at H
        have c6b0 := eq_true c6
        have c6b1 : decide (a1 ≤ (l0.length : Int)) = true := decide_eq_true c6
        clear c6
        obtain ⟨y103, hy103⟩ : ∃ y_ : List Int, y_ = (([10] : List Int)) := ⟨_, rfl⟩
        replace H : ((bytes_Count.f (l0.take (a1 : Int).toNat) y103).bind fun t106 => (some (t106, 0))) = some (r1, r2) := by first | (rw [hy103]; with_reducible exact H) | (have H2_ := (Option.bind_some _ _).symm.trans H; rw [hy103]; with_reducible exact H2_) | (have H2_ := (Option.bind_some _ _).symm.trans H; with_reducible exact H2_) | with_reducible exact H | (rw [hy103]; exact H) | exact H
        have Ny103 := Aside0.mk hy103
        clear hy103
        replace H := Option.bind_eq_some_iff.mp H
        obtain ⟨t106, A70, H⟩ := H
        replace H : (some (t106, 0)) = some (r1, r2) := H
        have A7 := Aside0.mk A70
        clear A70
        simp only [Option.some.injEq, Prod.mk.injEq] at H
        obtain ⟨rfl, rfl⟩ := H
        go_enter Try.func13, Try.ntmps13
        go_wp2_with (first | ((with_reducible refine gate_callee (f := 31) rfl ?_); refine goesL_ (some 8) rfl rfl Try.func31 (by kernel_rfl) rfl #[.slice A0 l0.length c0, .int .i64 a1] rfl (by (try simp only [List.map_toArray, List.map_cons, List.map_nil]); first | done | rfl | (simp only [List.length_drop, List.length_take]; rfl)) ?_; (with_reducible refine (lines_has.calls _ _ l0 a1 true _ ?side1 ?side2 A3.out).mono ?_); (case side1 => repeat (first | exact HR0.out | (with_reducible refine Kd.C_alloc ?_ _) | (with_reducible refine Kd.C_drewN ?_ _) | (with_reducible refine Kd.C_drew ?_))); (case side2 => exact HC0.out); rintro e w' ⟨rfl, ⟨nd, rfl⟩⟩; refine ⟨_, rfl, ?_⟩; obtain ⟨i08, hi08, _, hsz8, _⟩ := info_parts info5; obtain ⟨hcut8, hA8, hC8⟩ := print_take_of (P := Try.prog) (Value.int .u8) 0 22 5 .i64 Try.underlying22 hi08 hsz8 A0 c0 l0 a1 (of_decide_eq_true (by first | (with_reducible assumption) | assumption)) (of_decide_eq_true (by first | (with_reducible assumption) | assumption)) HC0.out; have HR102 := Aside0.mk (Kd.C_of_reads (h1 := fun _ => rfl) (hA8 _ (Kd.reads_of_C HR0.out))); have HC102 := Aside0.mk hC8; clear hA8 hC8 hi08 hsz8) | ((with_reducible refine gate_dst (N := 13) rfl ?_); refine Kd.R_lit (Kd.int .u8) _ 5 ?hg (N := 13) ?hd (xs := ([10] : List Int)) (inner := [.int .u8 10]) (ok := fun _ => True) (okp := fun _ => True) ?hr ?hp (fun _ hk => hk) trivial (Below.refl _ _) (Nat.le_refl _) (by simp) ?_; (case hd => rfl); (case hg => rfl); (case hr => first | (go_simp; done) | (go_simp; rfl)); (case hp => exact (Reps.one (show Kd.M (Kd.int .u8) _ _ _ 10 [.int .u8 10] from rfl) (Reps.none _ _))); intro v104 w9 ho10 hb hg_ hnew_; clear hg_ hnew_; (first | rw [← Ny103.out] at ho10 | (simp only [Int.reduceToNat] at ho10; rw [← Ny103.out] at ho10)); have n0_ := Aside0.mk (Kd.R_lower ho10 (below_size (by repeat (first | (with_reducible first | exact HB.out | apply below_alloc | apply pw_below_drewN | apply below_drew1) | exact HB.out)))); have n1_ := Aside0.mk (below_step (by repeat (first | (with_reducible first | exact HB.out | apply below_alloc | apply pw_below_drewN | apply below_drew1) | exact HB.out)) hb); clear HB; have HO105 := n0_; have HB := n1_; clear n0_ n1_; clear hb ho10; obtain ⟨Ao11, co11, eo11⟩ := Kd.R_slice HO105.out; subst eo11) | ((with_reducible refine gate_callee (f := 32) rfl ?_); refine goesL_ (some 14) rfl rfl Try.func32 (by kernel_rfl) rfl #[.slice A0 (l0.take (a1 : Int).toNat).length c0, .slice Ao11 y103.length co11] rfl (by (try simp only [List.map_toArray, List.map_cons, List.map_nil]); first | done | (rw [show (l0.take (a1 : Int).toNat).length = a1.toNat from (by rw [List.length_take]; have h_ : (a1 : Int) ≤ (l0.length : Int) := of_decide_eq_true (by first | (with_reducible assumption) | assumption); omega)] <;> rfl) | rfl | (simp only [List.length_drop, List.length_take]; rfl)) ?_; (with_reducible refine (bytes_Count.calls _ _ (l0.take (a1 : Int).toNat) _ _ y103 t106 _ ?side1 ?side2 ?side3 ?side4 A7.out).mono ?_); (case side1 => repeat (first | exact (Kd.C_below HR102.out HB.out) | (with_reducible refine Kd.C_alloc ?_ _) | (with_reducible refine Kd.C_drewN ?_ _) | (with_reducible refine Kd.C_drew ?_))); (case side2 => exact HC102.out); (case side3 => repeat (first | exact (Kd.R_reads' HO105.out).2.2 | (with_reducible refine Kd.C_alloc ?_ _) | (with_reducible refine Kd.C_drewN ?_ _) | (with_reducible refine Kd.C_drew ?_))); (case side4 => exact (Kd.R_reads' HO105.out).2.1); rintro e w' ⟨rfl, ⟨nd, rfl⟩⟩; refine ⟨_, rfl, ?_⟩))
        go_ret2
        exact ⟨by first | rfl | (simp [errW_none, errW_some] <;> rfl) | (simp [*, errW_none, errW_some] <;> rfl), by repeat (first | (with_reducible first | exact HB.out | apply below_alloc | apply pw_below_drewN | apply below_drew1) | exact HB.out)⟩
      · rw [if_neg c6] at H
        exact absurd H (by simp)
    · rw [if_neg c5] at H
      exact absurd H (by simp)
  · replace c4 := Bool.eq_false_iff.mpr c4
    subst c4
    have H1 : (some (0, 2)) = some (r1, r2) := by rw [if_neg (show ¬ (false = true) by decide)] at H; exact H
    clear H
    have H := H1
    clear H1
    simp only [Option.some.injEq, Prod.mk.injEq] at H
    obtain ⟨rfl, rfl⟩ := H
    go_enter Try.func13, Try.ntmps13
    go_wp2_with (first | ((with_reducible refine gate_callee (f := 31) rfl ?_); refine goesL_ (some 8) rfl rfl Try.func31 (by kernel_rfl) rfl #[.slice A0 l0.length c0, .int .i64 a1] rfl (by (try simp only [List.map_toArray, List.map_cons, List.map_nil]); first | done | rfl | (simp only [List.length_drop, List.length_take]; rfl)) ?_; (with_reducible refine (lines_has.calls _ _ l0 a1 false _ ?side1 ?side2 A3.out).mono ?_); (case side1 => repeat (first | exact HR0.out | (with_reducible refine Kd.C_alloc ?_ _) | (with_reducible refine Kd.C_drewN ?_ _) | (with_reducible refine Kd.C_drew ?_))); (case side2 => exact HC0.out); rintro e w' ⟨rfl, ⟨nd, rfl⟩⟩; refine ⟨_, rfl, ?_⟩))
    go_ret2
    exact ⟨by first | rfl | (simp [errW_none, errW_some] <;> rfl) | (simp [*, errW_none, errW_some] <;> rfl), by repeat (first | (with_reducible first | exact HB.out | apply below_alloc | apply pw_below_drewN | apply below_drew1) | exact HB.out)⟩

end Go.Proofs.Ytofkcdnkbjpmmaa.X
end
section
-- Written by wip/xprint.py over the kit's print.py: the Lean function of each Go function, and the proof that the Go text comes to it.
namespace Go.Proofs.Ytofkcdnkbjpmmaa.X
open Go.RowKit Go.Proofs.YtofkcdnkbjpmmaaW.PrintWords Go.Proofs.YtofkcdnkbjpmmaaW.PrintLast Go.Proofs.YtofkcdnkbjpmmaaW.PrintMore
attribute [local go_sem] max2_int min2_int max_two min_two max_three min_three max_four min_four   -- for this text's walks alone
set_option linter.unusedVariables false
set_option linter.unusedSimpArgs false

/-! ### bytes_IndexByte: function 41, by hand -/
def bytes_IndexByte.f (l0 : List Int) (a1 : Int) : Option (Int) := if (u8s l0 && decide (0 ≤ a1 ∧ a1 ≤ 255)) = true then some (idx a1 l0) else none
set_option maxHeartbeats 2000000 in
set_option maxRecDepth 1000000 in
theorem bytes_IndexByte.calls (A0 : Option Addr) (c0 : Nat) (l0 : List Int) (a1 : Int) (r : Int) (w : World) (hr0 : Kd.C (Kd.int .u8) w A0 l0.length l0) (hc0 : l0.length ≤ c0) (h : bytes_IndexByte.f l0 a1 = some r) :
    Calls Try.prog 41 #[.slice A0 l0.length c0, .int .u8 a1] w fun e w' => e = .returned (.int .i64 r) ∧ Drawn0 w w' := by
  unfold bytes_IndexByte.f at h
  by_cases hu : (u8s l0 && decide (0 ≤ a1 ∧ a1 ≤ 255)) = true
  case neg => rw [if_neg hu] at h; cases h
  rw [if_pos hu] at h
  obtain rfl := Option.some.inj h
  rw [Bool.and_eq_true, decide_eq_true_iff] at hu
  have hidx := idx_eq hu.2 l0 hu.1
  rw [← hidx]
  obtain ⟨hb0, hA⟩ := reads_u8 hr0
  have hrun : (Extern.BytealgIndexByte.indexByte #[.slice A0 l0.length c0, .int .u8 a1]).run Try.prog w = .ok (.int .i64 (Lib.indexByte (Lib.bytesOf l0) a1.toNat.toUInt8)) w := by
    cases A0 with
    | none =>
      have h0 : l0 = [] := by
        cases l0 with
        | nil => rfl
        | cons x l => obtain ⟨_, h1, _⟩ := hA (by simp); cases h1
      subst h0
      exact Lib.run_indexByteNil w _ _ a1
    | some a =>
      refine Lib.run_indexByteAt w a _ _ l0 rfl (fun i hi => ?_) a1
      obtain ⟨a', h1, h2⟩ := hA (by omega)
      obtain rfl := Option.some.inj h1
      exact h2 i hi
  have HR := Aside0.mk hrun
  clear hA hrun hidx hr0 hu h
  go_enter Try.func41, Try.ntmps41
  go_wp2
  rw [run_callFunc_extern Try.func52 (by kernel_rfl) (by kernel_rfl) (by kernel_rfl) (e := Extern.BytealgIndexByte.indexByte) (by kernel_rfl), HR.out]
  simp only [Result.andThen]
  rw [Oper.upon_value]
  go_wp2
  go_ret
  exact ⟨rfl, Drawn0.refl _⟩

end Go.Proofs.Ytofkcdnkbjpmmaa.X
end
section
-- Written by wip/xprint.py over the kit's print.py: the Lean function of each Go function, and the proof that the Go text comes to it.
namespace Go.Proofs.Ytofkcdnkbjpmmaa.X
open Go.RowKit Go.Proofs.YtofkcdnkbjpmmaaW.PrintWords Go.Proofs.YtofkcdnkbjpmmaaW.PrintLast Go.Proofs.YtofkcdnkbjpmmaaW.PrintMore
attribute [local go_sem] max2_int min2_int max_two min_two max_three min_three max_four min_four   -- for this text's walks alone
set_option linter.unusedVariables false
set_option linter.unusedSimpArgs false

/-! ### lines_Start: function 28 -/
def lines_Start.l0 : Nat → List Int → Int → Int → Option (Int × Int)
  | 0, _, _, _ => none
  | k + 1, x0, x1, x6 => if x1 > 0 then (if 0 ≤ x6 then (if x6 ≤ (x0.length : Int) then ((bytes_IndexByte.f (x0.drop (x6 : Int).toNat) 10).bind fun t112 => (if t112 < 0 then (some (0, 2)) else (lines_Start.l0 k x0 (wrap64 (x1 - 1)) (wrap64 (x6 + (wrap64 (t112 + 1))))))) else (none)) else (none)) else (some (x6, 0))
def lines_Start.f (k : Nat) (l0 : List Int) (a1 : Int) : Option (Int × Int) := if a1 < 0 then (some (0, 2)) else (lines_Start.l0 k l0 a1 0)
theorem lines_Start.mono_l : ∀ k, (∀ y0 y1 y2, LeO (lines_Start.l0 k y0 y1 y2) (lines_Start.l0 (k + 1) y0 y1 y2))
  | 0 => fun _ _ _ r h => by simp [lines_Start.l0] at h
  | k + 1 => by
    have ih0 := lines_Start.mono_l k
    · intro y0 y1 y2
      unfold lines_Start.l0
      repeat' first
      | (with_reducible exact ih0 _ _ _)
      | (with_reducible exact LeO.refl _)
      | (with_reducible exact LeO.none _)
      | (with_reducible refine LeO.ite ?_ ?_)
      | (with_reducible refine LeO.bind ?_ (fun _ => ?_))
      | exact ih0 _ _ _
      | exact LeO.none _
      | refine LeO.ite ?_ ?_
      | refine LeO.bind ?_ (fun _ => ?_)
theorem lines_Start.mono : ∀ a0 a1 k, LeO (lines_Start.f k a0 a1) (lines_Start.f (k + 1) a0 a1) := by
  intro a0 a1 k
  have ih0 := lines_Start.mono_l k
  unfold lines_Start.f
  repeat' first
      | (with_reducible exact ih0 _ _ _)
      | (with_reducible exact LeO.refl _)
      | (with_reducible exact LeO.none _)
      | (with_reducible refine LeO.ite ?_ ?_)
      | (with_reducible refine LeO.bind ?_ (fun _ => ?_))
      | exact ih0 _ _ _
      | exact LeO.none _
      | refine LeO.ite ?_ ?_
      | refine LeO.bind ?_ (fun _ => ?_)
set_option maxHeartbeats 8000000 in
set_option maxRecDepth 100000 in
theorem lines_Start.calls (k : Nat) (A0 : Option Addr) (c0 : Nat) (l0 : List Int) (a1 : Int) (r1 : Int) (r2 : Int) (w : World) (hr0 : Kd.C (Kd.int .u8) w A0 l0.length l0) (hc0 : l0.length ≤ c0) (h : lines_Start.f k l0 a1 = some (r1, r2)) :
    Calls Try.prog 28 #[.slice A0 l0.length c0, .int .i64 a1] w fun e w' => e = .returned (.tuple #[.int .i64 r1, .int .i64 r2]) ∧ Drawn0 w w' := by
  have HR0 := Aside0.mk hr0
  have HC0 := Aside0.mk hc0
  clear hr0 hc0
  have H : (if a1 < 0 then (some (0, 2)) else (lines_Start.l0 k l0 a1 0)) = some (r1, r2) := h
  clear h
  by_cases c3 : a1 < 0
  · rw [if_pos c3] at H
    have c3b0 : decide (a1 < 0) = true := decide_eq_true c3
    clear c3
    simp only [Option.some.injEq, Prod.mk.injEq] at H
    obtain ⟨rfl, rfl⟩ := H
    go_enter Try.func28, Try.ntmps28
    go_wp2
    go_ret2
    exact ⟨by first | rfl | (simp; done) | (simp [*]; done), by repeat (first | exact Drawn0.refl _ | apply Drawn0.step)⟩
  · rw [if_neg c3] at H
    have c3b0 : decide (a1 < 0) = false := decide_eq_false c3
    clear c3
    have H' := Aside0.mk H
    clear H
    go_enter Try.func28, Try.ntmps28
    go_wp2
    go_loopg [1, 6] k (fun kq v1 v6 w' => ∃ (x1_1 : Int) (x6_1 : Int), v1 = .int .i64 x1_1 ∧ v6 = .int .i64 x6_1 ∧ Aside0 (lines_Start.l0 kq l0 x1_1 x6_1 = some (r1, r2)) ∧ Aside0 (kq ≤ k) ∧ Drawn0 w w')
    case atStart => exact ⟨(a1), (0), (by first | rfl | (simp; done) | (simp [*]; done)), (by first | rfl | (simp; done) | (simp [*]; done)), H', ⟨Nat.le_refl _⟩, by repeat (first | exact Drawn0.refl _ | apply Drawn0.step)⟩
    case round =>
      clear H'
      try clear c2
      try clear p2
      try clear c3
      try clear c3b0
      obtain ⟨x1_1, x6_1, rfl, rfl, HA, HK1, ⟨m1, rfl⟩⟩ := hrel
      cases gk with
      | zero => exact absurd HA.out (by simp [lines_Start.l0])
      | succ k1 =>
        have H := HA.out
        clear HA
        simp only [lines_Start.l0] at H
        by_cases c4 : x1_1 > 0
        · rw [if_pos c4] at H
          have c4b0 : decide (0 < x1_1) = true := decide_eq_true c4
          clear c4
          by_cases c5 : 0 ≤ x6_1
          · rw [if_pos c5] at H
            have c5b0 := eq_true c5
            have c5b1 : decide (0 ≤ x6_1) = true := decide_eq_true c5
            clear c5
            by_cases c6 : x6_1 ≤ (l0.length : Int)
            · rw [if_pos c6] at H
              have c6b0 := eq_true c6
              have c6b1 : decide (x6_1 ≤ (l0.length : Int)) = true := decide_eq_true c6
              clear c6
              replace H := Option.bind_eq_some_iff.mp H
              obtain ⟨t112, A70, H⟩ := H
              replace H : (if t112 < 0 then (some (0, 2)) else (lines_Start.l0 k1 l0 (wrap64 (x1_1 - 1)) (wrap64 (x6_1 + (wrap64 (t112 + 1)))))) = some (r1, r2) := H
              have A7 := Aside0.mk A70
              clear A70
              by_cases c8 : t112 < 0
              · rw [if_pos c8] at H
                have c8b0 : decide (t112 < 0) = true := decide_eq_true c8
                clear c8
                simp only [Option.some.injEq, Prod.mk.injEq] at H
                obtain ⟨rfl, rfl⟩ := H
                obtain ⟨i09, hi09, _, hsz9, _⟩ := info_parts info5
                obtain ⟨A9, hcut9, hA9, hC9⟩ := print_drop_of (P := Try.prog) (Value.int .u8) 0 22 5 .i64 Try.underlying22 hi09 hsz9 A0 c0 l0 x6_1 (of_decide_eq_true (by first | (with_reducible assumption) | assumption)) (of_decide_eq_true (by first | (with_reducible assumption) | assumption)) HC0.out
                have HR111 := Aside0.mk (Kd.C_of_reads (h1 := fun _ => rfl) (hA9 _ (Kd.reads_of_C HR0.out)))
                have HC111 := Aside0.mk hC9
                clear hA9 hC9 hi09 hsz9
                go_wp2_with (first | ((with_reducible refine gate_callee (f := 41) rfl ?_); refine goesL_ (some 17) rfl rfl Try.func41 (by kernel_rfl) rfl #[.slice A9 (l0.drop (x6_1 : Int).toNat).length (c0 - x6_1.toNat), .int .u8 10] rfl (by (try simp only [List.map_toArray, List.map_cons, List.map_nil]); first | done | (rw [show (l0.drop (x6_1 : Int).toNat).length = (l0.length - x6_1.toNat) from List.length_drop] <;> rfl) | rfl | (simp only [List.length_drop, List.length_take]; rfl)) ?_; (with_reducible refine (bytes_IndexByte.calls _ _ (l0.drop (x6_1 : Int).toNat) 10 t112 _ ?side1 ?side2 A7.out).mono ?_); (case side1 => repeat (first | exact HR111.out | (with_reducible refine Kd.C_alloc ?_ _) | (with_reducible refine Kd.C_drewN ?_ _) | (with_reducible refine Kd.C_drew ?_))); (case side2 => exact HC111.out); rintro e w' ⟨rfl, ⟨nd, rfl⟩⟩; refine ⟨_, rfl, ?_⟩))
                go_ret2
                exact ⟨by first | rfl | (simp; done) | (simp [*]; done), by repeat (first | exact Drawn0.refl _ | apply Drawn0.step)⟩
              · rw [if_neg c8] at H
                have c8b0 : decide (t112 < 0) = false := decide_eq_false c8
                clear c8
                have H' := Aside0.mk H
                clear H
                obtain ⟨i010, hi010, _, hsz10, _⟩ := info_parts info5
                obtain ⟨A10, hcut10, hA10, hC10⟩ := print_drop_of (P := Try.prog) (Value.int .u8) 0 22 5 .i64 Try.underlying22 hi010 hsz10 A0 c0 l0 x6_1 (of_decide_eq_true (by first | (with_reducible assumption) | assumption)) (of_decide_eq_true (by first | (with_reducible assumption) | assumption)) HC0.out
                have HR111 := Aside0.mk (Kd.C_of_reads (h1 := fun _ => rfl) (hA10 _ (Kd.reads_of_C HR0.out)))
                have HC111 := Aside0.mk hC10
                clear hA10 hC10 hi010 hsz10
                go_wp2_with (first | ((with_reducible refine gate_callee (f := 41) rfl ?_); refine goesL_ (some 17) rfl rfl Try.func41 (by kernel_rfl) rfl #[.slice A10 (l0.drop (x6_1 : Int).toNat).length (c0 - x6_1.toNat), .int .u8 10] rfl (by (try simp only [List.map_toArray, List.map_cons, List.map_nil]); first | done | (rw [show (l0.drop (x6_1 : Int).toNat).length = (l0.length - x6_1.toNat) from List.length_drop] <;> rfl) | rfl | (simp only [List.length_drop, List.length_take]; rfl)) ?_; (with_reducible refine (bytes_IndexByte.calls _ _ (l0.drop (x6_1 : Int).toNat) 10 t112 _ ?side1 ?side2 A7.out).mono ?_); (case side1 => repeat (first | exact HR111.out | (with_reducible refine Kd.C_alloc ?_ _) | (with_reducible refine Kd.C_drewN ?_ _) | (with_reducible refine Kd.C_drew ?_))); (case side2 => exact HC111.out); rintro e w' ⟨rfl, ⟨nd, rfl⟩⟩; refine ⟨_, rfl, ?_⟩))
                go_roundg k1
                case measure => have := HK1.out; omega
                case rel => exact ⟨(wrap64 (x1_1 - 1)), (wrap64 (x6_1 + (wrap64 (t112 + 1)))), (by first | rfl | (simp; done) | (simp [*]; done)), (by first | rfl | (simp; done) | (simp [*]; done)), H', ⟨by have := HK1.out; omega⟩, by repeat (first | exact Drawn0.refl _ | apply Drawn0.step)⟩
            · rw [if_neg c6] at H
              exact absurd H (by simp)
          · rw [if_neg c5] at H
            exact absurd H (by simp)
        · rw [if_neg c4] at H
          have c4b0 : decide (0 < x1_1) = false := decide_eq_false c4
          clear c4
          simp only [Option.some.injEq, Prod.mk.injEq] at H
          obtain ⟨rfl, rfl⟩ := H
          go_wp2
          go_ret2
          exact ⟨by first | rfl | (simp; done) | (simp [*]; done), by repeat (first | exact Drawn0.refl _ | apply Drawn0.step)⟩

end Go.Proofs.Ytofkcdnkbjpmmaa.X
end
section
-- Written by wip/xprint.py over the kit's print.py: the Lean function of each Go function, and the proof that the Go text comes to it.
namespace Go.Proofs.Ytofkcdnkbjpmmaa.X
open Go.RowKit Go.Proofs.YtofkcdnkbjpmmaaW.PrintWords Go.Proofs.YtofkcdnkbjpmmaaW.PrintLast Go.Proofs.YtofkcdnkbjpmmaaW.PrintMore
attribute [local go_sem] max2_int min2_int max_two min_two max_three min_three max_four min_four   -- for this text's walks alone
set_option linter.unusedVariables false
set_option linter.unusedSimpArgs false

/-! ### lines_tail: function 33 -/
def lines_tail.f (l0 : List Int) (a1 : Int) : Option (Int) := if 0 ≤ a1 then (if a1 ≤ (l0.length : Int) then ((bytes_IndexByte.f (l0.drop (a1 : Int).toNat) 10).bind fun t114 => (if t114 ≥ 0 then (some (wrap64 (a1 + t114))) else (some (l0.length : Int)))) else (none)) else (none)
set_option maxHeartbeats 8000000 in
set_option maxRecDepth 100000 in
theorem lines_tail.calls (A0 : Option Addr) (c0 : Nat) (l0 : List Int) (a1 : Int) (r : Int) (w : World) (hr0 : Kd.C (Kd.int .u8) w A0 l0.length l0) (hc0 : l0.length ≤ c0) (h : lines_tail.f l0 a1 = some r) :
    Calls Try.prog 33 #[.slice A0 l0.length c0, .int .i64 a1] w fun e w' => e = .returned (.int .i64 r) ∧ Drawn0 w w' := by
  have HR0 := Aside0.mk hr0
  have HC0 := Aside0.mk hc0
  clear hr0 hc0
  have H : (if 0 ≤ a1 then (if a1 ≤ (l0.length : Int) then ((bytes_IndexByte.f (l0.drop (a1 : Int).toNat) 10).bind fun t114 => (if t114 ≥ 0 then (some (wrap64 (a1 + t114))) else (some (l0.length : Int)))) else (none)) else (none)) = some r := h
  clear h
  by_cases c3 : 0 ≤ a1
  · rw [if_pos c3] at H
    have c3b0 := eq_true c3
    have c3b1 : decide (0 ≤ a1) = true := decide_eq_true c3
    clear c3
    by_cases c4 : a1 ≤ (l0.length : Int)
    · rw [if_pos c4] at H
      have c4b0 := eq_true c4
      have c4b1 : decide (a1 ≤ (l0.length : Int)) = true := decide_eq_true c4
      clear c4
      replace H := Option.bind_eq_some_iff.mp H
      obtain ⟨t114, A50, H⟩ := H
      replace H : (if t114 ≥ 0 then (some (wrap64 (a1 + t114))) else (some (l0.length : Int))) = some r := H
      have A5 := Aside0.mk A50
      clear A50
      by_cases c6 : t114 ≥ 0
      · rw [if_pos c6] at H
        have c6b0 : decide (0 ≤ t114) = true := decide_eq_true c6
        clear c6
        obtain rfl := Option.some.inj H
        obtain ⟨i07, hi07, _, hsz7, _⟩ := info_parts info5
        obtain ⟨A7, hcut7, hA7, hC7⟩ := print_drop_of (P := Try.prog) (Value.int .u8) 0 22 5 .i64 Try.underlying22 hi07 hsz7 A0 c0 l0 a1 (of_decide_eq_true (by first | (with_reducible assumption) | assumption)) (of_decide_eq_true (by first | (with_reducible assumption) | assumption)) HC0.out
        have HR113 := Aside0.mk (Kd.C_of_reads (h1 := fun _ => rfl) (hA7 _ (Kd.reads_of_C HR0.out)))
        have HC113 := Aside0.mk hC7
        clear hA7 hC7 hi07 hsz7
        go_enter Try.func33, Try.ntmps33
        go_wp2_with (first | ((with_reducible refine gate_callee (f := 41) rfl ?_); refine goesL_ (some 9) rfl rfl Try.func41 (by kernel_rfl) rfl #[.slice A7 (l0.drop (a1 : Int).toNat).length (c0 - a1.toNat), .int .u8 10] rfl (by (try simp only [List.map_toArray, List.map_cons, List.map_nil]); first | done | (rw [show (l0.drop (a1 : Int).toNat).length = (l0.length - a1.toNat) from List.length_drop] <;> rfl) | rfl | (simp only [List.length_drop, List.length_take]; rfl)) ?_; (with_reducible refine (bytes_IndexByte.calls _ _ (l0.drop (a1 : Int).toNat) 10 t114 _ ?side1 ?side2 A5.out).mono ?_); (case side1 => repeat (first | exact HR113.out | (with_reducible refine Kd.C_alloc ?_ _) | (with_reducible refine Kd.C_drewN ?_ _) | (with_reducible refine Kd.C_drew ?_))); (case side2 => exact HC113.out); rintro e w' ⟨rfl, ⟨nd, rfl⟩⟩; refine ⟨_, rfl, ?_⟩))
        go_ret
        exact ⟨by first | rfl | (simp; done) | (simp [*]; done), by repeat (first | exact Drawn0.refl _ | apply Drawn0.step)⟩
      · rw [if_neg c6] at H
        have c6b0 : decide (0 ≤ t114) = false := decide_eq_false c6
        clear c6
        obtain rfl := Option.some.inj H
        obtain ⟨i08, hi08, _, hsz8, _⟩ := info_parts info5
        obtain ⟨A8, hcut8, hA8, hC8⟩ := print_drop_of (P := Try.prog) (Value.int .u8) 0 22 5 .i64 Try.underlying22 hi08 hsz8 A0 c0 l0 a1 (of_decide_eq_true (by first | (with_reducible assumption) | assumption)) (of_decide_eq_true (by first | (with_reducible assumption) | assumption)) HC0.out
        have HR113 := Aside0.mk (Kd.C_of_reads (h1 := fun _ => rfl) (hA8 _ (Kd.reads_of_C HR0.out)))
        have HC113 := Aside0.mk hC8
        clear hA8 hC8 hi08 hsz8
        go_enter Try.func33, Try.ntmps33
        go_wp2_with (first | ((with_reducible refine gate_callee (f := 41) rfl ?_); refine goesL_ (some 9) rfl rfl Try.func41 (by kernel_rfl) rfl #[.slice A8 (l0.drop (a1 : Int).toNat).length (c0 - a1.toNat), .int .u8 10] rfl (by (try simp only [List.map_toArray, List.map_cons, List.map_nil]); first | done | (rw [show (l0.drop (a1 : Int).toNat).length = (l0.length - a1.toNat) from List.length_drop] <;> rfl) | rfl | (simp only [List.length_drop, List.length_take]; rfl)) ?_; (with_reducible refine (bytes_IndexByte.calls _ _ (l0.drop (a1 : Int).toNat) 10 t114 _ ?side1 ?side2 A5.out).mono ?_); (case side1 => repeat (first | exact HR113.out | (with_reducible refine Kd.C_alloc ?_ _) | (with_reducible refine Kd.C_drewN ?_ _) | (with_reducible refine Kd.C_drew ?_))); (case side2 => exact HC113.out); rintro e w' ⟨rfl, ⟨nd, rfl⟩⟩; refine ⟨_, rfl, ?_⟩))
        go_ret
        exact ⟨by first | rfl | (simp; done) | (simp [*]; done), by repeat (first | exact Drawn0.refl _ | apply Drawn0.step)⟩
    · rw [if_neg c4] at H
      exact absurd H (by simp)
  · rw [if_neg c3] at H
    exact absurd H (by simp)

end Go.Proofs.Ytofkcdnkbjpmmaa.X
end
section
-- Written by wip/xprint.py over the kit's print.py: the Lean function of each Go function, and the proof that the Go text comes to it.
namespace Go.Proofs.Ytofkcdnkbjpmmaa.X
open Go.RowKit Go.Proofs.YtofkcdnkbjpmmaaW.PrintWords Go.Proofs.YtofkcdnkbjpmmaaW.PrintLast Go.Proofs.YtofkcdnkbjpmmaaW.PrintMore
attribute [local go_sem] max2_int min2_int max_two min_two max_three min_three max_four min_four   -- for this text's walks alone
set_option linter.unusedVariables false
set_option linter.unusedSimpArgs false

/-! ### lines_End: function 19 -/
def lines_End.f (k : Nat) (l0 : List Int) (a1 : Int) : Option (Int × Int) := (lines_Start.f k l0 a1).bind fun bt115 => (if bt115.2 = 0 then ((lines_tail.f l0 bt115.1).bind fun t117 => (some (t117, 0))) else (some (0, bt115.2)))
theorem lines_End.mono : ∀ a0 a1 k, LeO (lines_End.f k a0 a1) (lines_End.f (k + 1) a0 a1) := by
  intro a0 a1 k
  unfold lines_End.f
  repeat' first
      | (with_reducible exact lines_Start.mono _ _ _)
      | (with_reducible exact LeO.refl _)
      | (with_reducible exact LeO.none _)
      | (with_reducible refine LeO.ite ?_ ?_)
      | (with_reducible refine LeO.bind ?_ (fun _ => ?_))
      | exact lines_Start.mono _ _ _
      | exact LeO.none _
      | refine LeO.ite ?_ ?_
      | refine LeO.bind ?_ (fun _ => ?_)
set_option maxHeartbeats 8000000 in
set_option maxRecDepth 100000 in
theorem lines_End.calls (k : Nat) (A0 : Option Addr) (c0 : Nat) (l0 : List Int) (a1 : Int) (r1 : Int) (r2 : Int) (w : World) (hr0 : Kd.C (Kd.int .u8) w A0 l0.length l0) (hc0 : l0.length ≤ c0) (h : lines_End.f k l0 a1 = some (r1, r2)) :
    Calls Try.prog 19 #[.slice A0 l0.length c0, .int .i64 a1] w fun e w' => e = .returned (.tuple #[.int .i64 r1, .int .i64 r2]) ∧ Drawn0 w w' := by
  have HR0 := Aside0.mk hr0
  have HC0 := Aside0.mk hc0
  clear hr0 hc0
  have H : ((lines_Start.f k l0 a1).bind fun bt115 => (if bt115.2 = 0 then ((lines_tail.f l0 bt115.1).bind fun t117 => (some (t117, 0))) else (some (0, bt115.2)))) = some (r1, r2) := h
  clear h
  replace H := Option.bind_eq_some_iff.mp H
  obtain ⟨⟨t115, t116⟩, A30, H⟩ := H
  replace H : (if t116 = 0 then ((lines_tail.f l0 t115).bind fun t117 => (some (t117, 0))) else (some (0, t116))) = some (r1, r2) := H
  have A3 := Aside0.mk A30
  clear A30
  by_cases c4 : t116 = 0
  · rw [if_pos c4] at H
    have c4b0 : (t116 == 0) = true := beq_iff_eq.mpr c4
    have c4b1 : (t116 != 0) = false := bne_eq_false_iff_eq.mpr c4
    clear c4
    replace H := Option.bind_eq_some_iff.mp H
    obtain ⟨t117, A50, H⟩ := H
    replace H : (some (t117, 0)) = some (r1, r2) := H
    have A5 := Aside0.mk A50
    clear A50
    simp only [Option.some.injEq, Prod.mk.injEq] at H
    obtain ⟨rfl, rfl⟩ := H
    go_enter Try.func19, Try.ntmps19
    go_wp2_with (first | ((with_reducible refine gate_callee (f := 28) rfl ?_); refine goesL_ (some 11) rfl rfl Try.func28 (by kernel_rfl) rfl #[.slice A0 l0.length c0, .int .i64 a1] rfl (by (try simp only [List.map_toArray, List.map_cons, List.map_nil]); first | done | rfl | (simp only [List.length_drop, List.length_take]; rfl)) ?_; (with_reducible refine (lines_Start.calls k _ _ l0 a1 t115 t116 _ ?side1 ?side2 A3.out).mono ?_); (case side1 => repeat (first | exact HR0.out | (with_reducible refine Kd.C_alloc ?_ _) | (with_reducible refine Kd.C_drewN ?_ _) | (with_reducible refine Kd.C_drew ?_))); (case side2 => exact HC0.out); rintro e w' ⟨rfl, ⟨nd, rfl⟩⟩; refine ⟨_, rfl, ?_⟩) | ((with_reducible refine gate_callee (f := 33) rfl ?_); refine goesL_ (some 19) rfl rfl Try.func33 (by kernel_rfl) rfl #[.slice A0 l0.length c0, .int .i64 t115] rfl (by (try simp only [List.map_toArray, List.map_cons, List.map_nil]); first | done | rfl | (simp only [List.length_drop, List.length_take]; rfl)) ?_; (with_reducible refine (lines_tail.calls _ _ l0 t115 t117 _ ?side1 ?side2 A5.out).mono ?_); (case side1 => repeat (first | exact HR0.out | (with_reducible refine Kd.C_alloc ?_ _) | (with_reducible refine Kd.C_drewN ?_ _) | (with_reducible refine Kd.C_drew ?_))); (case side2 => exact HC0.out); rintro e w' ⟨rfl, ⟨nd, rfl⟩⟩; refine ⟨_, rfl, ?_⟩))
    go_ret2
    exact ⟨by first | rfl | (simp; done) | (simp [*]; done), by repeat (first | exact Drawn0.refl _ | apply Drawn0.step)⟩
  · rw [if_neg c4] at H
    have c4b0 : (t116 == 0) = false := beq_eq_false_iff_ne.mpr c4
    have c4b1 : (t116 != 0) = true := bne_iff_ne.mpr c4
    simp only [Option.some.injEq, Prod.mk.injEq] at H
    obtain ⟨rfl, rfl⟩ := H
    go_enter Try.func19, Try.ntmps19
    go_wp2_with (first | ((with_reducible refine gate_callee (f := 28) rfl ?_); refine goesL_ (some 11) rfl rfl Try.func28 (by kernel_rfl) rfl #[.slice A0 l0.length c0, .int .i64 a1] rfl (by (try simp only [List.map_toArray, List.map_cons, List.map_nil]); first | done | rfl | (simp only [List.length_drop, List.length_take]; rfl)) ?_; (with_reducible refine (lines_Start.calls k _ _ l0 a1 t115 t116 _ ?side1 ?side2 A3.out).mono ?_); (case side1 => repeat (first | exact HR0.out | (with_reducible refine Kd.C_alloc ?_ _) | (with_reducible refine Kd.C_drewN ?_ _) | (with_reducible refine Kd.C_drew ?_))); (case side2 => exact HC0.out); rintro e w' ⟨rfl, ⟨nd, rfl⟩⟩; refine ⟨_, rfl, ?_⟩))
    go_ret2
    exact ⟨by first | rfl | (simp; done) | (simp [*]; done), by repeat (first | exact Drawn0.refl _ | apply Drawn0.step)⟩

end Go.Proofs.Ytofkcdnkbjpmmaa.X
end
section
namespace Go.Proofs.Ytofkcdnkbjpmmaa.LN
open Go.RowKit Go.Proofs.YtofkcdnkbjpmmaaW.PrintWords Go.Proofs.YtofkcdnkbjpmmaaW.PrintMore Go.Proofs.Ytofkcdnkbjpmmaa.X Go.Proofs.Ytofkcdnkbjpmmaa.XL Go.Proofs.Ytofkcdnkbjpmmaa.XO

theorem u8s_iff {l : List Int} : u8s l = true ↔ ∀ x ∈ l, 0 ≤ x ∧ x ≤ 255 := by
  unfold u8s
  rw [List.all_eq_true]
  constructor
  · intro h x hx; exact of_decide_eq_true (h x hx)
  · intro h x hx; exact decide_eq_true (h x hx)
theorem u8s_ok {B : Nat} {l : List Int} (h : okSl B okU8 l) : u8s l = true := u8s_iff.2 (fun x hx => h.2 x hx)
theorem u8s_take {l : List Int} (h : u8s l = true) (n : Nat) : u8s (l.take n) = true := u8s_iff.2 (fun x hx => u8s_iff.1 h x (List.mem_of_mem_take hx))
theorem u8s_drop {l : List Int} (h : u8s l = true) (n : Nat) : u8s (l.drop n) = true := u8s_iff.2 (fun x hx => u8s_iff.1 h x (List.mem_of_mem_drop hx))
theorem cnt_nonneg (c : Int) (l : List Int) : 0 ≤ cnt c l := by
  induction l with
  | nil => simp [cnt]
  | cons x l ih => simp only [cnt]; split <;> omega
theorem cnt_append (c : Int) (l m : List Int) : cnt c (l ++ m) = cnt c l + cnt c m := by
  induction l with
  | nil => simp [cnt]
  | cons x l ih => simp only [List.cons_append, cnt, ih]; omega
theorem cnt_le (c : Int) (l : List Int) : cnt c l ≤ (l.length : Int) := by
  induction l with
  | nil => simp [cnt]
  | cons x l ih => simp only [cnt, List.length_cons]; split <;> omega
theorem take_snoc {t : List Int} {n : Nat} (h : n < t.length) : t.take (n + 1) = t.take n ++ [t.getD n 0] := by
  rw [List.take_succ_eq_append_getElem h, List.getD_eq_getElem?_getD, List.getElem?_eq_getElem h]; rfl
theorem cnt_take_succ {t : List Int} {n : Nat} (h : n < t.length) : cnt 10 (t.take (n + 1)) = cnt 10 (t.take n) + (if t.getD n 0 = 10 then 1 else 0) := by
  rw [take_snoc h, cnt_append]
  simp [cnt]
/-- Bytes ahead of the first line end. -/
def run10 : List Int → Nat
  | [] => 0
  | x :: l => if x = 10 then 0 else run10 l + 1
theorem run10_le (l : List Int) : run10 l ≤ l.length := by
  induction l with
  | nil => simp [run10]
  | cons x l ih => simp only [run10]; split <;> simp; omega
theorem run10_at {l : List Int} (h : run10 l < l.length) : l.getD (run10 l) 0 = 10 := by
  induction l with
  | nil => simp at h
  | cons x l ih =>
    simp only [run10] at h ⊢
    split
    · rename_i e; simpa using e
    · rename_i e
      rw [if_neg e] at h
      simpa using ih (by simpa using h)
theorem run10_ne {l : List Int} {j : Nat} (h : j < run10 l) : l.getD j 0 ≠ 10 := by
  induction l generalizing j with
  | nil => simp [run10] at h
  | cons x l ih =>
    simp only [run10] at h
    split at h
    · omega
    · rename_i e
      cases j with
      | zero => simpa using e
      | succ j => simpa using ih (j := j) (by omega)
theorem idx_run (l : List Int) : idx 10 l = if run10 l < l.length then (run10 l : Int) else -1 := by
  induction l with
  | nil => simp [idx, run10]
  | cons x l ih =>
    by_cases e : x = 10
    · simp [idx, run10, e]
    · have e1 : run10 (x :: l) = run10 l + 1 := by simp [run10, e]
      have e2 : idx 10 (x :: l) = if idx 10 l = -1 then -1 else idx 10 l + 1 := by simp [idx, e]
      rw [e1, e2, ih]
      by_cases h : run10 l < l.length
      · rw [if_pos h, if_neg (by omega), if_pos (by simp; omega)]
        simp
      · rw [if_neg h, if_pos rfl, if_neg (by simp; omega)]
/-- The end of the bytes of the line of a place. -/
def fin (t : List Int) (p : Nat) : Nat := p + run10 (t.drop p)
theorem fin_ge (t : List Int) (p : Nat) : p ≤ fin t p := Nat.le_add_right _ _
theorem fin_le {t : List Int} {p : Nat} (h : p ≤ t.length) : fin t p ≤ t.length := by
  have := run10_le (t.drop p)
  rw [List.length_drop] at this
  unfold fin
  omega
theorem getD_drop (t : List Int) (p j : Nat) : (t.drop p).getD j 0 = t.getD (p + j) 0 := by
  rw [List.getD_eq_getElem?_getD, List.getD_eq_getElem?_getD, List.getElem?_drop]
theorem fin_at {t : List Int} {p : Nat} (h : fin t p < t.length) : t.getD (fin t p) 0 = 10 := by
  have h1 : run10 (t.drop p) < (t.drop p).length := by rw [List.length_drop]; unfold fin at h; omega
  have h2 := run10_at h1
  rwa [getD_drop] at h2
theorem fin_ne {t : List Int} {p j : Nat} (h1 : p ≤ j) (h2 : j < fin t p) : t.getD j 0 ≠ 10 := by
  have h3 := run10_ne (l := t.drop p) (j := j - p) (by unfold fin at h2; omega)
  rwa [getD_drop, Nat.add_sub_cancel' h1] at h3
theorem fin_unique {t : List Int} {p q : Nat} (hp : p ≤ q) (hq : q ≤ t.length) (h1 : ∀ j, p ≤ j → j < q → t.getD j 0 ≠ 10) (h2 : q < t.length → t.getD q 0 = 10) : q = fin t p := by
  rcases Nat.lt_trichotomy q (fin t p) with h | h | h
  · have := fin_le (t := t) (p := p) (by omega)
    exact absurd (h2 (by omega)) (fin_ne hp h)
  · exact h
  · exact absurd (fin_at (by omega)) (h1 _ (fin_ge t p) h)
/-- Where the line of a place begins. -/
def beg (t : List Int) : Nat → Nat
  | 0 => 0
  | n + 1 => if t.getD n 0 = 10 then n + 1 else beg t n
/-- A line begins there. -/
def isSt (t : List Int) (p : Nat) : Prop := p = 0 ∨ t.getD (p - 1) 0 = 10
theorem beg_le (t : List Int) (n : Nat) : beg t n ≤ n := by
  induction n with
  | zero => simp [beg]
  | succ n ih => simp only [beg]; split <;> omega
theorem beg_st (t : List Int) (n : Nat) : isSt t (beg t n) := by
  induction n with
  | zero => exact .inl rfl
  | succ n ih =>
    simp only [beg]
    split
    · rename_i e; exact .inr (by simpa using e)
    · exact ih
theorem beg_ne {t : List Int} {n j : Nat} (h1 : beg t n ≤ j) (h2 : j < n) : t.getD j 0 ≠ 10 := by
  induction n with
  | zero => omega
  | succ n ih =>
    simp only [beg] at h1
    split at h1
    · omega
    · rename_i e
      by_cases hj : j = n
      · rw [hj]; exact e
      · exact ih h1 (by omega)
theorem beg_unique {t : List Int} {p q : Nat} (hp : p ≤ q) (h1 : isSt t p) (h2 : ∀ j, p ≤ j → j < q → t.getD j 0 ≠ 10) : p = beg t q := by
  have hb := beg_le t q
  rcases Nat.lt_trichotomy p (beg t q) with h | h | h
  · rcases beg_st t q with h3 | h3
    · omega
    · exact absurd h3 (h2 _ (by omega) (by omega))
  · exact h
  · rcases h1 with h3 | h3
    · omega
    · exact absurd h3 (beg_ne (t := t) (n := q) (by omega) (by omega))
theorem cnt_same {t : List Int} {p q : Nat} (hp : p ≤ q) (hq : q ≤ t.length) (h : ∀ j, p ≤ j → j < q → t.getD j 0 ≠ 10) : cnt 10 (t.take q) = cnt 10 (t.take p) := by
  obtain ⟨d, rfl⟩ : ∃ d, q = p + d := ⟨q - p, by omega⟩
  induction d with
  | zero => rfl
  | succ d ih =>
    rw [← Nat.add_assoc, cnt_take_succ (by omega), if_neg (h _ (by omega) (by omega)), ih (by omega) (by omega) (fun j h1 h2 => h j h1 (by omega))]
    simp
theorem cnt_mono {t : List Int} {p q : Nat} (hp : p ≤ q) (hq : q ≤ t.length) : cnt 10 (t.take p) ≤ cnt 10 (t.take q) := by
  obtain ⟨d, rfl⟩ : ∃ d, q = p + d := ⟨q - p, by omega⟩
  induction d with
  | zero => exact Int.le_refl _
  | succ d ih =>
    rw [← Nat.add_assoc, cnt_take_succ (by omega)]
    have := ih (by omega) (by omega)
    split <;> omega
theorem beg_fin {t : List Int} {p : Nat} (h : p ≤ t.length) : fin t (beg t p) = fin t p := by
  have hb := beg_le t p
  refine (fin_unique (Nat.le_trans hb (fin_ge t p)) (fin_le h) (fun j h1 h2 => ?_) (fun h1 => fin_at h1)).symm
  by_cases hj : j < p
  · exact beg_ne h1 hj
  · exact fin_ne (by omega) h2
theorem cnt_beg {t : List Int} {p : Nat} (h : p ≤ t.length) : cnt 10 (t.take p) = cnt 10 (t.take (beg t p)) := cnt_same (beg_le t p) h (fun _ h1 h2 => beg_ne h1 h2)
/-- The n-th line behind the one that begins at p. -/
def sg (t : List Int) (p : Nat) : Nat → Option Nat
  | 0 => some p
  | n + 1 => if fin t p < t.length then sg t (fin t p + 1) n else none
theorem cnt_next {t : List Int} {p : Nat} (h : fin t p < t.length) : cnt 10 (t.take (fin t p + 1)) = cnt 10 (t.take p) + 1 := by
  rw [cnt_take_succ h, if_pos (fin_at h), cnt_same (fin_ge t p) (by omega) (fun j h1 h2 => fin_ne h1 h2)]
theorem sg_some {t : List Int} : ∀ {n p q : Nat}, p ≤ t.length → isSt t p → sg t p n = some q → isSt t q ∧ p ≤ q ∧ q ≤ t.length ∧ cnt 10 (t.take q) = cnt 10 (t.take p) + n := by
  intro n
  induction n with
  | zero =>
    intro p q hp hs h
    simp only [sg, Option.some.injEq] at h
    subst h
    exact ⟨hs, Nat.le_refl _, hp, by simp⟩
  | succ n ih =>
    intro p q hp hs h
    simp only [sg] at h
    split at h
    · rename_i hf
      obtain ⟨h1, h2, h3, h4⟩ := ih (by omega) (.inr (by simpa using fin_at hf)) h
      have := fin_ge t p
      exact ⟨h1, by omega, h3, by rw [h4, cnt_next hf]; omega⟩
    · cases h
theorem sg_of {t : List Int} : ∀ {n p q : Nat}, isSt t p → p ≤ q → q ≤ t.length → isSt t q → cnt 10 (t.take q) = cnt 10 (t.take p) + n → sg t p n = some q := by
  intro n
  induction n with
  | zero =>
    intro p q hs hp hq hsq hc
    simp only [sg, Option.some.injEq]
    rcases Nat.lt_or_eq_of_le hp with h | h
    · rcases hsq with h1 | h1
      · omega
      · have h2 : q - 1 + 1 = q := by omega
        have h3 := cnt_take_succ (t := t) (n := q - 1) (by omega)
        rw [if_pos h1, h2] at h3
        have h4 := cnt_mono (t := t) (p := p) (q := q - 1) (by omega) (by omega)
        omega
    · exact h
  | succ n ih =>
    intro p q hs hp hq hsq hc
    have hf : fin t p < q := by
      rcases Nat.lt_or_ge (fin t p) q with h | h
      · exact h
      · have := cnt_same (t := t) hp hq (fun j h1 h2 => fin_ne h1 (by omega))
        omega
    simp only [sg]
    rw [if_pos (by omega)]
    refine ih (.inr (by simpa using fin_at (by omega))) (by omega) hq hsq ?_
    rw [cnt_next (by omega), hc]
    omega
/-- The line that holds a place. -/
theorem sg_beg {t : List Int} {p : Nat} (h : p ≤ t.length) : sg t 0 (cnt 10 (t.take p)).toNat = some (beg t p) := by
  have hc := cnt_nonneg 10 (t.take p)
  refine sg_of (.inl rfl) (Nat.zero_le _) (Nat.le_trans (beg_le t p) h) (beg_st t p) ?_
  rw [← cnt_beg h]
  simp [cnt]
  omega

section
variable {t : List Int} (hu : u8s t = true)
include hu
theorem Of_eq (at_ : Int) : lines_Of.f t at_ = some (if 0 ≤ at_ ∧ at_ ≤ t.length then (cnt 10 (t.take at_.toNat), 0) else (0, 2)) := by
  unfold lines_Of.f
  by_cases h : 0 ≤ at_ ∧ at_ ≤ (t.length : Int)
  · have e1 : lines_has.f t at_ = some true := by unfold lines_has.f; rw [if_pos h.1, decide_eq_true h.2]
    rw [e1, if_pos h]
    simp only [Option.bind_some, if_true]
    rw [if_pos h.1, if_pos h.2]
    unfold bytes_Count.f
    rw [u8s_take hu]
    rfl
  · have e1 : lines_has.f t at_ = some false := by
      unfold lines_has.f
      by_cases h0 : at_ ≥ 0
      · rw [if_pos h0, decide_eq_false (fun h1 => h ⟨h0, h1⟩)]
      · rw [if_neg h0]
    rw [e1, if_neg h]
    rfl
theorem IndexByte_eq (n : Nat) : bytes_IndexByte.f (t.drop n) 10 = some (if run10 (t.drop n) < (t.drop n).length then (run10 (t.drop n) : Int) else -1) := by
  unfold bytes_IndexByte.f
  rw [u8s_drop hu, idx_run]
  rfl
end
section
variable {t : List Int} (hu : u8s t = true) (hl : t.length ≤ 140737488355328)
include hu hl
theorem Start_l0 : ∀ (n p : Nat), (n : Int) ≤ 9223372036854775807 → p ≤ t.length → Ev (fun k => lines_Start.l0 k t (n : Int) (p : Int)) (match sg t p n with | some q => ((q : Int), 0) | none => (0, 2)) := by
  intro n
  induction n with
  | zero =>
    intro p _ hp
    exact Ev.step (fun k => rfl) (Ev.neg (by simp) (Ev.now _))
  | succ n ih =>
    intro p hn hp
    refine Ev.step (fun k => rfl) (Ev.pos (by omega) (Ev.pos (by omega) (Ev.pos (by omega) ?_)))
    rw [Int.toNat_natCast]
    refine Ev.cbind (IndexByte_eq hu p) ?_
    have hr := run10_le (t.drop p)
    rw [List.length_drop] at hr ⊢
    simp only [sg]
    by_cases h : run10 (t.drop p) < t.length - p
    · rw [if_pos h, if_pos (by unfold fin; omega)]
      refine Ev.neg (by omega) ?_
      rw [wrap64_id (n := ((n + 1 : Nat) : Int) - 1) (by omega) (by omega), wrap64_id (n := (run10 (t.drop p) : Int) + 1) (by omega) (by omega), wrap64_id (by omega) (by omega)]
      rw [show ((n + 1 : Nat) : Int) - 1 = (n : Int) from by omega, show (p : Int) + ((run10 (t.drop p) : Int) + 1) = ((fin t p + 1 : Nat) : Int) from by unfold fin; omega]
      exact ih _ (by omega) (by unfold fin; omega)
    · rw [if_neg h, if_neg (by unfold fin; omega)]
      exact Ev.pos (by omega) (Ev.now _)
def startR (t : List Int) (n : Int) : Int × Int := if n < 0 then (0, 2) else match sg t 0 n.toNat with | some q => ((q : Int), 0) | none => (0, 2)
theorem Start_ev (n : Int) (hn : n ≤ 9223372036854775807) : Ev (fun k => lines_Start.f k t n) (startR t n) := by
  unfold startR
  by_cases h : n < 0
  · rw [if_pos h]
    exact Ev.pos h (Ev.now _)
  · rw [if_neg h]
    refine Ev.neg h ?_
    have e : n = (n.toNat : Int) := by omega
    have h1 := Start_l0 hu hl n.toNat 0 (by omega) (Nat.zero_le _)
    rw [← e] at h1
    exact h1
theorem tail_eq {p : Nat} (hp : p ≤ t.length) : lines_tail.f t (p : Int) = some (fin t p : Int) := by
  unfold lines_tail.f
  rw [if_pos (by omega), if_pos (by omega), Int.toNat_natCast, IndexByte_eq hu p]
  simp only [Option.bind_some]
  have hr := run10_le (t.drop p)
  rw [List.length_drop] at hr ⊢
  by_cases h : run10 (t.drop p) < t.length - p
  · rw [if_pos h, if_pos (by omega), wrap64_id (by omega) (by omega)]
    unfold fin
    simp
  · rw [if_neg h, if_neg (by omega)]
    unfold fin
    congr 1
    omega
def endR (t : List Int) (n : Int) : Int × Int := if n < 0 then (0, 2) else match sg t 0 n.toNat with | some q => ((fin t q : Nat), 0) | none => (0, 2)
theorem End_ev (n : Int) (hn : n ≤ 9223372036854775807) : Ev (fun k => lines_End.f k t n) (endR t n) := by
  refine Ev.bind (Start_ev hu hl n hn) ?_
  unfold startR endR
  by_cases h : n < 0
  · rw [if_pos h, if_pos h]
    exact Ev.neg (by decide) (Ev.now _)
  · rw [if_neg h, if_neg h]
    cases hs : sg t 0 n.toNat with
    | none => exact Ev.neg (by decide) (Ev.now _)
    | some q =>
      have hq := (sg_some (Nat.zero_le _) (.inl rfl) hs).2.2.1
      exact Ev.pos rfl (Ev.cbind (tail_eq hu hl hq) (Ev.now _))
/-- The line that holds a place: where it begins and ends. -/
theorem Start_of {p : Nat} (hp : p ≤ t.length) : Ev (fun k => lines_Start.f k t (cnt 10 (t.take p))) ((beg t p : Int), 0) := by
  have h0 := cnt_nonneg 10 (t.take p)
  have h1 := cnt_le 10 (t.take p)
  have h2 := List.length_take_le p t
  refine Ev.eq (Start_ev hu hl _ (by omega)) ?_
  unfold startR
  rw [if_neg (by omega), sg_beg hp]
theorem End_of {p : Nat} (hp : p ≤ t.length) : Ev (fun k => lines_End.f k t (cnt 10 (t.take p))) ((fin t p : Int), 0) := by
  have h0 := cnt_nonneg 10 (t.take p)
  have h1 := cnt_le 10 (t.take p)
  have h2 := List.length_take_le p t
  refine Ev.eq (End_ev hu hl _ (by omega)) ?_
  unfold endR
  rw [if_neg (by omega), sg_beg hp]
  simp only
  rw [beg_fin hp]
end
end Go.Proofs.Ytofkcdnkbjpmmaa.LN
end
section
-- Written by wip/xprint.py over the kit's print.py: the Lean function of each Go function, and the proof that the Go text comes to it.
namespace Go.Proofs.Ytofkcdnkbjpmmaa.X
open Go.RowKit Go.Proofs.YtofkcdnkbjpmmaaW.PrintWords Go.Proofs.YtofkcdnkbjpmmaaW.PrintLast Go.Proofs.YtofkcdnkbjpmmaaW.PrintMore
attribute [local go_sem] max2_int min2_int max_two min_two max_three min_three max_four min_four   -- for this text's walks alone
set_option linter.unusedVariables false
set_option linter.unusedSimpArgs false

/-! ### lines_Count: function 14 -/
def lines_Count.f (l0 : List Int) : Option (Int) := (bytes_Count.f l0 (([10] : List Int))).bind fun t110 => (some (wrap64 (t110 + 1)))
set_option maxHeartbeats 8000000 in
set_option maxRecDepth 100000 in
theorem lines_Count.calls (A0 : Option Addr) (c0 : Nat) (l0 : List Int) (r : Int) (w : World) (hr0 : Kd.C (Kd.int .u8) w A0 l0.length l0) (hc0 : l0.length ≤ c0) (h : lines_Count.f l0 = some r) :
    Calls Try.prog 14 #[.slice A0 l0.length c0] w fun e w' => e = .returned (.int .i64 r) ∧ Below w.heap.size w w' := by
  have HR0 := Aside0.mk hr0
  have HC0 := Aside0.mk hc0
  clear hr0 hc0
  have HB := Aside0.mk (Below.refl w.heap.size w)
  have H : ((bytes_Count.f l0 (([10] : List Int))).bind fun t110 => (some (wrap64 (t110 + 1)))) = some r := h
  clear h
  obtain ⟨y107, hy107⟩ : ∃ y_ : List Int, y_ = (([10] : List Int)) := ⟨_, rfl⟩
  replace H : ((bytes_Count.f l0 y107).bind fun t110 => (some (wrap64 (t110 + 1)))) = some r := by first | (rw [hy107]; with_reducible exact H) | (have H2_ := (Option.bind_some _ _).symm.trans H; rw [hy107]; with_reducible exact H2_) | (have H2_ := (Option.bind_some _ _).symm.trans H; with_reducible exact H2_) | with_reducible exact H | (rw [hy107]; exact H) | exact H
  have Ny107 := Aside0.mk hy107
  clear hy107
  replace H := Option.bind_eq_some_iff.mp H
  obtain ⟨t110, A20, H⟩ := H
  replace H : (some (wrap64 (t110 + 1))) = some r := H
  have A2 := Aside0.mk A20
  clear A20
  obtain rfl := Option.some.inj H
  go_enter Try.func14, Try.ntmps14
  go_wp2_with (first | ((with_reducible refine gate_dst (N := 4) rfl ?_); refine Kd.R_lit (Kd.int .u8) _ 5 ?hg (N := 4) ?hd (xs := ([10] : List Int)) (inner := [.int .u8 10]) (ok := fun _ => True) (okp := fun _ => True) ?hr ?hp (fun _ hk => hk) trivial (Below.refl _ _) (Nat.le_refl _) (by simp) ?_; (case hd => rfl); (case hg => rfl); (case hr => first | (go_simp; done) | (go_simp; rfl)); (case hp => exact (Reps.one (show Kd.M (Kd.int .u8) _ _ _ 10 [.int .u8 10] from rfl) (Reps.none _ _))); intro v108 w3 ho4 hb hg_ hnew_; clear hg_ hnew_; (first | rw [← Ny107.out] at ho4 | (simp only [Int.reduceToNat] at ho4; rw [← Ny107.out] at ho4)); have n0_ := Aside0.mk (Kd.R_lower ho4 (below_size (by repeat (first | (with_reducible first | exact HB.out | apply below_alloc | apply pw_below_drewN | apply below_drew1) | exact HB.out)))); have n1_ := Aside0.mk (below_step (by repeat (first | (with_reducible first | exact HB.out | apply below_alloc | apply pw_below_drewN | apply below_drew1) | exact HB.out)) hb); clear HB; have HO109 := n0_; have HB := n1_; clear n0_ n1_; clear hb ho4; obtain ⟨Ao5, co5, eo5⟩ := Kd.R_slice HO109.out; subst eo5) | ((with_reducible refine gate_callee (f := 32) rfl ?_); refine goesL_ (some 5) rfl rfl Try.func32 (by kernel_rfl) rfl #[.slice A0 l0.length c0, .slice Ao5 y107.length co5] rfl (by (try simp only [List.map_toArray, List.map_cons, List.map_nil]); first | done | rfl | (simp only [List.length_drop, List.length_take]; rfl)) ?_; (with_reducible refine (bytes_Count.calls _ _ l0 _ _ y107 t110 _ ?side1 ?side2 ?side3 ?side4 A2.out).mono ?_); (case side1 => repeat (first | exact (Kd.C_below HR0.out HB.out) | (with_reducible refine Kd.C_alloc ?_ _) | (with_reducible refine Kd.C_drewN ?_ _) | (with_reducible refine Kd.C_drew ?_))); (case side2 => exact HC0.out); (case side3 => repeat (first | exact (Kd.R_reads' HO109.out).2.2 | (with_reducible refine Kd.C_alloc ?_ _) | (with_reducible refine Kd.C_drewN ?_ _) | (with_reducible refine Kd.C_drew ?_))); (case side4 => exact (Kd.R_reads' HO109.out).2.1); rintro e w' ⟨rfl, ⟨nd, rfl⟩⟩; refine ⟨_, rfl, ?_⟩))
  go_ret
  exact ⟨by first | rfl | (simp [errW_none, errW_some] <;> rfl) | (simp [*, errW_none, errW_some] <;> rfl), by repeat (first | (with_reducible first | exact HB.out | apply below_alloc | apply pw_below_drewN | apply below_drew1) | exact HB.out)⟩

end Go.Proofs.Ytofkcdnkbjpmmaa.X
end
section
-- Written by wip/xprint.py over the kit's print.py: the Lean function of each Go function, and the proof that the Go text comes to it.
namespace Go.Proofs.Ytofkcdnkbjpmmaa.X
open Go.RowKit Go.Proofs.YtofkcdnkbjpmmaaW.PrintWords Go.Proofs.YtofkcdnkbjpmmaaW.PrintLast Go.Proofs.YtofkcdnkbjpmmaaW.PrintMore
attribute [local go_sem] max2_int min2_int max_two min_two max_three min_three max_four min_four   -- for this text's walks alone
set_option linter.unusedVariables false
set_option linter.unusedSimpArgs false

/-! ### bytealg_LastIndexByte: function 58 -/
def bytealg_LastIndexByte.l0 : Nat → List Int → Int → Int → Option (Int)
  | 0, _, _, _ => none
  | k + 1, x0, x1, x5 => if x5 ≥ 0 then (if 0 ≤ x5 then (if x5 < (x0.length : Int) then (if (rd x0 x5) = x1 then (some x5) else (bytealg_LastIndexByte.l0 k x0 x1 (wrap64 (x5 - 1)))) else (none)) else (none)) else (some (-1))
def bytealg_LastIndexByte.f (k : Nat) (l0 : List Int) (a1 : Int) : Option (Int) := bytealg_LastIndexByte.l0 k l0 a1 (wrap64 ((l0.length : Int) - 1))
theorem bytealg_LastIndexByte.mono_l : ∀ k, (∀ y0 y1 y2, LeO (bytealg_LastIndexByte.l0 k y0 y1 y2) (bytealg_LastIndexByte.l0 (k + 1) y0 y1 y2))
  | 0 => fun _ _ _ r h => by simp [bytealg_LastIndexByte.l0] at h
  | k + 1 => by
    have ih0 := bytealg_LastIndexByte.mono_l k
    · intro y0 y1 y2
      unfold bytealg_LastIndexByte.l0
      repeat' first
      | (with_reducible exact ih0 _ _ _)
      | (with_reducible exact LeO.refl _)
      | (with_reducible exact LeO.none _)
      | (with_reducible refine LeO.ite ?_ ?_)
      | (with_reducible refine LeO.bind ?_ (fun _ => ?_))
      | exact ih0 _ _ _
      | exact LeO.none _
      | refine LeO.ite ?_ ?_
      | refine LeO.bind ?_ (fun _ => ?_)
theorem bytealg_LastIndexByte.mono : ∀ a0 a1 k, LeO (bytealg_LastIndexByte.f k a0 a1) (bytealg_LastIndexByte.f (k + 1) a0 a1) := by
  intro a0 a1 k
  have ih0 := bytealg_LastIndexByte.mono_l k
  unfold bytealg_LastIndexByte.f
  repeat' first
      | (with_reducible exact ih0 _ _ _)
      | (with_reducible exact LeO.refl _)
      | (with_reducible exact LeO.none _)
      | (with_reducible refine LeO.ite ?_ ?_)
      | (with_reducible refine LeO.bind ?_ (fun _ => ?_))
      | exact ih0 _ _ _
      | exact LeO.none _
      | refine LeO.ite ?_ ?_
      | refine LeO.bind ?_ (fun _ => ?_)
set_option maxHeartbeats 8000000 in
set_option maxRecDepth 100000 in
theorem bytealg_LastIndexByte.calls (k : Nat) (A0 : Option Addr) (c0 : Nat) (l0 : List Int) (a1 : Int) (r : Int) (w : World) (hr0 : Kd.C (Kd.int .u8) w A0 l0.length l0) (hc0 : l0.length ≤ c0) (h : bytealg_LastIndexByte.f k l0 a1 = some r) :
    Calls Try.prog 58 #[.slice A0 l0.length c0, .int .u8 a1] w fun e w' => e = .returned (.int .i64 r) ∧ Drawn0 w w' := by
  have HR0 := Aside0.mk hr0
  have HC0 := Aside0.mk hc0
  clear hr0 hc0
  have H : (bytealg_LastIndexByte.l0 k l0 a1 (wrap64 ((l0.length : Int) - 1))) = some r := h
  clear h
  have H' := Aside0.mk H
  clear H
  go_enter Try.func58, Try.ntmps58
  go_wp2
  go_loopg [5] k (fun kq v5 w' => ∃ (x5_1 : Int), v5 = .int .i64 x5_1 ∧ Aside0 (bytealg_LastIndexByte.l0 kq l0 a1 x5_1 = some r) ∧ Aside0 (kq ≤ k) ∧ Drawn0 w w')
  case atStart => exact ⟨(wrap64 ((l0.length : Int) - 1)), (by first | rfl | (simp; done) | (simp [*]; done)), H', ⟨Nat.le_refl _⟩, by repeat (first | exact Drawn0.refl _ | apply Drawn0.step)⟩
  case round =>
    clear H'
    try clear p2
    obtain ⟨x5_1, rfl, HA, HK1, ⟨m1, rfl⟩⟩ := hrel
    cases gk with
    | zero => exact absurd HA.out (by simp [bytealg_LastIndexByte.l0])
    | succ k1 =>
      have H := HA.out
      clear HA
      simp only [bytealg_LastIndexByte.l0] at H
      by_cases c3 : x5_1 ≥ 0
      · rw [if_pos c3] at H
        have c3b0 : decide (0 ≤ x5_1) = true := decide_eq_true c3
        clear c3
        by_cases c4 : 0 ≤ x5_1
        · rw [if_pos c4] at H
          have c4b0 : decide (0 ≤ x5_1) = true := decide_eq_true c4
          clear c4
          by_cases c5 : x5_1 < (l0.length : Int)
          · rw [if_pos c5] at H
            have c5b0 : decide (x5_1 < (l0.length : Int)) = true := decide_eq_true c5
            clear c5
            by_cases c6 : (rd l0 x5_1) = a1
            · rw [if_pos c6] at H
              have c6b0 : ((rd l0 x5_1) == a1) = true := beq_iff_eq.mpr c6
              have c6b1 : ((rd l0 x5_1) != a1) = false := bne_eq_false_iff_eq.mpr c6
              clear c6
              obtain rfl := Option.some.inj H
              have p128 : 0 ≤ (x5_1 : Int) := of_decide_eq_true (by first | (with_reducible assumption) | assumption)
              have q128 : x5_1 < (l0.length : Int) := of_decide_eq_true (by first | (with_reducible assumption) | assumption)
              obtain ⟨ad128, e128, hx128_0⟩ := Kd.at_int HR0.out x5_1 p128 q128
              cases e128
              replace p128 := eq_true p128
              replace q128 := eq_true q128
              go_wp2
              go_ret
              exact ⟨by first | rfl | (simp; done) | (simp [*]; done), by repeat (first | exact Drawn0.refl _ | apply Drawn0.step)⟩
            · rw [if_neg c6] at H
              have c6b0 : ((rd l0 x5_1) == a1) = false := beq_eq_false_iff_ne.mpr c6
              have c6b1 : ((rd l0 x5_1) != a1) = true := bne_iff_ne.mpr c6
              have H' := Aside0.mk H
              clear H
              have p128 : 0 ≤ (x5_1 : Int) := of_decide_eq_true (by first | (with_reducible assumption) | assumption)
              have q128 : x5_1 < (l0.length : Int) := of_decide_eq_true (by first | (with_reducible assumption) | assumption)
              obtain ⟨ad128, e128, hx128_0⟩ := Kd.at_int HR0.out x5_1 p128 q128
              cases e128
              replace p128 := eq_true p128
              replace q128 := eq_true q128
              go_wp2
              go_roundg k1
              case measure => have := HK1.out; omega
              case rel => exact ⟨(wrap64 (x5_1 - 1)), (by first | rfl | (simp; done) | (simp [*]; done)), H', ⟨by have := HK1.out; omega⟩, by repeat (first | exact Drawn0.refl _ | apply Drawn0.step)⟩
          · rw [if_neg c5] at H
            exact absurd H (by simp)
        · rw [if_neg c4] at H
          exact absurd H (by simp)
      · rw [if_neg c3] at H
        have c3b0 : decide (0 ≤ x5_1) = false := decide_eq_false c3
        clear c3
        obtain rfl := Option.some.inj H
        go_wp2
        go_ret
        exact ⟨by first | rfl | (simp; done) | (simp [*]; done), by repeat (first | exact Drawn0.refl _ | apply Drawn0.step)⟩

end Go.Proofs.Ytofkcdnkbjpmmaa.X
end
section
-- Written by wip/xprint.py over the kit's print.py: the Lean function of each Go function, and the proof that the Go text comes to it.
namespace Go.Proofs.Ytofkcdnkbjpmmaa.X
open Go.RowKit Go.Proofs.YtofkcdnkbjpmmaaW.PrintWords Go.Proofs.YtofkcdnkbjpmmaaW.PrintLast Go.Proofs.YtofkcdnkbjpmmaaW.PrintMore
attribute [local go_sem] max2_int min2_int max_two min_two max_three min_three max_four min_four   -- for this text's walks alone
set_option linter.unusedVariables false
set_option linter.unusedSimpArgs false

/-! ### bytes_LastIndexByte: function 49 -/
def bytes_LastIndexByte.f (k : Nat) (l0 : List Int) (a1 : Int) : Option (Int) := (bytealg_LastIndexByte.f k l0 a1).bind fun t129 => (some t129)
theorem bytes_LastIndexByte.mono : ∀ a0 a1 k, LeO (bytes_LastIndexByte.f k a0 a1) (bytes_LastIndexByte.f (k + 1) a0 a1) := by
  intro a0 a1 k
  unfold bytes_LastIndexByte.f
  repeat' first
      | (with_reducible exact bytealg_LastIndexByte.mono _ _ _)
      | (with_reducible exact LeO.refl _)
      | (with_reducible exact LeO.none _)
      | (with_reducible refine LeO.ite ?_ ?_)
      | (with_reducible refine LeO.bind ?_ (fun _ => ?_))
      | exact bytealg_LastIndexByte.mono _ _ _
      | exact LeO.none _
      | refine LeO.ite ?_ ?_
      | refine LeO.bind ?_ (fun _ => ?_)
set_option maxHeartbeats 8000000 in
set_option maxRecDepth 100000 in
theorem bytes_LastIndexByte.calls (k : Nat) (A0 : Option Addr) (c0 : Nat) (l0 : List Int) (a1 : Int) (r : Int) (w : World) (hr0 : Kd.C (Kd.int .u8) w A0 l0.length l0) (hc0 : l0.length ≤ c0) (h : bytes_LastIndexByte.f k l0 a1 = some r) :
    Calls Try.prog 49 #[.slice A0 l0.length c0, .int .u8 a1] w fun e w' => e = .returned (.int .i64 r) ∧ Drawn0 w w' := by
  have HR0 := Aside0.mk hr0
  have HC0 := Aside0.mk hc0
  clear hr0 hc0
  have H : ((bytealg_LastIndexByte.f k l0 a1).bind fun t129 => (some t129)) = some r := h
  clear h
  replace H := Option.bind_eq_some_iff.mp H
  obtain ⟨t129, A30, H⟩ := H
  replace H : (some t129) = some r := H
  have A3 := Aside0.mk A30
  clear A30
  obtain rfl := Option.some.inj H
  go_enter Try.func49, Try.ntmps49
  go_wp2_with (first | ((with_reducible refine gate_callee (f := 58) rfl ?_); refine goesL_ (some 7) rfl rfl Try.func58 (by kernel_rfl) rfl #[.slice A0 l0.length c0, .int .u8 a1] rfl (by (try simp only [List.map_toArray, List.map_cons, List.map_nil]); first | done | rfl | (simp only [List.length_drop, List.length_take]; rfl)) ?_; (with_reducible refine (bytealg_LastIndexByte.calls k _ _ l0 a1 t129 _ ?side1 ?side2 A3.out).mono ?_); (case side1 => repeat (first | exact HR0.out | (with_reducible refine Kd.C_alloc ?_ _) | (with_reducible refine Kd.C_drewN ?_ _) | (with_reducible refine Kd.C_drew ?_))); (case side2 => exact HC0.out); rintro e w' ⟨rfl, ⟨nd, rfl⟩⟩; refine ⟨_, rfl, ?_⟩))
  go_ret
  exact ⟨by first | rfl | (simp; done) | (simp [*]; done), by repeat (first | exact Drawn0.refl _ | apply Drawn0.step)⟩

end Go.Proofs.Ytofkcdnkbjpmmaa.X
end
section
-- Written by wip/xprint.py over the kit's print.py: the Lean function of each Go function, and the proof that the Go text comes to it.
namespace Go.Proofs.Ytofkcdnkbjpmmaa.X
open Go.RowKit Go.Proofs.YtofkcdnkbjpmmaaW.PrintWords Go.Proofs.YtofkcdnkbjpmmaaW.PrintLast Go.Proofs.YtofkcdnkbjpmmaaW.PrintMore
attribute [local go_sem] max2_int min2_int max_two min_two max_three min_three max_four min_four   -- for this text's walks alone
set_option linter.unusedVariables false
set_option linter.unusedSimpArgs false

/-! ### lines_head: function 34 -/
def lines_head.f (k : Nat) (l0 : List Int) (a1 : Int) : Option (Int) := if 0 ≤ a1 then (if a1 ≤ (l0.length : Int) then ((bytes_LastIndexByte.f k (l0.take (a1 : Int).toNat) 10).bind fun t131 => (some (wrap64 (t131 + 1)))) else (none)) else (none)
theorem lines_head.mono : ∀ a0 a1 k, LeO (lines_head.f k a0 a1) (lines_head.f (k + 1) a0 a1) := by
  intro a0 a1 k
  unfold lines_head.f
  repeat' first
      | (with_reducible exact bytes_LastIndexByte.mono _ _ _)
      | (with_reducible exact LeO.refl _)
      | (with_reducible exact LeO.none _)
      | (with_reducible refine LeO.ite ?_ ?_)
      | (with_reducible refine LeO.bind ?_ (fun _ => ?_))
      | exact bytes_LastIndexByte.mono _ _ _
      | exact LeO.none _
      | refine LeO.ite ?_ ?_
      | refine LeO.bind ?_ (fun _ => ?_)
set_option maxHeartbeats 8000000 in
set_option maxRecDepth 100000 in
theorem lines_head.calls (k : Nat) (A0 : Option Addr) (c0 : Nat) (l0 : List Int) (a1 : Int) (r : Int) (w : World) (hr0 : Kd.C (Kd.int .u8) w A0 l0.length l0) (hc0 : l0.length ≤ c0) (h : lines_head.f k l0 a1 = some r) :
    Calls Try.prog 34 #[.slice A0 l0.length c0, .int .i64 a1] w fun e w' => e = .returned (.int .i64 r) ∧ Drawn0 w w' := by
  have HR0 := Aside0.mk hr0
  have HC0 := Aside0.mk hc0
  clear hr0 hc0
  have H : (if 0 ≤ a1 then (if a1 ≤ (l0.length : Int) then ((bytes_LastIndexByte.f k (l0.take (a1 : Int).toNat) 10).bind fun t131 => (some (wrap64 (t131 + 1)))) else (none)) else (none)) = some r := h
  clear h
  by_cases c3 : 0 ≤ a1
  · rw [if_pos c3] at H
    have c3b0 := eq_true c3
    have c3b1 : decide (0 ≤ a1) = true := decide_eq_true c3
    clear c3
    by_cases c4 : a1 ≤ (l0.length : Int)
    · rw [if_pos c4] at H
      have c4b0 := eq_true c4
      have c4b1 : decide (a1 ≤ (l0.length : Int)) = true := decide_eq_true c4
      clear c4
      replace H := Option.bind_eq_some_iff.mp H
      obtain ⟨t131, A50, H⟩ := H
      replace H : (some (wrap64 (t131 + 1))) = some r := H
      have A5 := Aside0.mk A50
      clear A50
      obtain rfl := Option.some.inj H
      obtain ⟨i06, hi06, _, hsz6, _⟩ := info_parts info5
      obtain ⟨hcut6, hA6, hC6⟩ := print_take_of (P := Try.prog) (Value.int .u8) 0 22 5 .i64 Try.underlying22 hi06 hsz6 A0 c0 l0 a1 (of_decide_eq_true (by first | (with_reducible assumption) | assumption)) (of_decide_eq_true (by first | (with_reducible assumption) | assumption)) HC0.out
      have HR130 := Aside0.mk (Kd.C_of_reads (h1 := fun _ => rfl) (hA6 _ (Kd.reads_of_C HR0.out)))
      have HC130 := Aside0.mk hC6
      clear hA6 hC6 hi06 hsz6
      go_enter Try.func34, Try.ntmps34
      go_wp2_with (first | ((with_reducible refine gate_callee (f := 49) rfl ?_); refine goesL_ (some 8) rfl rfl Try.func49 (by kernel_rfl) rfl #[.slice A0 (l0.take (a1 : Int).toNat).length c0, .int .u8 10] rfl (by (try simp only [List.map_toArray, List.map_cons, List.map_nil]); first | done | (rw [show (l0.take (a1 : Int).toNat).length = a1.toNat from (by rw [List.length_take]; have h_ : (a1 : Int) ≤ (l0.length : Int) := of_decide_eq_true (by first | (with_reducible assumption) | assumption); omega)] <;> rfl) | rfl | (simp only [List.length_drop, List.length_take]; rfl)) ?_; (with_reducible refine (bytes_LastIndexByte.calls k _ _ (l0.take (a1 : Int).toNat) 10 t131 _ ?side1 ?side2 A5.out).mono ?_); (case side1 => repeat (first | exact HR130.out | (with_reducible refine Kd.C_alloc ?_ _) | (with_reducible refine Kd.C_drewN ?_ _) | (with_reducible refine Kd.C_drew ?_))); (case side2 => exact HC130.out); rintro e w' ⟨rfl, ⟨nd, rfl⟩⟩; refine ⟨_, rfl, ?_⟩))
      go_ret
      exact ⟨by first | rfl | (simp; done) | (simp [*]; done), by repeat (first | exact Drawn0.refl _ | apply Drawn0.step)⟩
    · rw [if_neg c4] at H
      exact absurd H (by simp)
  · rw [if_neg c3] at H
    exact absurd H (by simp)

end Go.Proofs.Ytofkcdnkbjpmmaa.X
end
section
-- Written by wip/xprint.py over the kit's print.py: the Lean function of each Go function, and the proof that the Go text comes to it.
namespace Go.Proofs.Ytofkcdnkbjpmmaa.X
open Go.RowKit Go.Proofs.YtofkcdnkbjpmmaaW.PrintWords Go.Proofs.YtofkcdnkbjpmmaaW.PrintLast Go.Proofs.YtofkcdnkbjpmmaaW.PrintMore
attribute [local go_sem] max2_int min2_int max_two min_two max_three min_three max_four min_four   -- for this text's walks alone
set_option linter.unusedVariables false
set_option linter.unusedSimpArgs false

/-! ### lines_Column: function 35 -/
def lines_Column.f (k : Nat) (l0 : List Int) (a1 : Int) : Option (Int × Int) := (lines_has.f l0 a1).bind fun t132 => (if t132 = true then ((lines_head.f k l0 a1).bind fun t133 => (some (wrap64 (a1 - t133), 0))) else (some (0, 2)))
theorem lines_Column.mono : ∀ a0 a1 k, LeO (lines_Column.f k a0 a1) (lines_Column.f (k + 1) a0 a1) := by
  intro a0 a1 k
  unfold lines_Column.f
  repeat' first
      | (with_reducible exact lines_head.mono _ _ _)
      | (with_reducible exact LeO.refl _)
      | (with_reducible exact LeO.none _)
      | (with_reducible refine LeO.ite ?_ ?_)
      | (with_reducible refine LeO.bind ?_ (fun _ => ?_))
      | exact lines_head.mono _ _ _
      | exact LeO.none _
      | refine LeO.ite ?_ ?_
      | refine LeO.bind ?_ (fun _ => ?_)
set_option maxHeartbeats 8000000 in
set_option maxRecDepth 100000 in
theorem lines_Column.calls (k : Nat) (A0 : Option Addr) (c0 : Nat) (l0 : List Int) (a1 : Int) (r1 : Int) (r2 : Int) (w : World) (hr0 : Kd.C (Kd.int .u8) w A0 l0.length l0) (hc0 : l0.length ≤ c0) (h : lines_Column.f k l0 a1 = some (r1, r2)) :
    Calls Try.prog 35 #[.slice A0 l0.length c0, .int .i64 a1] w fun e w' => e = .returned (.tuple #[.int .i64 r1, .int .i64 r2]) ∧ Drawn0 w w' := by
  have HR0 := Aside0.mk hr0
  have HC0 := Aside0.mk hc0
  clear hr0 hc0
  have H : ((lines_has.f l0 a1).bind fun t132 => (if t132 = true then ((lines_head.f k l0 a1).bind fun t133 => (some (wrap64 (a1 - t133), 0))) else (some (0, 2)))) = some (r1, r2) := h
  clear h
  replace H := Option.bind_eq_some_iff.mp H
  obtain ⟨t132, A30, H⟩ := H
  replace H : (if t132 = true then ((lines_head.f k l0 a1).bind fun t133 => (some (wrap64 (a1 - t133), 0))) else (some (0, 2))) = some (r1, r2) := H
  have A3 := Aside0.mk A30
  clear A30
  by_cases c4 : t132 = true
  · subst c4
    have H1 : ((lines_head.f k l0 a1).bind fun t133 => (some (wrap64 (a1 - t133), 0))) = some (r1, r2) := by rw [if_pos rfl] at H; exact H
    clear H
    have H := H1
    clear H1
    replace H := Option.bind_eq_some_iff.mp H
    obtain ⟨t133, A50, H⟩ := H
    replace H : (some (wrap64 (a1 - t133), 0)) = some (r1, r2) := H
    have A5 := Aside0.mk A50
    clear A50
    simp only [Option.some.injEq, Prod.mk.injEq] at H
    obtain ⟨rfl, rfl⟩ := H
    go_enter Try.func35, Try.ntmps35
    go_wp2_with (first | ((with_reducible refine gate_callee (f := 31) rfl ?_); refine goesL_ (some 8) rfl rfl Try.func31 (by kernel_rfl) rfl #[.slice A0 l0.length c0, .int .i64 a1] rfl (by (try simp only [List.map_toArray, List.map_cons, List.map_nil]); first | done | rfl | (simp only [List.length_drop, List.length_take]; rfl)) ?_; (with_reducible refine (lines_has.calls _ _ l0 a1 true _ ?side1 ?side2 A3.out).mono ?_); (case side1 => repeat (first | exact HR0.out | (with_reducible refine Kd.C_alloc ?_ _) | (with_reducible refine Kd.C_drewN ?_ _) | (with_reducible refine Kd.C_drew ?_))); (case side2 => exact HC0.out); rintro e w' ⟨rfl, ⟨nd, rfl⟩⟩; refine ⟨_, rfl, ?_⟩) | ((with_reducible refine gate_callee (f := 34) rfl ?_); refine goesL_ (some 13) rfl rfl Try.func34 (by kernel_rfl) rfl #[.slice A0 l0.length c0, .int .i64 a1] rfl (by (try simp only [List.map_toArray, List.map_cons, List.map_nil]); first | done | rfl | (simp only [List.length_drop, List.length_take]; rfl)) ?_; (with_reducible refine (lines_head.calls k _ _ l0 a1 t133 _ ?side1 ?side2 A5.out).mono ?_); (case side1 => repeat (first | exact HR0.out | (with_reducible refine Kd.C_alloc ?_ _) | (with_reducible refine Kd.C_drewN ?_ _) | (with_reducible refine Kd.C_drew ?_))); (case side2 => exact HC0.out); rintro e w' ⟨rfl, ⟨nd, rfl⟩⟩; refine ⟨_, rfl, ?_⟩))
    go_ret2
    exact ⟨by first | rfl | (simp; done) | (simp [*]; done), by repeat (first | exact Drawn0.refl _ | apply Drawn0.step)⟩
  · replace c4 := Bool.eq_false_iff.mpr c4
    subst c4
    have H1 : (some (0, 2)) = some (r1, r2) := by rw [if_neg (show ¬ (false = true) by decide)] at H; exact H
    clear H
    have H := H1
    clear H1
    simp only [Option.some.injEq, Prod.mk.injEq] at H
    obtain ⟨rfl, rfl⟩ := H
    go_enter Try.func35, Try.ntmps35
    go_wp2_with (first | ((with_reducible refine gate_callee (f := 31) rfl ?_); refine goesL_ (some 8) rfl rfl Try.func31 (by kernel_rfl) rfl #[.slice A0 l0.length c0, .int .i64 a1] rfl (by (try simp only [List.map_toArray, List.map_cons, List.map_nil]); first | done | rfl | (simp only [List.length_drop, List.length_take]; rfl)) ?_; (with_reducible refine (lines_has.calls _ _ l0 a1 false _ ?side1 ?side2 A3.out).mono ?_); (case side1 => repeat (first | exact HR0.out | (with_reducible refine Kd.C_alloc ?_ _) | (with_reducible refine Kd.C_drewN ?_ _) | (with_reducible refine Kd.C_drew ?_))); (case side2 => exact HC0.out); rintro e w' ⟨rfl, ⟨nd, rfl⟩⟩; refine ⟨_, rfl, ?_⟩))
    go_ret2
    exact ⟨by first | rfl | (simp; done) | (simp [*]; done), by repeat (first | exact Drawn0.refl _ | apply Drawn0.step)⟩

end Go.Proofs.Ytofkcdnkbjpmmaa.X
end
section
-- Written by wip/xprint.py over the kit's print.py: the Lean function of each Go function, and the proof that the Go text comes to it.
namespace Go.Proofs.Ytofkcdnkbjpmmaa.X
open Go.RowKit Go.Proofs.YtofkcdnkbjpmmaaW.PrintWords Go.Proofs.YtofkcdnkbjpmmaaW.PrintLast Go.Proofs.YtofkcdnkbjpmmaaW.PrintMore
attribute [local go_sem] max2_int min2_int max_two min_two max_three min_three max_four min_four   -- for this text's walks alone
set_option linter.unusedVariables false
set_option linter.unusedSimpArgs false

/-! ### lines_At: function 15 -/
def lines_At.j0 : Nat → List Int → Int → Int → Bool → Option (Int × Int)
  | 0, _, _, _, _ => none
  | k + 1, x0, x2, x8, x22 => if x22 = true then (some (0, 2)) else ((lines_tail.f x0 x8).bind fun t120 => (if x2 = (-1) then (some (mx x8 (wrap64 (t120 - 1)), 0)) else (if x2 > (wrap64 ((mx x8 (wrap64 (t120 - 1))) - x8)) then (some (mx x8 (wrap64 (t120 - 1)), 0)) else (some (wrap64 (x8 + x2), 0)))))
def lines_At.f (k : Nat) (l0 : List Int) (a1 : Int) (a2 : Int) : Option (Int × Int) := (lines_Start.f k l0 a1).bind fun bt118 => (if bt118.2 = 0 then (lines_At.j0 k l0 a2 bt118.1 (decide (a2 < (-1)))) else (lines_At.j0 k l0 a2 bt118.1 true))
theorem lines_At.mono_l : ∀ k, (∀ y0 y1 y2 y3, LeO (lines_At.j0 k y0 y1 y2 y3) (lines_At.j0 (k + 1) y0 y1 y2 y3))
  | 0 => fun _ _ _ _ r h => by simp [lines_At.j0] at h
  | k + 1 => by
    have ih0 := lines_At.mono_l k
    · intro y0 y1 y2 y3
      unfold lines_At.j0
      repeat' first
      | (with_reducible exact ih0 _ _ _ _)
      | (with_reducible exact lines_Start.mono _ _ _)
      | (with_reducible exact LeO.refl _)
      | (with_reducible exact LeO.none _)
      | (with_reducible refine LeO.ite ?_ ?_)
      | (with_reducible refine LeO.bind ?_ (fun _ => ?_))
      | exact ih0 _ _ _ _
      | exact lines_Start.mono _ _ _
      | exact LeO.none _
      | refine LeO.ite ?_ ?_
      | refine LeO.bind ?_ (fun _ => ?_)
theorem lines_At.mono : ∀ a0 a1 a2 k, LeO (lines_At.f k a0 a1 a2) (lines_At.f (k + 1) a0 a1 a2) := by
  intro a0 a1 a2 k
  have ih0 := lines_At.mono_l k
  unfold lines_At.f
  repeat' first
      | (with_reducible exact ih0 _ _ _ _)
      | (with_reducible exact lines_Start.mono _ _ _)
      | (with_reducible exact LeO.refl _)
      | (with_reducible exact LeO.none _)
      | (with_reducible refine LeO.ite ?_ ?_)
      | (with_reducible refine LeO.bind ?_ (fun _ => ?_))
      | exact ih0 _ _ _ _
      | exact lines_Start.mono _ _ _
      | exact LeO.none _
      | refine LeO.ite ?_ ?_
      | refine LeO.bind ?_ (fun _ => ?_)
set_option maxHeartbeats 8000000 in
set_option maxRecDepth 100000 in
theorem lines_At.calls (k : Nat) (A0 : Option Addr) (c0 : Nat) (l0 : List Int) (a1 : Int) (a2 : Int) (r1 : Int) (r2 : Int) (w : World) (hr0 : Kd.C (Kd.int .u8) w A0 l0.length l0) (hc0 : l0.length ≤ c0) (h : lines_At.f k l0 a1 a2 = some (r1, r2)) :
    Calls Try.prog 15 #[.slice A0 l0.length c0, .int .i64 a1, .int .i64 a2] w fun e w' => e = .returned (.tuple #[.int .i64 r1, .int .i64 r2]) ∧ Below w.heap.size w w' := by
  have HR0 := Aside0.mk hr0
  have HC0 := Aside0.mk hc0
  clear hr0 hc0
  have HB := Aside0.mk (Below.refl w.heap.size w)
  have H : ((lines_Start.f k l0 a1).bind fun bt118 => (if bt118.2 = 0 then (lines_At.j0 k l0 a2 bt118.1 (decide (a2 < (-1)))) else (lines_At.j0 k l0 a2 bt118.1 true))) = some (r1, r2) := h
  clear h
  replace H := Option.bind_eq_some_iff.mp H
  obtain ⟨⟨t118, t119⟩, A40, H⟩ := H
  replace H : (if t119 = 0 then (lines_At.j0 k l0 a2 t118 (decide (a2 < (-1)))) else (lines_At.j0 k l0 a2 t118 true)) = some (r1, r2) := H
  have A4 := Aside0.mk A40
  clear A40
  have HC5 := Aside0.mk H
  clear H
  go_enter Try.func15, Try.ntmps15
  go_upto_region 2 with (first | ((with_reducible refine gate_callee (f := 28) rfl ?_); refine goesL_ (some 14) rfl rfl Try.func28 (by kernel_rfl) rfl #[.slice A0 l0.length c0, .int .i64 a1] rfl (by (try simp only [List.map_toArray, List.map_cons, List.map_nil]); first | done | rfl | (simp only [List.length_drop, List.length_take]; rfl)) ?_; (with_reducible refine (lines_Start.calls k _ _ l0 a1 t118 t119 _ ?side1 ?side2 A4.out).mono ?_); (case side1 => repeat (first | exact HR0.out | (with_reducible refine Kd.C_alloc ?_ _) | (with_reducible refine Kd.C_drewN ?_ _) | (with_reducible refine Kd.C_drew ?_))); (case side2 => exact HC0.out); rintro e w' ⟨rfl, ⟨nd, rfl⟩⟩; refine ⟨_, rfl, ?_⟩))
  (try simp only [Act.put, List.setIfInBounds_toArray, List.set_cons_zero, List.set_cons_succ])
  go_cut [22] (fun v22 wc => ∃ (kq : Nat) (x22_4 : Bool), v22 = .bool x22_4 ∧ Aside0 (lines_At.j0 kq l0 a2 t118 x22_4 = some (r1, r2)) ∧ Aside0 (kq ≤ k) ∧ Aside0 (Below w.heap.size w wc))
  case first =>
    have H := HC5.out
    clear HC5
    by_cases c6 : t119 = 0
    · rw [if_pos c6] at H
      have c6b0 : (t119 == 0) = true := beq_iff_eq.mpr c6
      have c6b1 : (t119 != 0) = false := bne_eq_false_iff_eq.mpr c6
      clear c6
      (first | rw [c6b0] | (simp only [i64_w, i32_w]; rw [c6b0]) | skip)
      have H' := Aside0.mk H
      clear H
      go_wp2
      go_meet
      case rel => exact ⟨_, (decide (a2 < (-1))), (by first | rfl | (simp; done) | (simp [*]; done)), H', ⟨by first | omega | exact Nat.le_refl _⟩, ⟨by repeat (first | (with_reducible first | exact HB.out | apply below_alloc | apply pw_below_drewN | apply below_drew1) | exact HB.out)⟩⟩
    · rw [if_neg c6] at H
      have c6b0 : (t119 == 0) = false := beq_eq_false_iff_ne.mpr c6
      have c6b1 : (t119 != 0) = true := bne_iff_ne.mpr c6
      (first | rw [c6b0] | (simp only [i64_w, i32_w]; rw [c6b0]) | skip)
      have H' := Aside0.mk H
      clear H
      go_wp2
      go_meet
      case rel => exact ⟨_, (true), (by first | rfl | (simp; done) | (simp [*]; done)), H', ⟨by first | omega | exact Nat.le_refl _⟩, ⟨by repeat (first | (with_reducible first | exact HB.out | apply below_alloc | apply pw_below_drewN | apply below_drew1) | exact HB.out)⟩⟩
  case rest =>
    clear HC5
    try clear c1
    try clear c2
    try clear p2
    try clear c6
    try clear c6b0
    try clear c6b1
    obtain ⟨kq, x22_4, rfl, HA, HJ4, HB⟩ := hcut
    cases kq with
    | zero => exact absurd HA.out (by simp [lines_At.j0])
    | succ kj4 =>
      have H := HA.out
      clear HA
      simp only [lines_At.j0] at H
      by_cases c7 : x22_4 = true
      · subst c7
        have H1 : (some (0, 2)) = some (r1, r2) := by rw [if_pos rfl] at H; exact H
        clear H
        have H := H1
        clear H1
        simp only [Option.some.injEq, Prod.mk.injEq] at H
        obtain ⟨rfl, rfl⟩ := H
        go_wp2
        go_ret2
        exact ⟨by first | rfl | (simp [errW_none, errW_some] <;> rfl) | (simp [*, errW_none, errW_some] <;> rfl), by repeat (first | (with_reducible first | exact HB.out | apply below_alloc | apply pw_below_drewN | apply below_drew1) | exact HB.out)⟩
      · replace c7 := Bool.eq_false_iff.mpr c7
        subst c7
        have H1 : ((lines_tail.f l0 t118).bind fun t120 => (if a2 = (-1) then (some (mx t118 (wrap64 (t120 - 1)), 0)) else (if a2 > (wrap64 ((mx t118 (wrap64 (t120 - 1))) - t118)) then (some (mx t118 (wrap64 (t120 - 1)), 0)) else (some (wrap64 (t118 + a2), 0))))) = some (r1, r2) := by rw [if_neg (show ¬ (false = true) by decide)] at H; exact H
        clear H
        have H := H1
        clear H1
        replace H := Option.bind_eq_some_iff.mp H
        obtain ⟨t120, A80, H⟩ := H
        replace H : (if a2 = (-1) then (some (mx t118 (wrap64 (t120 - 1)), 0)) else (if a2 > (wrap64 ((mx t118 (wrap64 (t120 - 1))) - t118)) then (some (mx t118 (wrap64 (t120 - 1)), 0)) else (some (wrap64 (t118 + a2), 0)))) = some (r1, r2) := H
        have A8 := Aside0.mk A80
        clear A80
        obtain ⟨ji9, hji9⟩ : ∃ j_ : Int, (mx t118 (wrap64 (t120 - 1))) = j_ := ⟨_, rfl⟩
        replace H : (if a2 = (-1) then (some (ji9, 0)) else (if a2 > (wrap64 ((ji9) - t118)) then (some (ji9, 0)) else (some (wrap64 (t118 + a2), 0)))) = some (r1, r2) := by first | (rw [hji9] at H; exact H) | (simp only [hji9] at H ⊢; exact H)
        (try rw [hji9] at A8)
        have hji9_ : (if t118 < (wrap64 (t120 - 1)) then (wrap64 (t120 - 1)) else t118) = ji9 := hji9
        by_cases c10 : a2 = (-1)
        · rw [if_pos c10] at H
          have c10b0 : (a2 == (-1)) = true := beq_iff_eq.mpr c10
          have c10b1 : (a2 != (-1)) = false := bne_eq_false_iff_eq.mpr c10
          clear c10
          simp only [Option.some.injEq, Prod.mk.injEq] at H
          obtain ⟨rfl, rfl⟩ := H
          go_wp2_with (first | ((with_reducible refine gate_callee (f := 33) rfl ?_); refine goesL_ (some 26) rfl rfl Try.func33 (by kernel_rfl) rfl #[.slice A0 l0.length c0, .int .i64 t118] rfl (by (try simp only [List.map_toArray, List.map_cons, List.map_nil]); first | done | rfl | (simp only [List.length_drop, List.length_take]; rfl)) ?_; (with_reducible refine (lines_tail.calls _ _ l0 t118 t120 _ ?side1 ?side2 A8.out).mono ?_); (case side1 => repeat (first | exact (Kd.C_below HR0.out HB.out) | (with_reducible refine Kd.C_alloc ?_ _) | (with_reducible refine Kd.C_drewN ?_ _) | (with_reducible refine Kd.C_drew ?_))); (case side2 => exact HC0.out); rintro e w' ⟨rfl, ⟨nd, rfl⟩⟩; refine ⟨_, rfl, ?_⟩))
          go_ret2
          exact ⟨by first | rfl | (simp [errW_none, errW_some] <;> rfl) | (simp only [← hji9]; first | rfl | (simp [errW_none, errW_some] <;> rfl)) | (simp [*, errW_none, errW_some] <;> rfl), by repeat (first | (with_reducible first | exact HB.out | apply below_alloc | apply pw_below_drewN | apply below_drew1) | exact HB.out)⟩
        · rw [if_neg c10] at H
          have c10b0 : (a2 == (-1)) = false := beq_eq_false_iff_ne.mpr c10
          have c10b1 : (a2 != (-1)) = true := bne_iff_ne.mpr c10
          by_cases c11 : a2 > (wrap64 ((ji9) - t118))
          · rw [if_pos c11] at H
            have c11b0 : decide ((wrap64 ((ji9) - t118)) < a2) = true := decide_eq_true c11
            clear c11
            simp only [Option.some.injEq, Prod.mk.injEq] at H
            obtain ⟨rfl, rfl⟩ := H
            go_wp2_with (first | ((with_reducible refine gate_callee (f := 33) rfl ?_); refine goesL_ (some 26) rfl rfl Try.func33 (by kernel_rfl) rfl #[.slice A0 l0.length c0, .int .i64 t118] rfl (by (try simp only [List.map_toArray, List.map_cons, List.map_nil]); first | done | rfl | (simp only [List.length_drop, List.length_take]; rfl)) ?_; (with_reducible refine (lines_tail.calls _ _ l0 t118 t120 _ ?side1 ?side2 A8.out).mono ?_); (case side1 => repeat (first | exact (Kd.C_below HR0.out HB.out) | (with_reducible refine Kd.C_alloc ?_ _) | (with_reducible refine Kd.C_drewN ?_ _) | (with_reducible refine Kd.C_drew ?_))); (case side2 => exact HC0.out); rintro e w' ⟨rfl, ⟨nd, rfl⟩⟩; refine ⟨_, rfl, ?_⟩))
            go_ret2
            exact ⟨by first | rfl | (simp [errW_none, errW_some] <;> rfl) | (simp only [← hji9]; first | rfl | (simp [errW_none, errW_some] <;> rfl)) | (simp [*, errW_none, errW_some] <;> rfl), by repeat (first | (with_reducible first | exact HB.out | apply below_alloc | apply pw_below_drewN | apply below_drew1) | exact HB.out)⟩
          · rw [if_neg c11] at H
            have c11b0 : decide ((wrap64 ((ji9) - t118)) < a2) = false := decide_eq_false c11
            clear c11
            simp only [Option.some.injEq, Prod.mk.injEq] at H
            obtain ⟨rfl, rfl⟩ := H
            go_wp2_with (first | ((with_reducible refine gate_callee (f := 33) rfl ?_); refine goesL_ (some 26) rfl rfl Try.func33 (by kernel_rfl) rfl #[.slice A0 l0.length c0, .int .i64 t118] rfl (by (try simp only [List.map_toArray, List.map_cons, List.map_nil]); first | done | rfl | (simp only [List.length_drop, List.length_take]; rfl)) ?_; (with_reducible refine (lines_tail.calls _ _ l0 t118 t120 _ ?side1 ?side2 A8.out).mono ?_); (case side1 => repeat (first | exact (Kd.C_below HR0.out HB.out) | (with_reducible refine Kd.C_alloc ?_ _) | (with_reducible refine Kd.C_drewN ?_ _) | (with_reducible refine Kd.C_drew ?_))); (case side2 => exact HC0.out); rintro e w' ⟨rfl, ⟨nd, rfl⟩⟩; refine ⟨_, rfl, ?_⟩))
            go_ret2
            exact ⟨by first | rfl | (simp [errW_none, errW_some] <;> rfl) | (simp only [← hji9]; first | rfl | (simp [errW_none, errW_some] <;> rfl)) | (simp [*, errW_none, errW_some] <;> rfl), by repeat (first | (with_reducible first | exact HB.out | apply below_alloc | apply pw_below_drewN | apply below_drew1) | exact HB.out)⟩

end Go.Proofs.Ytofkcdnkbjpmmaa.X
end
section
-- Written by wip/xprint.py over the kit's print.py: the Lean function of each Go function, and the proof that the Go text comes to it.
namespace Go.Proofs.Ytofkcdnkbjpmmaa.X
open Go.RowKit Go.Proofs.YtofkcdnkbjpmmaaW.PrintWords Go.Proofs.YtofkcdnkbjpmmaaW.PrintLast Go.Proofs.YtofkcdnkbjpmmaaW.PrintMore
attribute [local go_sem] max2_int min2_int max_two min_two max_three min_three max_four min_four   -- for this text's walks alone
set_option linter.unusedVariables false
set_option linter.unusedSimpArgs false

/-! ### lines_Rest: function 17 -/
def lines_Rest.f (k : Nat) (l0 : List Int) (a1 : Int) : Option (Int) := (lines_head.f k l0 (mn (mx a1 0) (l0.length : Int))).bind fun t481 => (if (mn (mx a1 0) (l0.length : Int)) > t481 then ((lines_tail.f l0 (mn (mx a1 0) (l0.length : Int))).bind fun t482 => (if (mn (mx a1 0) (l0.length : Int)) = t482 then (some (wrap64 ((mn (mx a1 0) (l0.length : Int)) - 1))) else (some (mn (mx a1 0) (l0.length : Int))))) else (some (mn (mx a1 0) (l0.length : Int))))
theorem lines_Rest.mono : ∀ a0 a1 k, LeO (lines_Rest.f k a0 a1) (lines_Rest.f (k + 1) a0 a1) := by
  intro a0 a1 k
  unfold lines_Rest.f
  repeat' first
      | (with_reducible exact lines_head.mono _ _ _)
      | (with_reducible exact LeO.refl _)
      | (with_reducible exact LeO.none _)
      | (with_reducible refine LeO.ite ?_ ?_)
      | (with_reducible refine LeO.bind ?_ (fun _ => ?_))
      | exact lines_head.mono _ _ _
      | exact LeO.none _
      | refine LeO.ite ?_ ?_
      | refine LeO.bind ?_ (fun _ => ?_)
set_option maxHeartbeats 8000000 in
set_option maxRecDepth 100000 in
theorem lines_Rest.calls (k : Nat) (A0 : Option Addr) (c0 : Nat) (l0 : List Int) (a1 : Int) (r : Int) (w : World) (hr0 : Kd.C (Kd.int .u8) w A0 l0.length l0) (hc0 : l0.length ≤ c0) (h : lines_Rest.f k l0 a1 = some r) :
    Calls Try.prog 17 #[.slice A0 l0.length c0, .int .i64 a1] w fun e w' => e = .returned (.int .i64 r) ∧ Below w.heap.size w w' := by
  have HR0 := Aside0.mk hr0
  have HC0 := Aside0.mk hc0
  clear hr0 hc0
  have HB := Aside0.mk (Below.refl w.heap.size w)
  have H : ((lines_head.f k l0 (mn (mx a1 0) (l0.length : Int))).bind fun t481 => (if (mn (mx a1 0) (l0.length : Int)) > t481 then ((lines_tail.f l0 (mn (mx a1 0) (l0.length : Int))).bind fun t482 => (if (mn (mx a1 0) (l0.length : Int)) = t482 then (some (wrap64 ((mn (mx a1 0) (l0.length : Int)) - 1))) else (some (mn (mx a1 0) (l0.length : Int))))) else (some (mn (mx a1 0) (l0.length : Int))))) = some r := h
  clear h
  obtain ⟨ji3, hji3⟩ : ∃ j_ : Int, (mx a1 0) = j_ := ⟨_, rfl⟩
  replace H : ((lines_head.f k l0 (mn (ji3) (l0.length : Int))).bind fun t481 => (if (mn (ji3) (l0.length : Int)) > t481 then ((lines_tail.f l0 (mn (ji3) (l0.length : Int))).bind fun t482 => (if (mn (ji3) (l0.length : Int)) = t482 then (some (wrap64 ((mn (ji3) (l0.length : Int)) - 1))) else (some (mn (ji3) (l0.length : Int))))) else (some (mn (ji3) (l0.length : Int))))) = some r := by first | (rw [hji3] at H; exact H) | (simp only [hji3] at H ⊢; exact H)
  (try (have hji3l : 0 ≤ ji3 := by (rw [← hji3]; unfold mx; (repeat' split) <;> omega)))
  (try (have hji3m : 0 ≤ ji3 := by omega))
  have hji3_ : (if a1 < 0 then 0 else a1) = ji3 := hji3
  obtain ⟨ji4, hji4⟩ : ∃ j_ : Int, (mn (ji3) (l0.length : Int)) = j_ := ⟨_, rfl⟩
  replace H : ((lines_head.f k l0 (ji4)).bind fun t481 => (if (ji4) > t481 then ((lines_tail.f l0 (ji4)).bind fun t482 => (if (ji4) = t482 then (some (wrap64 ((ji4) - 1))) else (some ji4))) else (some ji4))) = some r := by first | (rw [hji4] at H; exact H) | (simp only [hji4] at H ⊢; exact H)
  have hji4_ : (if (l0.length : Int) < (ji3) then (l0.length : Int) else (ji3)) = ji4 := hji4
  replace H := Option.bind_eq_some_iff.mp H
  obtain ⟨t481, A50, H⟩ := H
  replace H : (if (ji4) > t481 then ((lines_tail.f l0 (ji4)).bind fun t482 => (if (ji4) = t482 then (some (wrap64 ((ji4) - 1))) else (some ji4))) else (some ji4)) = some r := H
  have A5 := Aside0.mk A50
  clear A50
  by_cases c6 : (ji4) > t481
  · rw [if_pos c6] at H
    have c6b0 : decide (t481 < (ji4)) = true := decide_eq_true c6
    clear c6
    replace H := Option.bind_eq_some_iff.mp H
    obtain ⟨t482, A70, H⟩ := H
    replace H : (if (ji4) = t482 then (some (wrap64 ((ji4) - 1))) else (some ji4)) = some r := H
    have A7 := Aside0.mk A70
    clear A70
    by_cases c8 : (ji4) = t482
    · rw [if_pos c8] at H
      have c8b0 : ((ji4) == t482) = true := beq_iff_eq.mpr c8
      have c8b1 : ((ji4) != t482) = false := bne_eq_false_iff_eq.mpr c8
      clear c8
      obtain rfl := Option.some.inj H
      go_enter Try.func17, Try.ntmps17
      go_wp2_with (first | ((with_reducible refine gate_callee (f := 34) rfl ?_); refine goesL_ (some 13) rfl rfl Try.func34 (by kernel_rfl) rfl #[.slice A0 l0.length c0, .int .i64 ji4] rfl (by (try simp only [List.map_toArray, List.map_cons, List.map_nil]); first | done | (simp only [hji4]; rfl) | rfl | (simp only [List.length_drop, List.length_take]; rfl)) ?_; (with_reducible refine (lines_head.calls k _ _ l0 ji4 t481 _ ?side1 ?side2 A5.out).mono ?_); (case side1 => repeat (first | exact HR0.out | (with_reducible refine Kd.C_alloc ?_ _) | (with_reducible refine Kd.C_drewN ?_ _) | (with_reducible refine Kd.C_drew ?_))); (case side2 => exact HC0.out); rintro e w' ⟨rfl, ⟨nd, rfl⟩⟩; refine ⟨_, rfl, ?_⟩) | (go_at_call 33; (with_reducible refine (lines_tail.calls _ _ l0 ji4 t482 _ ?side1 ?side2 A7.out).mono ?_); (case side1 => repeat (first | exact HR0.out | (with_reducible refine Kd.C_alloc ?_ _) | (with_reducible refine Kd.C_drewN ?_ _) | (with_reducible refine Kd.C_drew ?_))); (case side2 => exact HC0.out); rintro e w' ⟨rfl, ⟨nd, rfl⟩⟩))
      go_ret
      exact ⟨by first | rfl | (simp [errW_none, errW_some] <;> rfl) | (simp only [← hji3, ← hji4]; first | rfl | (simp [errW_none, errW_some] <;> rfl)) | (simp [*, errW_none, errW_some] <;> rfl), by repeat (first | (with_reducible first | exact HB.out | apply below_alloc | apply pw_below_drewN | apply below_drew1) | exact HB.out)⟩
    · rw [if_neg c8] at H
      have c8b0 : ((ji4) == t482) = false := beq_eq_false_iff_ne.mpr c8
      have c8b1 : ((ji4) != t482) = true := bne_iff_ne.mpr c8
      obtain rfl := Option.some.inj H
      go_enter Try.func17, Try.ntmps17
      go_wp2_with (first | ((with_reducible refine gate_callee (f := 34) rfl ?_); refine goesL_ (some 13) rfl rfl Try.func34 (by kernel_rfl) rfl #[.slice A0 l0.length c0, .int .i64 ji4] rfl (by (try simp only [List.map_toArray, List.map_cons, List.map_nil]); first | done | (simp only [hji4]; rfl) | rfl | (simp only [List.length_drop, List.length_take]; rfl)) ?_; (with_reducible refine (lines_head.calls k _ _ l0 ji4 t481 _ ?side1 ?side2 A5.out).mono ?_); (case side1 => repeat (first | exact HR0.out | (with_reducible refine Kd.C_alloc ?_ _) | (with_reducible refine Kd.C_drewN ?_ _) | (with_reducible refine Kd.C_drew ?_))); (case side2 => exact HC0.out); rintro e w' ⟨rfl, ⟨nd, rfl⟩⟩; refine ⟨_, rfl, ?_⟩) | (go_at_call 33; (with_reducible refine (lines_tail.calls _ _ l0 ji4 t482 _ ?side1 ?side2 A7.out).mono ?_); (case side1 => repeat (first | exact HR0.out | (with_reducible refine Kd.C_alloc ?_ _) | (with_reducible refine Kd.C_drewN ?_ _) | (with_reducible refine Kd.C_drew ?_))); (case side2 => exact HC0.out); rintro e w' ⟨rfl, ⟨nd, rfl⟩⟩))
      go_ret
      exact ⟨by first | rfl | (simp [errW_none, errW_some] <;> rfl) | (simp only [← hji3, ← hji4]; first | rfl | (simp [errW_none, errW_some] <;> rfl)) | (simp [*, errW_none, errW_some] <;> rfl), by repeat (first | (with_reducible first | exact HB.out | apply below_alloc | apply pw_below_drewN | apply below_drew1) | exact HB.out)⟩
  · rw [if_neg c6] at H
    have c6b0 : decide (t481 < (ji4)) = false := decide_eq_false c6
    clear c6
    obtain rfl := Option.some.inj H
    go_enter Try.func17, Try.ntmps17
    go_wp2_with (first | ((with_reducible refine gate_callee (f := 34) rfl ?_); refine goesL_ (some 13) rfl rfl Try.func34 (by kernel_rfl) rfl #[.slice A0 l0.length c0, .int .i64 ji4] rfl (by (try simp only [List.map_toArray, List.map_cons, List.map_nil]); first | done | (simp only [hji4]; rfl) | rfl | (simp only [List.length_drop, List.length_take]; rfl)) ?_; (with_reducible refine (lines_head.calls k _ _ l0 ji4 t481 _ ?side1 ?side2 A5.out).mono ?_); (case side1 => repeat (first | exact HR0.out | (with_reducible refine Kd.C_alloc ?_ _) | (with_reducible refine Kd.C_drewN ?_ _) | (with_reducible refine Kd.C_drew ?_))); (case side2 => exact HC0.out); rintro e w' ⟨rfl, ⟨nd, rfl⟩⟩; refine ⟨_, rfl, ?_⟩))
    go_ret
    exact ⟨by first | rfl | (simp [errW_none, errW_some] <;> rfl) | (simp only [← hji3, ← hji4]; first | rfl | (simp [errW_none, errW_some] <;> rfl)) | (simp [*, errW_none, errW_some] <;> rfl), by repeat (first | (with_reducible first | exact HB.out | apply below_alloc | apply pw_below_drewN | apply below_drew1) | exact HB.out)⟩

end Go.Proofs.Ytofkcdnkbjpmmaa.X
end
section
-- Written by wip/xprint.py over the kit's print.py: the Lean function of each Go function, and the proof that the Go text comes to it.
namespace Go.Proofs.Ytofkcdnkbjpmmaa.X
open Go.RowKit Go.Proofs.YtofkcdnkbjpmmaaW.PrintWords Go.Proofs.YtofkcdnkbjpmmaaW.PrintLast Go.Proofs.YtofkcdnkbjpmmaaW.PrintMore
attribute [local go_sem] max2_int min2_int max_two min_two max_three min_three max_four min_four   -- for this text's walks alone
set_option linter.unusedVariables false
set_option linter.unusedSimpArgs false

/-! ### lines_First: function 16 -/
def lines_First.l0 : Nat → List Int → Int → Int → Int → Option (Int × Int)
  | 0, _, _, _, _ => none
  | k + 1, x0, x6, x8, x9 => if x9 < x8 then (if 0 ≤ x9 then (if x9 < (x0.length : Int) then (if (rd x0 x9) = 32 then (lines_First.l0 k x0 x6 x8 (wrap64 (x9 + 1))) else (if (rd x0 x9) = 9 then (lines_First.l0 k x0 x6 x8 (wrap64 (x9 + 1))) else (some (x9, 0)))) else (none)) else (none)) else (some (mx x6 (wrap64 (x8 - 1)), 0))
def lines_First.f (k : Nat) (l0 : List Int) (a1 : Int) : Option (Int × Int) := (lines_Start.f k l0 a1).bind fun bt121 => (if bt121.2 = 0 then ((lines_tail.f l0 bt121.1).bind fun t123 => (lines_First.l0 k l0 bt121.1 t123 bt121.1)) else (some (0, bt121.2)))
theorem lines_First.mono_l : ∀ k, (∀ y0 y1 y2 y3, LeO (lines_First.l0 k y0 y1 y2 y3) (lines_First.l0 (k + 1) y0 y1 y2 y3))
  | 0 => fun _ _ _ _ r h => by simp [lines_First.l0] at h
  | k + 1 => by
    have ih0 := lines_First.mono_l k
    · intro y0 y1 y2 y3
      unfold lines_First.l0
      repeat' first
      | (with_reducible exact ih0 _ _ _ _)
      | (with_reducible exact lines_Start.mono _ _ _)
      | (with_reducible exact LeO.refl _)
      | (with_reducible exact LeO.none _)
      | (with_reducible refine LeO.ite ?_ ?_)
      | (with_reducible refine LeO.bind ?_ (fun _ => ?_))
      | exact ih0 _ _ _ _
      | exact lines_Start.mono _ _ _
      | exact LeO.none _
      | refine LeO.ite ?_ ?_
      | refine LeO.bind ?_ (fun _ => ?_)
theorem lines_First.mono : ∀ a0 a1 k, LeO (lines_First.f k a0 a1) (lines_First.f (k + 1) a0 a1) := by
  intro a0 a1 k
  have ih0 := lines_First.mono_l k
  unfold lines_First.f
  repeat' first
      | (with_reducible exact ih0 _ _ _ _)
      | (with_reducible exact lines_Start.mono _ _ _)
      | (with_reducible exact LeO.refl _)
      | (with_reducible exact LeO.none _)
      | (with_reducible refine LeO.ite ?_ ?_)
      | (with_reducible refine LeO.bind ?_ (fun _ => ?_))
      | exact ih0 _ _ _ _
      | exact lines_Start.mono _ _ _
      | exact LeO.none _
      | refine LeO.ite ?_ ?_
      | refine LeO.bind ?_ (fun _ => ?_)
set_option maxHeartbeats 8000000 in
set_option maxRecDepth 100000 in
theorem lines_First.calls (k : Nat) (A0 : Option Addr) (c0 : Nat) (l0 : List Int) (a1 : Int) (r1 : Int) (r2 : Int) (w : World) (hr0 : Kd.C (Kd.int .u8) w A0 l0.length l0) (hc0 : l0.length ≤ c0) (h : lines_First.f k l0 a1 = some (r1, r2)) :
    Calls Try.prog 16 #[.slice A0 l0.length c0, .int .i64 a1] w fun e w' => e = .returned (.tuple #[.int .i64 r1, .int .i64 r2]) ∧ Below w.heap.size w w' := by
  have HR0 := Aside0.mk hr0
  have HC0 := Aside0.mk hc0
  clear hr0 hc0
  have HB := Aside0.mk (Below.refl w.heap.size w)
  have H : ((lines_Start.f k l0 a1).bind fun bt121 => (if bt121.2 = 0 then ((lines_tail.f l0 bt121.1).bind fun t123 => (lines_First.l0 k l0 bt121.1 t123 bt121.1)) else (some (0, bt121.2)))) = some (r1, r2) := h
  clear h
  replace H := Option.bind_eq_some_iff.mp H
  obtain ⟨⟨t121, t122⟩, A30, H⟩ := H
  replace H : (if t122 = 0 then ((lines_tail.f l0 t121).bind fun t123 => (lines_First.l0 k l0 t121 t123 t121)) else (some (0, t122))) = some (r1, r2) := H
  have A3 := Aside0.mk A30
  clear A30
  by_cases c4 : t122 = 0
  · rw [if_pos c4] at H
    have c4b0 : (t122 == 0) = true := beq_iff_eq.mpr c4
    have c4b1 : (t122 != 0) = false := bne_eq_false_iff_eq.mpr c4
    clear c4
    replace H := Option.bind_eq_some_iff.mp H
    obtain ⟨t123, A50, H⟩ := H
    replace H : (lines_First.l0 k l0 t121 t123 t121) = some (r1, r2) := H
    have A5 := Aside0.mk A50
    clear A50
    have H' := Aside0.mk H
    clear H
    go_enter Try.func16, Try.ntmps16
    go_wp2_with (first | ((with_reducible refine gate_callee (f := 28) rfl ?_); refine goesL_ (some 13) rfl rfl Try.func28 (by kernel_rfl) rfl #[.slice A0 l0.length c0, .int .i64 a1] rfl (by (try simp only [List.map_toArray, List.map_cons, List.map_nil]); first | done | rfl | (simp only [List.length_drop, List.length_take]; rfl)) ?_; (with_reducible refine (lines_Start.calls k _ _ l0 a1 t121 t122 _ ?side1 ?side2 A3.out).mono ?_); (case side1 => repeat (first | exact HR0.out | (with_reducible refine Kd.C_alloc ?_ _) | (with_reducible refine Kd.C_drewN ?_ _) | (with_reducible refine Kd.C_drew ?_))); (case side2 => exact HC0.out); rintro e w' ⟨rfl, ⟨nd, rfl⟩⟩; refine ⟨_, rfl, ?_⟩) | ((with_reducible refine gate_callee (f := 33) rfl ?_); refine goesL_ (some 21) rfl rfl Try.func33 (by kernel_rfl) rfl #[.slice A0 l0.length c0, .int .i64 t121] rfl (by (try simp only [List.map_toArray, List.map_cons, List.map_nil]); first | done | rfl | (simp only [List.length_drop, List.length_take]; rfl)) ?_; (with_reducible refine (lines_tail.calls _ _ l0 t121 t123 _ ?side1 ?side2 A5.out).mono ?_); (case side1 => repeat (first | exact HR0.out | (with_reducible refine Kd.C_alloc ?_ _) | (with_reducible refine Kd.C_drewN ?_ _) | (with_reducible refine Kd.C_drew ?_))); (case side2 => exact HC0.out); rintro e w' ⟨rfl, ⟨nd, rfl⟩⟩; refine ⟨_, rfl, ?_⟩))
    go_loopg [9] k (fun kq v9 w' => ∃ (x9_1 : Int), v9 = .int .i64 x9_1 ∧ Aside0 (lines_First.l0 kq l0 t121 t123 x9_1 = some (r1, r2)) ∧ Aside0 (kq ≤ k) ∧ Aside0 (Below w.heap.size w w'))
    case atStart => exact ⟨(t121), (by first | rfl | (simp; done) | (simp [*]; done)), H', ⟨Nat.le_refl _⟩, ⟨by repeat (first | (with_reducible first | exact HB.out | apply below_alloc | apply pw_below_drewN | apply below_drew1) | exact HB.out)⟩⟩
    case round =>
      clear H'
      try clear c1
      try clear c2
      try clear p2
      try clear c3
      try clear c4
      try clear c4b0
      try clear c4b1
      obtain ⟨x9_1, rfl, HA, HK1, HB⟩ := hrel
      cases gk with
      | zero => exact absurd HA.out (by simp [lines_First.l0])
      | succ k1 =>
        have H := HA.out
        clear HA
        simp only [lines_First.l0] at H
        by_cases c6 : x9_1 < t123
        · rw [if_pos c6] at H
          have c6b0 : decide (x9_1 < t123) = true := decide_eq_true c6
          clear c6
          by_cases c7 : 0 ≤ x9_1
          · rw [if_pos c7] at H
            have c7b0 : decide (0 ≤ x9_1) = true := decide_eq_true c7
            clear c7
            by_cases c8 : x9_1 < (l0.length : Int)
            · rw [if_pos c8] at H
              have c8b0 : decide (x9_1 < (l0.length : Int)) = true := decide_eq_true c8
              clear c8
              by_cases c9 : (rd l0 x9_1) = 32
              · rw [if_pos c9] at H
                have c9b0 : ((rd l0 x9_1) == 32) = true := beq_iff_eq.mpr c9
                have c9b1 : ((rd l0 x9_1) != 32) = false := bne_eq_false_iff_eq.mpr c9
                clear c9
                have H' := Aside0.mk H
                clear H
                have p124 : 0 ≤ (x9_1 : Int) := of_decide_eq_true (by first | (with_reducible assumption) | assumption)
                have q124 : x9_1 < (l0.length : Int) := of_decide_eq_true (by first | (with_reducible assumption) | assumption)
                obtain ⟨ad124, e124, hx124_0⟩ := Kd.at_int HR0.out x9_1 p124 q124
                cases e124
                replace hx124_0 := (HB.out.cell (World.block_lt_of_cell? w _ hx124_0)).trans hx124_0
                replace p124 := eq_true p124
                replace q124 := eq_true q124
                go_wp2
                go_roundg k1
                case measure => have := HK1.out; omega
                case rel => exact ⟨(wrap64 (x9_1 + 1)), (by first | rfl | (simp; done) | (simp [*]; done)), H', ⟨by have := HK1.out; omega⟩, ⟨by repeat (first | (with_reducible first | exact HB.out | apply below_alloc | apply pw_below_drewN | apply below_drew1) | exact HB.out)⟩⟩
              · rw [if_neg c9] at H
                have c9b0 : ((rd l0 x9_1) == 32) = false := beq_eq_false_iff_ne.mpr c9
                have c9b1 : ((rd l0 x9_1) != 32) = true := bne_iff_ne.mpr c9
                by_cases c10 : (rd l0 x9_1) = 9
                · rw [if_pos c10] at H
                  have c10b0 : ((rd l0 x9_1) == 9) = true := beq_iff_eq.mpr c10
                  have c10b1 : ((rd l0 x9_1) != 9) = false := bne_eq_false_iff_eq.mpr c10
                  clear c10
                  have H' := Aside0.mk H
                  clear H
                  have p124 : 0 ≤ (x9_1 : Int) := of_decide_eq_true (by first | (with_reducible assumption) | assumption)
                  have q124 : x9_1 < (l0.length : Int) := of_decide_eq_true (by first | (with_reducible assumption) | assumption)
                  obtain ⟨ad124, e124, hx124_0⟩ := Kd.at_int HR0.out x9_1 p124 q124
                  cases e124
                  replace hx124_0 := (HB.out.cell (World.block_lt_of_cell? w _ hx124_0)).trans hx124_0
                  replace p124 := eq_true p124
                  replace q124 := eq_true q124
                  have p125 : 0 ≤ (x9_1 : Int) := of_decide_eq_true (by first | (with_reducible assumption) | assumption)
                  have q125 : x9_1 < (l0.length : Int) := of_decide_eq_true (by first | (with_reducible assumption) | assumption)
                  obtain ⟨ad125, e125, hx125_0⟩ := Kd.at_int HR0.out x9_1 p125 q125
                  obtain rfl : ad124 = ad125 := (by injection e125)
                  replace hx125_0 := (HB.out.cell (World.block_lt_of_cell? w _ hx125_0)).trans hx125_0
                  replace p125 := eq_true p125
                  replace q125 := eq_true q125
                  go_wp2
                  go_roundg k1
                  case measure => have := HK1.out; omega
                  case rel => exact ⟨(wrap64 (x9_1 + 1)), (by first | rfl | (simp; done) | (simp [*]; done)), H', ⟨by have := HK1.out; omega⟩, ⟨by repeat (first | (with_reducible first | exact HB.out | apply below_alloc | apply pw_below_drewN | apply below_drew1) | exact HB.out)⟩⟩
                · rw [if_neg c10] at H
                  have c10b0 : ((rd l0 x9_1) == 9) = false := beq_eq_false_iff_ne.mpr c10
                  have c10b1 : ((rd l0 x9_1) != 9) = true := bne_iff_ne.mpr c10
                  simp only [Option.some.injEq, Prod.mk.injEq] at H
                  obtain ⟨rfl, rfl⟩ := H
                  have p124 : 0 ≤ (x9_1 : Int) := of_decide_eq_true (by first | (with_reducible assumption) | assumption)
                  have q124 : x9_1 < (l0.length : Int) := of_decide_eq_true (by first | (with_reducible assumption) | assumption)
                  obtain ⟨ad124, e124, hx124_0⟩ := Kd.at_int HR0.out x9_1 p124 q124
                  cases e124
                  replace hx124_0 := (HB.out.cell (World.block_lt_of_cell? w _ hx124_0)).trans hx124_0
                  replace p124 := eq_true p124
                  replace q124 := eq_true q124
                  have p125 : 0 ≤ (x9_1 : Int) := of_decide_eq_true (by first | (with_reducible assumption) | assumption)
                  have q125 : x9_1 < (l0.length : Int) := of_decide_eq_true (by first | (with_reducible assumption) | assumption)
                  obtain ⟨ad125, e125, hx125_0⟩ := Kd.at_int HR0.out x9_1 p125 q125
                  obtain rfl : ad124 = ad125 := (by injection e125)
                  replace hx125_0 := (HB.out.cell (World.block_lt_of_cell? w _ hx125_0)).trans hx125_0
                  replace p125 := eq_true p125
                  replace q125 := eq_true q125
                  go_wp2
                  go_ret2
                  exact ⟨by first | rfl | (simp [errW_none, errW_some] <;> rfl) | (simp [*, errW_none, errW_some] <;> rfl), by repeat (first | (with_reducible first | exact HB.out | apply below_alloc | apply pw_below_drewN | apply below_drew1) | exact HB.out)⟩
            · rw [if_neg c8] at H
              exact absurd H (by simp)
          · rw [if_neg c7] at H
            exact absurd H (by simp)
        · rw [if_neg c6] at H
          have c6b0 : decide (x9_1 < t123) = false := decide_eq_false c6
          clear c6
          obtain ⟨ji11, hji11⟩ : ∃ j_ : Int, (mx t121 (wrap64 (t123 - 1))) = j_ := ⟨_, rfl⟩
          replace H : (some (ji11, 0)) = some (r1, r2) := by first | (rw [hji11] at H; exact H) | (simp only [hji11] at H ⊢; exact H)
          have hji11_ : (if t121 < (wrap64 (t123 - 1)) then (wrap64 (t123 - 1)) else t121) = ji11 := hji11
          simp only [Option.some.injEq, Prod.mk.injEq] at H
          obtain ⟨rfl, rfl⟩ := H
          go_wp2
          go_ret2
          exact ⟨by first | rfl | (simp [errW_none, errW_some] <;> rfl) | (simp only [← hji11]; first | rfl | (simp [errW_none, errW_some] <;> rfl)) | (simp [*, errW_none, errW_some] <;> rfl), by repeat (first | (with_reducible first | exact HB.out | apply below_alloc | apply pw_below_drewN | apply below_drew1) | exact HB.out)⟩
  · rw [if_neg c4] at H
    have c4b0 : (t122 == 0) = false := beq_eq_false_iff_ne.mpr c4
    have c4b1 : (t122 != 0) = true := bne_iff_ne.mpr c4
    simp only [Option.some.injEq, Prod.mk.injEq] at H
    obtain ⟨rfl, rfl⟩ := H
    go_enter Try.func16, Try.ntmps16
    go_wp2_with (first | ((with_reducible refine gate_callee (f := 28) rfl ?_); refine goesL_ (some 13) rfl rfl Try.func28 (by kernel_rfl) rfl #[.slice A0 l0.length c0, .int .i64 a1] rfl (by (try simp only [List.map_toArray, List.map_cons, List.map_nil]); first | done | rfl | (simp only [List.length_drop, List.length_take]; rfl)) ?_; (with_reducible refine (lines_Start.calls k _ _ l0 a1 t121 t122 _ ?side1 ?side2 A3.out).mono ?_); (case side1 => repeat (first | exact HR0.out | (with_reducible refine Kd.C_alloc ?_ _) | (with_reducible refine Kd.C_drewN ?_ _) | (with_reducible refine Kd.C_drew ?_))); (case side2 => exact HC0.out); rintro e w' ⟨rfl, ⟨nd, rfl⟩⟩; refine ⟨_, rfl, ?_⟩))
    go_ret2
    exact ⟨by first | rfl | (simp [errW_none, errW_some] <;> rfl) | (simp [*, errW_none, errW_some] <;> rfl), by repeat (first | (with_reducible first | exact HB.out | apply below_alloc | apply pw_below_drewN | apply below_drew1) | exact HB.out)⟩

end Go.Proofs.Ytofkcdnkbjpmmaa.X
end
