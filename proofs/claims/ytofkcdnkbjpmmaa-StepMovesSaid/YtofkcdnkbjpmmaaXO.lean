/-
  How an argument that comes in as data is opened to the print's kinds: one lemma a kind. Printed by wip/xprint.py for the seat Ytofkcdnkbjpmmaa.
-/
import Derived.Test.YtofkcdnkbjpmmaaRows
import Derived.Test.YtofkcdnkbjpmmaaWALL
import Derived.Deep.Slices
import Derived.ChangeArms
import Derived.ChangeShapes
import Derived.RowKit
import Derived.WideShapes
import Derived.SizedLaws
namespace Go.Proofs.Ytofkcdnkbjpmmaa.XO
open Go.RowKit Go.ChangeShapes Go.WideShapes Go.Deep Go.Proofs.YtofkcdnkbjpmmaaW.PrintWords

def okI64 (n : Int) : Prop := -9223372036854775808 ≤ n ∧ n ≤ 9223372036854775807
def okU8 (n : Int) : Prop := 0 ≤ n ∧ n ≤ 255
def okStr (s : ByteArray) : Prop := s.size ≤ 140737488351232
def okSl {α : Type} (B : Nat) (ok : α → Prop) (l : List α) : Prop := l.length * B ≤ 140737488351232 ∧ ∀ x ∈ l, ok x
def szOne {α : Type} (_ : α) : Nat := 1
def szStr (s : ByteArray) : Nat := s.size + 1
def szSl {α : Type} (sz : α → Nat) (l : List α) : Nat := (l.map sz).sum + 1
def Opens {α : Type} (P : Program) (t : TypeId) (d : Kd α) (ok : α → Prop) (sz : α → Nat) : Prop :=
  ∀ (H : Type) (enc : TypeId × Value → H) (W : World) (fuel : Nat) (cs : List Value) (x : DataW H × List MemPlace),
    DataW.trod enc P W 0 (fun _ => true) true fuel t cs = some x → (x.1.weights P t).all (· ≤ reachBytes) = true →
    ∃ a, d.K W a cs ∧ ok a ∧ sz a ≤ Rows.uptoBulk x.1

section
variable {P : Program} {t e : TypeId}
theorem Opens.get {α : Type} {d : Kd α} {ok : α → Prop} {sz : α → Nat} (h : Opens P t d ok sz) {H : Type} {enc : TypeId × Value → H} {W : World} {fuel : Nat} {cs : List Value} {x : DataW H × List MemPlace}
    (hx : DataW.trod enc P W 0 (fun _ => true) true fuel t cs = some x) (hw : (x.1.weights P t).all (· ≤ reachBytes) = true) : ∃ a, d.K W a cs ∧ ok a ∧ sz a ≤ Rows.uptoBulk x.1 := h _ _ _ _ _ _ hx hw
theorem wf_i64 {n : Int} (h : (Lit.int .i64 n).wf = true) : okI64 n := by
  have h1 : (decide (IntKind.i64.min ≤ n) && decide (n ≤ IntKind.i64.max)) = true := h
  rw [Bool.and_eq_true] at h1
  exact ⟨of_decide_eq_true h1.1, of_decide_eq_true h1.2⟩
theorem wf_u8 {n : Int} (h : (Lit.int .u8 n).wf = true) : okU8 n := by
  have h1 : (decide (IntKind.u8.min ≤ n) && decide (n ≤ IntKind.u8.max)) = true := h
  rw [Bool.and_eq_true] at h1
  exact ⟨of_decide_eq_true h1.1, of_decide_eq_true h1.2⟩
theorem opens_i64 (hu : P.underlying t = some (.int .i64)) : Opens P t (Kd.int .i64) okI64 szOne := by
  intro H enc W fuel cs x h _
  obtain ⟨n, rfl, rfl, hwf⟩ := DataW.trod_int hu h
  exact ⟨n, rfl, wf_i64 hwf, by simp [szOne, Rows.uptoBulk]⟩
theorem opens_u8 (hu : P.underlying t = some (.int .u8)) : Opens P t (Kd.int .u8) okU8 szOne := by
  intro H enc W fuel cs x h _
  obtain ⟨n, rfl, rfl, hwf⟩ := DataW.trod_int hu h
  exact ⟨n, rfl, wf_u8 hwf, by simp [szOne, Rows.uptoBulk]⟩
theorem opens_str (hu : P.underlying t = some .string) : Opens P t Kd.string okStr szStr := by
  intro H enc W fuel cs x h hw
  obtain ⟨s, rfl, rfl, hm⟩ := DataW.trod_string hu h
  have e : s.data.toList.length = s.size := by rw [Array.length_toList]; rfl
  refine ⟨s, rfl, ?_, ?_⟩
  · simp only [DataW.weights, List.all_cons, List.all_nil, Bool.and_true] at hw
    have h1 := of_decide_eq_true hw
    rw [e] at h1
    exact h1
  · simp only [szStr, Rows.uptoBulk, e]; omega
theorem weightsAll_mem {H : Type} {e : TypeId} {l : List (DataW H)} {d : DataW H} (hd : d ∈ l) {p : Nat → Bool} (h : (DataW.weightsAll P e l).all p = true) : (d.weights P e).all p = true := by
  induction l with
  | nil => cases hd
  | cons b l ih =>
    simp only [DataW.weightsAll, List.all_append, Bool.and_eq_true] at h
    cases List.mem_cons.1 hd with
    | inl e => subst e; exact h.1
    | inr e => exact ih e h.2
theorem bulkAll_append {H : Type} (l r : List (DataW H)) : Rows.uptoBulkAll (l ++ r) = Rows.uptoBulkAll l + Rows.uptoBulkAll r := by
  induction l with
  | nil => simp [Rows.uptoBulkAll]
  | cons x l ih => simp only [List.cons_append, Rows.uptoBulkAll, ih]; omega
theorem opens_list {α : Type} {ok : α → Prop} {sz : α → Nat} (n : Nat) : ∀ {H : Type} (D : Nat → DataW H) {Q : Nat → α → Prop}, (∀ i, i < n → ∃ a, Q i a ∧ ok a ∧ sz a ≤ Rows.uptoBulk (D i)) →
    ∃ xs : List α, xs.length = n ∧ (∀ i a, xs[i]? = some a → Q i a) ∧ (∀ x ∈ xs, ok x) ∧ (xs.map sz).sum ≤ Rows.uptoBulkAll ((List.range n).map D) := by
  intro H D Q h
  induction n with
  | zero => exact ⟨[], rfl, (fun i a h => by simp at h), (fun x hx => absurd hx List.not_mem_nil), by simp⟩
  | succ n ih =>
    obtain ⟨xs, hl, hq, hok, hs⟩ := ih (fun i hi => h i (by omega))
    obtain ⟨a, ha, hoa, hsa⟩ := h n (by omega)
    refine ⟨xs ++ [a], by simp [hl], fun i b hb => ?_, fun x hx => ?_, ?_⟩
    · by_cases hi : i < xs.length
      · rw [List.getElem?_append_left hi] at hb
        exact hq i b hb
      · rw [List.getElem?_append_right (by omega)] at hb
        have h0 : i - xs.length = 0 := by
          by_cases h1 : i - xs.length = 0
          · exact h1
          · obtain ⟨m, hm⟩ : ∃ m, i - xs.length = m + 1 := ⟨i - xs.length - 1, by omega⟩
            rw [hm] at hb; simp at hb
        rw [h0] at hb
        simp at hb
        subst hb
        have : i = n := by omega
        rw [this]; exact ha
    · rcases List.mem_append.1 hx with hx | hx
      · exact hok x hx
      · rw [List.mem_singleton.1 hx]; exact hoa
    · rw [List.range_succ, List.map_append (f := D), bulkAll_append, List.map_append (f := sz), List.sum_append]
      simp only [List.map_cons, List.map_nil, List.sum_cons, List.sum_nil, Rows.uptoBulkAll]
      omega
theorem opens_sl {α : Type} {d : Kd α} {ok : α → Prop} {sz : α → Nat} {B : Nat} (hu : P.underlying t = some (.slice e)) (he : Opens P e d ok sz) (hc : P.cellsOf e = d.sz) (hb : P.bytesOf e = B) :
    Opens P t (Kd.slice e d) (okSl B ok) (szSl sz) := by
  intro H enc W fuel cs x h hw
  rcases open_slice hu h with ⟨rfl, rfl⟩ | ⟨a, len, cap, m, n, D, Pl, rfl, _, hl, hm, hmm, rfl, hi⟩
  · refine ⟨[], ⟨none, 0, rfl, Nat.le_refl _, ?_⟩, ⟨by simp, fun x hx => by cases hx⟩, by simp [szSl, Rows.uptoBulk]⟩
    exact ⟨rfl, by simp, fun h0 => absurd h0 (by simp)⟩
  · have hmc : m = cap := by simpa using hmm
    subst hmc
    simp only [DataW.weights, hu] at hw
    rw [List.all_cons, Bool.and_eq_true, List.all_append, Bool.and_eq_true] at hw
    obtain ⟨hw0, hwe, _⟩ := hw
    obtain ⟨xs, hxl, hxq, hxo, hxs⟩ := opens_list (α := α) (ok := ok) (sz := sz) len D (Q := fun i y => ∃ cs', W.cells? 0 (a.add (i * P.cellsOf e)) (P.cellsOf e) = some cs' ∧ d.K W y cs') (fun i hil => by
      obtain ⟨cs', hcs, ht⟩ := hi i (by omega)
      obtain ⟨y, hK, hok, hsz⟩ := he.get ht (weightsAll_mem (List.mem_map.2 ⟨i, List.mem_range.2 hil, rfl⟩) hwe)
      exact ⟨y, ⟨cs', hcs, hK⟩, hok, hsz⟩)
    refine ⟨xs, ⟨some a, m, by rw [hxl], by omega, ?_⟩, ⟨?_, hxo⟩, ?_⟩
    · have hmx : m ≤ maxLen := hm
      unfold maxLen at hmx
      refine ⟨rfl, by omega, fun _ => ⟨a, rfl, fun j p hj => ?_⟩⟩
      · obtain ⟨cs', hcs, hK⟩ := hxq j p hj
        obtain ⟨_, hlen, hat⟩ := World.cells?_some hcs
        refine ⟨cs', by rw [hlen, hc], hK, fun i u hu' => ?_⟩
        have hil : i < P.cellsOf e := by
          obtain ⟨h1, _⟩ := List.getElem?_eq_some_iff.1 hu'
          omega
        have h2 := hat i hil
        rw [hu'] at h2
        rw [← hc, ← h2, Go.Deep.add_add]
    · have h3 : (((List.range len).map D).length + ((List.range (m - len)).map fun j => D (len + j)).length) * P.bytesOf e ≤ reachBytes := of_decide_eq_true hw0
      simp only [List.length_map, List.length_range, hb] at h3
      rw [hxl]
      have h4 : len * B ≤ (len + (m - len)) * B := Nat.mul_le_mul_right _ (by omega)
      have h5 : reachBytes = 140737488351232 := by decide
      omega
    · simp only [szSl, Rows.uptoBulk]
      omega
theorem opens_iso {α β : Type} {d : Kd α} {f : β → α} {ok : α → Prop} {sz : α → Nat} (g : α → β) (hg : ∀ a, f (g a) = a) (h : Opens P t d ok sz) : Opens P t (Kd.iso d f) (fun b => ok (f b)) (fun b => sz (f b)) := by
  intro H enc W fuel cs x hx hw
  obtain ⟨a, hK, hok, hs⟩ := h.get hx hw
  refine ⟨g a, ?_, ?_, ?_⟩
  · show d.K W (f (g a)) cs
    rw [hg]; exact hK
  · show ok (f (g a))
    rw [hg]; exact hok
  · show sz (f (g a)) ≤ _
    rw [hg]; exact hs
/-- The fields of a struct from one on; their cells from off on. -/
def OF {α : Type} (P : Program) (fs : List Field) (off : Nat) (d : Kd α) (ok : α → Prop) (sz : α → Nat) : Prop :=
  ∀ (H : Type) (enc : TypeId × Value → H) (W : World) (n : Nat) (cs : List Value) (ys : List (DataW H × List MemPlace)), cs.length = off + d.sz → ys.length = fs.length →
    (∀ (j : Nat) (f : Field), fs[j]? = some f → DataW.trod enc P W 0 (fun _ => true) true n f.type ((cs.drop f.offset).take (P.cellsOf f.type)) = ys[j]?) →
    (DataW.weightsEach P (fs.map (·.type)) (ys.map (·.1))).all (· ≤ reachBytes) = true → ∃ a, d.K W a (cs.drop off) ∧ ok a ∧ sz a ≤ Rows.uptoBulkAll (ys.map (·.1))
theorem of_last {α : Type} {f : Field} {off : Nat} {d : Kd α} {ok : α → Prop} {sz : α → Nat} (ho : f.offset = off) (hc : P.cellsOf f.type = d.sz) (h : Opens P f.type d ok sz) : OF P [f] off d ok sz := by
  intro H enc W n cs ys hl hy hf hw
  obtain ⟨y, rfl⟩ : ∃ y, ys = [y] := by
    match ys, hy with
    | [y], _ => exact ⟨y, rfl⟩
  have h1 := hf 0 f rfl
  rw [ho, hc, List.take_of_length_le (by rw [List.length_drop]; omega)] at h1
  simp only [List.map_cons, List.map_nil, DataW.weightsEach, List.append_nil] at hw
  obtain ⟨a, hK, hok, hs⟩ := h.get h1 hw
  exact ⟨a, hK, hok, by simp only [List.map_cons, List.map_nil, Rows.uptoBulkAll]; omega⟩
theorem of_cons {α β : Type} {f : Field} {fs : List Field} {off : Nat} {d : Kd α} {d' : Kd β} {ok : α → Prop} {ok' : β → Prop} {sz : α → Nat} {sz' : β → Nat} (ho : f.offset = off) (hc : P.cellsOf f.type = d.sz) (h : Opens P f.type d ok sz) (h' : OF P fs (off + d.sz) d' ok' sz') :
    OF P (f :: fs) off (Kd.pair d d') (fun x => ok x.1 ∧ ok' x.2) (fun x => sz x.1 + sz' x.2) := by
  intro H enc W n cs ys hl hy hf hw
  have hl : cs.length = off + (d.sz + d'.sz) := hl
  obtain ⟨y, ys, rfl⟩ : ∃ y zs, ys = y :: zs := by
    match ys, hy with
    | y :: zs, _ => exact ⟨y, zs, rfl⟩
  have h1 := hf 0 f rfl
  rw [ho, hc] at h1
  simp only [List.map_cons, DataW.weightsEach, List.all_append, Bool.and_eq_true] at hw
  obtain ⟨a, hK, hok, hs⟩ := h.get h1 hw.1
  obtain ⟨b, hK', hok', hs'⟩ := h' H enc W n cs ys (by omega) (by simpa using hy) (fun j g hj => by simpa using hf (j + 1) g (by simpa using hj)) hw.2
  refine ⟨(a, b), ⟨_, _, ?_, hK, hK'⟩, ⟨hok, hok'⟩, by simp only [List.map_cons, Rows.uptoBulkAll]; omega⟩
  rw [← List.drop_drop, List.take_append_drop]
theorem opens_struct {α : Type} {fs : Array Field} {d : Kd α} {ok : α → Prop} {sz : α → Nat} (hu : P.underlying t = some (.struct fs)) (hc : P.cellsOf t = d.sz) (h : OF P fs.toList 0 d ok sz) : Opens P t d ok (fun a => sz a + 1) := by
  intro H enc W fuel cs x hx hw
  obtain ⟨ys, n, _, rfl, hl, hyl, hf⟩ := DataW.trod_struct hu hx
  simp only [DataW.weights, hu] at hw
  obtain ⟨a, hK, hok, hs⟩ := h H enc W n cs ys (by omega) (by simpa using hyl) (fun j f hj => hf j f (by simpa using hj)) hw
  exact ⟨a, by simpa using hK, hok, by simp only [Rows.uptoBulk]; omega⟩
theorem weightsEach_at {H : Type} {ts : List TypeId} {ds : List (DataW H)} {j : Nat} {t : TypeId} {d : DataW H} (ht : ts[j]? = some t) (hd : ds[j]? = some d) {p : Nat → Bool} (h : (DataW.weightsEach P ts ds).all p = true) : (d.weights P t).all p = true := by
  induction ts generalizing ds j with
  | nil => simp at ht
  | cons t0 ts ih =>
    cases ds with
    | nil => simp at hd
    | cons d0 ds =>
      simp only [DataW.weightsEach, List.all_append, Bool.and_eq_true] at h
      cases j with
      | zero =>
        simp at ht hd
        subst ht hd
        exact h.1
      | succ j => exact ih (by simpa using ht) (by simpa using hd) h.2
end
end Go.Proofs.Ytofkcdnkbjpmmaa.XO
