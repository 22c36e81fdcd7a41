/-
  Patterns, plainly: what a Quote compiles to, and what it finds.
-/
import Derived.Test.YtlbijhlbllolhaaDoorPT10
import Derived.Test.YtlbijhlbllolhaaDoorQT0
namespace Go.Proofs.YtlbijhlbllolhaaDoor.PT
open Go.RowKit Go.Proofs.YtlbijhlbllolhaaDoorW.PrintWords Go.Proofs.YtlbijhlbllolhaaDoorW.PrintMore
set_option linter.unusedVariables false
/-- One byte, and no other. -/
def lit (b : Int) : PTh := .single fun j => j == b.toNat
theorem rd_app (pre post : List Int) (b : Int) : rd (pre ++ b :: post) (pre.length : Int) = b := by
  unfold rd
  rw [Int.toNat_natCast, List.getD_eq_getElem?_getD, List.getElem?_append_right (Nat.le_refl _), Nat.sub_self]
  rfl
theorem rd_app1 (pre post : List Int) (b c : Int) : rd (pre ++ b :: c :: post) ((pre.length : Int) + 1) = c := by
  have h := rd_app (pre ++ [b]) post c
  rw [List.length_append, List.length_singleton, List.append_assoc] at h
  exact h
theorem special_no {b : Int} (h : ¬ special b = true) : b ≠ 92 ∧ b ≠ 46 ∧ b ≠ 42 ∧ b ≠ 91 ∧ b ≠ 93 ∧ b ≠ 94 ∧ b ≠ 36 := by
  unfold special at h
  simp only [Bool.or_eq_true, beq_iff_eq] at h
  omega
theorem special_yes {b : Int} (h : special b = true) : b = 92 ∨ b = 46 ∨ b = 42 ∨ b = 91 ∨ b = 93 ∨ b = 94 ∨ b = 36 := by
  unfold special at h
  simp only [Bool.or_eq_true, beq_iff_eq] at h
  omega
theorem quoteV_cons (b : Int) (s : List Int) : quoteV (b :: s) = (if special b = true then [92, b] else [b]) ++ quoteV s := by simp [quoteV]
/-- One byte of the text, read. -/
theorem next_plain {pre post : List Int} {b : Int} (l : List PTh) (h : ¬ special b = true) : nextV (pre ++ b :: post) pre.length l = (pre.length + 1, -1, l ++ [lit b]) := by
  obtain ⟨h1, h2, h3, h4, h5, h6, h7⟩ := special_no h
  unfold nextV
  rw [rd_app]
  rw [if_neg (fun h => h6 h.1), if_neg (fun h => h7 h.1), if_neg h2, if_neg h4, if_neg h3, if_neg h1]
  rfl
theorem next_masked {pre post : List Int} {b : Int} (l : List PTh) (h : b ≠ 60 ∧ b ≠ 62) : nextV (pre ++ 92 :: b :: post) pre.length l = (pre.length + 2, -1, l ++ [lit b]) := by
  unfold nextV
  rw [rd_app, rd_app1]
  rw [if_neg (fun h => by have := h.1; omega), if_neg (fun h => by have := h.1; omega), if_neg (by omega), if_neg (by omega), if_neg (by omega), if_pos rfl, if_neg (by simp), if_neg h.1, if_neg h.2]
  rfl
theorem compL_step {p : List Int} {d a : Nat} {l : List PTh} {a' : Nat} {l' : List PTh} (ha : a < p.length) (h : nextV p a l = (a', -1, l')) : compL p (d + 1) a l = compL p d a' l' := by
  conv => lhs; unfold compL
  rw [if_pos ha, h, if_neg (show ¬ ((-1 : Int) ≥ 0) by decide)]
/-- A quoted text, wherever it stands in a pattern: its bytes, one by one. -/
theorem comp_quote : ∀ (s pre post : List Int) (l : List PTh) (d : Nat), compL (pre ++ quoteV s ++ post) (s.length + d) pre.length l = compL (pre ++ quoteV s ++ post) d (pre.length + (quoteV s).length) (l ++ s.map lit) := by
  intro s
  induction s with
  | nil => intro pre post l d; simp [quoteV]
  | cons b s ih =>
    intro pre post l d
    rw [quoteV_cons]
    by_cases h : special b = true
    · rw [if_pos h]
      have hp : pre ++ ([92, b] ++ quoteV s) ++ post = pre ++ 92 :: b :: (quoteV s ++ post) := by simp
      have hp2 : pre ++ ([92, b] ++ quoteV s) ++ post = (pre ++ [92, b]) ++ quoteV s ++ post := by simp
      have hb : b ≠ 60 ∧ b ≠ 62 := by have := special_yes h; omega
      rw [show (b :: s).length + d = (s.length + d) + 1 from by rw [List.length_cons]; omega]
      rw [compL_step (a' := pre.length + 2) (l' := l ++ [lit b]) (by simp) (by rw [hp]; exact next_masked l hb)]
      have := ih (pre ++ [92, b]) post (l ++ [lit b]) d
      rw [← hp2] at this
      rw [show (pre ++ [92, b]).length = pre.length + 2 from by simp] at this
      rw [this]
      congr 1
      · simp; omega
      · simp
    · rw [if_neg h]
      have hp : pre ++ ([b] ++ quoteV s) ++ post = pre ++ b :: (quoteV s ++ post) := by simp
      have hp2 : pre ++ ([b] ++ quoteV s) ++ post = (pre ++ [b]) ++ quoteV s ++ post := by simp
      rw [show (b :: s).length + d = (s.length + d) + 1 from by rw [List.length_cons]; omega]
      rw [compL_step (a' := pre.length + 1) (l' := l ++ [lit b]) (by simp) (by rw [hp]; exact next_plain l h)]
      have := ih (pre ++ [b]) post (l ++ [lit b]) d
      rw [← hp2] at this
      rw [show (pre ++ [b]).length = pre.length + 1 from by simp] at this
      rw [this]
      congr 1
      · simp; omega
      · simp
theorem compile_quote {s : List Int} (h : (quoteV s).length ≤ 256) : compileV (quoteV s) = (some (s.map lit), 0, 0) := by
  have hl := (quoteV_len s).1
  have e := comp_quote s [] [] [] ((quoteV s).length + 1 - s.length)
  simp only [List.nil_append, List.append_nil, List.length_nil, Nat.zero_add] at e
  rw [show s.length + ((quoteV s).length + 1 - s.length) = (quoteV s).length + 1 from by omega] at e
  rw [compL_end (p := quoteV s) (a := (quoteV s).length) (Nat.lt_irrefl _)] at e
  unfold compileV
  rw [if_neg (by omega), e, if_neg (show ¬ ((-1 : Int) ≥ 0) by decide)]
/-- The text stands at a place. -/
def occ (line s : List Int) (i : Nat) : Prop := (line.drop i).take s.length = s
theorem occ_cons {line s : List Int} {b : Int} {i : Nat} : occ line (b :: s) i ↔ i < line.length ∧ rd line i = b ∧ occ line s (i + 1) := by
  unfold occ
  by_cases h : i < line.length
  · rw [List.drop_eq_getElem_cons h, List.length_cons, List.take_succ_cons]
    constructor
    · intro e
      injection e with e1 e2
      exact ⟨h, by unfold rd; rw [Int.toNat_natCast, List.getD_eq_getElem?_getD, List.getElem?_eq_getElem h]; exact e1, e2⟩
    · intro ⟨_, e1, e2⟩
      unfold rd at e1
      rw [Int.toNat_natCast, List.getD_eq_getElem?_getD, List.getElem?_eq_getElem h] at e1
      rw [e2, show line[i] = b from e1]
  · constructor
    · intro e
      rw [List.drop_eq_nil_of_le (by omega)] at e
      cases e
    · intro e; exact absurd e.1 h
theorem occ_fit {line s : List Int} {i : Nat} (h : occ line s i) (hi : i ≤ line.length) : i + s.length ≤ line.length := by
  have e := congrArg List.length h
  rw [List.length_take, List.length_drop] at e
  omega
theorem ends_lit (line : List Int) (hu : ∀ i, 0 ≤ rd line i ∧ rd line i ≤ 255) : ∀ (s : List Int), (∀ x ∈ s, 0 ≤ x ∧ x ≤ 255) → ∀ i : Nat, i ≤ line.length → (occ line s i → rd (endsV line (s.map lit)) (i : Int) = i + s.length) ∧ (¬ occ line s i → rd (endsV line (s.map lit)) (i : Int) = -1) := by
  intro s
  induction s with
  | nil =>
    intro _ i hi
    have e : rd (endsV line []) (i : Int) = (i : Int) := rd_gen _ (fun i : Nat => (i : Int)) (show i < line.length + 1 by omega)
    exact ⟨fun _ => by rw [List.map_nil, e]; simp, fun h => absurd (show occ line [] i by unfold occ; simp) h⟩
  | cons b s ih =>
    intro hs i hi
    have hb := hs b (by simp)
    have ih' := ih (fun x hx => hs x (by simp [hx]))
    have e : rd (endsV line ((b :: s).map lit)) (i : Int) = if i < line.length ∧ ((rd line (i : Int)).toNat == b.toNat) = true then rd (endsV line (s.map lit)) ((i : Int) + 1) else -1 :=
      rd_gen _ (fun i : Nat => if i < line.length ∧ ((rd line (i : Int)).toNat == b.toNat) = true then rd (endsV line (s.map lit)) ((i : Int) + 1) else -1) (show i < line.length + 1 by omega)
    have hui := hu (i : Int)
    have hbt : ((rd line (i : Int)).toNat == b.toNat) = true ↔ rd line i = b := by rw [beq_iff_eq]; omega
    rw [e, occ_cons]
    constructor
    · intro ⟨h1, h2, h3⟩
      rw [if_pos ⟨h1, hbt.2 h2⟩]
      have := (ih' (i + 1) (by omega)).1 h3
      rw [show ((i : Int) + 1) = ((i + 1 : Nat) : Int) from by omega, this, List.length_cons]
      omega
    · intro h
      by_cases h1 : i < line.length ∧ ((rd line (i : Int)).toNat == b.toNat) = true
      · rw [if_pos h1]
        have := (ih' (i + 1) (by omega)).2 (fun h3 => h ⟨h1.1, hbt.1 h1.2, h3⟩)
        rw [show ((i : Int) + 1) = ((i + 1 : Nat) : Int) from by omega, this]
      · rw [if_neg h1]
theorem quote_out {line : List Int} {pl : List PTh} {f : Int} (h : f < 0 ∨ f > line.length) : findV line pl f = (0, 0, false) := if_pos h
theorem quote_found {line s : List Int} (hu : ∀ i, 0 ≤ rd line i ∧ rd line i ≤ 255) (hs : ∀ x ∈ s, 0 ≤ x ∧ x ≤ 255) {f i : Nat} (hfi : f ≤ i) (hi : i ≤ line.length) (ho : occ line s i) (hno : ∀ j, f ≤ j → j < i → ¬ occ line s j) :
    findV line (s.map lit) f = ((i : Int), (i : Int) + s.length, true) := by
  have hE := ends_lit line hu s hs
  have hsp := find_spec line (s.map lit) f
  generalize findV line (s.map lit) (f : Int) = r at hsp
  obtain ⟨r1, r2, r3⟩ := r
  simp only at hsp
  cases r3 with
  | false =>
    have h2 := (hsp.2 rfl).2 (by omega) (i : Int) (by omega) (by omega)
    have h3 := (hE i hi).1 ho
    omega
  | true =>
    obtain ⟨h1, h2, h3, h4, h5, h6⟩ := hsp.1 rfl
    obtain ⟨a, rfl⟩ : ∃ a : Nat, r1 = (a : Int) := ⟨r1.toNat, by omega⟩
    have ha : a = i := by
      rcases Nat.lt_trichotomy a i with hlt | e | hlt
      · have := (hE a (by omega)).2 (hno a (by omega) hlt)
        omega
      · exact e
      · have h7 := h6 (i : Int) (by omega) (by omega)
        have := (hE i hi).1 ho
        omega
    subst ha
    have := (hE a (by omega)).1 ho
    rw [← h5] at this
    rw [this]
theorem quote_none {line s : List Int} (hu : ∀ i, 0 ≤ rd line i ∧ rd line i ≤ 255) (hs : ∀ x ∈ s, 0 ≤ x ∧ x ≤ 255) {f : Nat} (hf : f ≤ line.length) (hno : ∀ j, f ≤ j → j + s.length ≤ line.length → ¬ occ line s j) :
    findV line (s.map lit) f = (0, 0, false) := by
  have hE := ends_lit line hu s hs
  have hsp := find_spec line (s.map lit) f
  generalize findV line (s.map lit) (f : Int) = r at hsp ⊢
  obtain ⟨r1, r2, r3⟩ := r
  simp only at hsp
  cases r3 with
  | false => exact (hsp.2 rfl).1
  | true =>
    obtain ⟨h1, h2, h3, h4, h5, h6⟩ := hsp.1 rfl
    obtain ⟨a, rfl⟩ : ∃ a : Nat, r1 = (a : Int) := ⟨r1.toNat, by omega⟩
    have : ¬ occ line s a := fun ho => hno a (by omega) (occ_fit ho (by omega)) ho
    have := (hE a (by omega)).2 this
    omega
end Go.Proofs.YtlbijhlbllolhaaDoor.PT
