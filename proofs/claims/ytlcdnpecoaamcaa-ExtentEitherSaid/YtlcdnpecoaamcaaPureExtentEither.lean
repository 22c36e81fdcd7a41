/-
  ExtentEither, the pure statement: a target and its opposite have one range, of the text, about both ends.
  Conditions: none.
-/
import Derived.Test.YtlcdnpecoaamcaaLN
import Derived.Test.YtlcdnpecoaamcaaSayExtentEither
import Derived.Test.YtlcdnpecoaamcaaX27
import Derived.Test.YtlcdnpecoaamcaaX14
import Derived.Test.YtlcdnpecoaamcaaX13
import Derived.Test.YtlcdnpecoaamcaaX4
import Derived.Test.YtlcdnpecoaamcaaX11
import Derived.Test.YtlcdnpecoaamcaaX3
import Derived.Test.YtlcdnpecoaamcaaX8
import Derived.Test.YtlcdnpecoaamcaaX9
namespace Go.Proofs.Ytlcdnpecoaamcaa.Pure
open Go.RowKit Go.Proofs.YtlcdnpecoaamcaaW.PrintWords Go.Proofs.YtlcdnpecoaamcaaW.PrintMore Go.Proofs.Ytlcdnpecoaamcaa.X Go.Proofs.Ytlcdnpecoaamcaa.XL Go.Proofs.Ytlcdnpecoaamcaa.XO Go.Proofs.Ytlcdnpecoaamcaa.LN
theorem alive_ev : Ev (fun k => quoinlaw14_alive.f k) true := Ev.of quoinlaw14_alive.mono (k := 40) (by decide +kernel)
theorem rd_nat (t : List Int) (p : Nat) : rd t (p : Int) = t.getD p 0 := by unfold rd; rw [Int.toNat_natCast]
abbrev bodyW (t : List Int) (a s : Int) (c : Bool) (S : Nat → Option (Int × Int)) : Nat → Option (Int × Int × Bool × Bool × Int) := fun k =>
  if c = true then (some (0, 0, false, false, 2)) else ((S k).bind fun bt108 => (if bt108.2 = 0 then (some (s, bt108.1, true, false, 0)) else (if a > 0 then (some (wrap64 (s - 1), (t.length : Int), true, true, 0)) else (some (0, (t.length : Int), true, false, 0)))))
def resW (t : List Int) (a s : Int) (c : Bool) (p : Int × Int) : Int × Int × Bool × Bool × Int :=
  if c = true then (0, 0, false, false, 2) else if p.2 = 0 then (s, p.1, true, false, 0) else if a > 0 then (wrap64 (s - 1), (t.length : Int), true, true, 0) else (0, (t.length : Int), true, false, 0)
theorem body_ev {t : List Int} {a s : Int} {c : Bool} {S : Nat → Option (Int × Int)} {p : Int × Int} (h : Ev S p) : Ev (bodyW t a s c S) (resW t a s c p) := by
  obtain ⟨K, hK⟩ := h
  refine ⟨K, fun k hk => ?_⟩
  unfold bodyW resW
  rw [hK k hk]
  simp only [Option.bind_some]
  split
  · rfl
  · split
    · rfl
    · split <;> rfl
def ofR (t : List Int) (a : Int) : Int × Int := if 0 ≤ a ∧ a ≤ t.length then (cnt 10 (t.take a.toNat), 0) else (0, 2)
abbrev names14 : List ByteArray := [(⟨#[100]⟩ : ByteArray), (⟨#[99]⟩ : ByteArray), (⟨#[121]⟩ : ByteArray), (⟨#[62]⟩ : ByteArray), (⟨#[60]⟩ : ByteArray), (⟨#[103, 126]⟩ : ByteArray), (⟨#[103, 117]⟩ : ByteArray), (⟨#[103, 85]⟩ : ByteArray)]
theorem idx_hit {a : ByteArray} (i : Nat) (hi : i < 8) (h : a.toList = (rdOf ByteArray.empty names14 (i : Int)).toList) : Ev (fun k => slices_Index_string_string.l0 k names14 a 8 (i : Int)) (i : Int) :=
  Ev.step (f := fun k => if (i : Int) < 8 then (if 0 ≤ (i : Int) then (if (i : Int) < (names14.length : Int) then (if a.toList = (rdOf ByteArray.empty names14 (i : Int)).toList then (some (i : Int)) else (slices_Index_string_string.l0 k names14 a 8 (wrap64 ((i : Int) + 1)))) else (none)) else (none)) else (some (-1))) (fun k => rfl) (Ev.pos (by omega) (Ev.pos (by omega) (Ev.pos (by show (i : Int) < 8; omega) (Ev.pos h (Ev.now _)))))
theorem idx_next {a : ByteArray} {r : Int} (i : Nat) (hi : i < 8) (h : ¬ a.toList = (rdOf ByteArray.empty names14 (i : Int)).toList) (k : Ev (fun k => slices_Index_string_string.l0 k names14 a 8 ((i + 1 : Nat) : Int)) r) : Ev (fun k => slices_Index_string_string.l0 k names14 a 8 (i : Int)) r := by
  refine Ev.step (f := fun k => if (i : Int) < 8 then (if 0 ≤ (i : Int) then (if (i : Int) < (names14.length : Int) then (if a.toList = (rdOf ByteArray.empty names14 (i : Int)).toList then (some (i : Int)) else (slices_Index_string_string.l0 k names14 a 8 (wrap64 ((i : Int) + 1)))) else (none)) else (none)) else (some (-1))) (fun k => rfl) (Ev.pos (by omega) (Ev.pos (by omega) (Ev.pos (by show (i : Int) < 8; omega) (Ev.neg h ?_))))
  rw [wrap64_id (n := (i : Int) + 1) (by omega) (by omega), show (i : Int) + 1 = ((i + 1 : Nat) : Int) from by omega]
  exact k
theorem idx_any (a : ByteArray) : ∀ (d i : Nat), i + d = 8 → ∃ r, Ev (fun k => slices_Index_string_string.l0 k names14 a 8 (i : Int)) r := by
  intro d
  induction d with
  | zero =>
    intro i hi
    have : i = 8 := by omega
    subst this
    exact ⟨-1, Ev.step (f := fun _ => some (-1)) (fun _ => rfl) (Ev.now _)⟩
  | succ d ih =>
    intro i hi
    by_cases h : a.toList = (rdOf ByteArray.empty names14 (i : Int)).toList
    · exact ⟨_, idx_hit i (by omega) h⟩
    · obtain ⟨r, hr⟩ := ih (i + 1) (by omega)
      exact ⟨r, idx_next i (by omega) h hr⟩
theorem known_ev (a : ByteArray) : ∃ r, Ev (fun k => slices_Contains_string_string.f k names14 a) r := by
  obtain ⟨r, hr⟩ := idx_any a 8 0 rfl
  exact ⟨decide (r ≥ 0), Ev.bind hr (Ev.now _)⟩
theorem Of_bad {t : List Int} (op : ByteArray) (lo hi c1 c2 a b kind : Int) : Ev (fun k => extent_Of.j0 k t op lo hi c1 c2 true a b kind) (0, 0, false, false, 2) :=
  Ev.step (f := fun _ => some (0, 0, false, false, 2)) (fun _ => rfl) (Ev.now _)
abbrev R5 := Int × Int × Bool × Bool × Int
/-- Whole lines about two places. -/
def WP (t : List Int) (lo q : Int) (r : R5) : Prop := ∃ a b d, r = (a, b, true, d, 0) ∧ 0 ≤ a ∧ a ≤ b ∧ b ≤ (t.length : Int) ∧ a ≤ lo ∧ q ≤ b ∧ (d = true → a < (t.length : Int) ∧ rd t a = 10)
theorem bodyW_next {t : List Int} {a s : Int} {S : Nat → Option (Int × Int)} {q : Int} (h : Ev S (q, 0)) : Ev (bodyW t a s false S) (s, q, true, false, 0) := Ev.eq (body_ev h) rfl
theorem bodyW_lead {t : List Int} {a s s' : Int} {S : Nat → Option (Int × Int)} {q : Int} (h : Ev S (q, 2)) (ha : a > 0) (hs : wrap64 (s - 1) = s') : Ev (bodyW t a s false S) (s', (t.length : Int), true, true, 0) := by
  refine Ev.eq (body_ev h) ?_
  unfold resW
  rw [if_neg (by decide), if_neg (show ¬ (2 : Int) = 0 by decide), if_pos ha, hs]
theorem bodyW_all {t : List Int} {a s : Int} {S : Nat → Option (Int × Int)} {q : Int} (h : Ev S (q, 2)) (ha : ¬ a > 0) : Ev (bodyW t a s false S) (0, (t.length : Int), true, false, 0) := by
  refine Ev.eq (body_ev h) ?_
  unfold resW
  rw [if_neg (by decide), if_neg (show ¬ (2 : Int) = 0 by decide), if_neg ha]
section
variable {t : List Int} (hu : u8s t = true) (hl : t.length ≤ 140737488355328)
omit hu hl in
theorem sg_next {q : Nat} (hf : fin t q < t.length) : sg t 0 ((cnt 10 (t.take q)).toNat + 1) = some (fin t q + 1) := by
  have h0 := cnt_nonneg 10 (t.take q)
  refine sg_of (.inl rfl) (by omega) (by omega) (.inr ?_) ?_
  · rw [show fin t q + 1 - 1 = fin t q from rfl]
    exact fin_at hf
  · rw [cnt_next hf, show cnt 10 (t.take 0) = 0 from rfl]
    omega
omit hu hl in
theorem sg_none {q : Nat} (hq : q ≤ t.length) (hf : ¬ fin t q < t.length) : sg t 0 ((cnt 10 (t.take q)).toNat + 1) = none := by
  have h0 := cnt_nonneg 10 (t.take q)
  cases e : sg t 0 ((cnt 10 (t.take q)).toNat + 1) with
  | none => rfl
  | some p =>
    exfalso
    obtain ⟨_, _, h3, h4⟩ := sg_some (Nat.zero_le _) (.inl rfl) e
    rw [show cnt 10 (t.take 0) = 0 from rfl] at h4
    by_cases h : p ≤ q
    · have h5 := cnt_mono h hq
      omega
    · have h5 := cnt_same (t := t) (p := q) (q := p) (by omega) h3 (fun j h1 h2 => fin_ne h1 (by omega))
      omega
omit hu hl in
theorem startR_some (c : Int) (hc : 0 ≤ c) (q : Nat) (h : sg t 0 (c.toNat + 1) = some q) : startR t (c + 1) = ((q : Int), 0) := by
  unfold startR
  rw [if_neg (by omega), show (c + 1).toNat = c.toNat + 1 from by omega]
  simp only [h]
omit hu hl in
theorem startR_none (c : Int) (hc : 0 ≤ c) (h : sg t 0 (c.toNat + 1) = none) : startR t (c + 1) = (0, 2) := by
  unfold startR
  rw [if_neg (by omega), show (c + 1).toNat = c.toNat + 1 from by omega]
  simp only [h]
include hu hl
theorem Whole_at (lo q : Nat) (h1 : lo ≤ q) (h2 : q ≤ t.length) : ∃ r, Ev (fun k => extent_Whole.f k t (cnt 10 (t.take lo)) (cnt 10 (t.take q))) r ∧ WP t (lo : Int) (q : Int) r := by
  have s1 := Start_of hu hl (p := lo) (by omega)
  have s2 := Start_of hu hl h2
  have c0 := cnt_nonneg 10 (t.take q)
  have c1 := cnt_le 10 (t.take q)
  have c2 := List.length_take_le q t
  have cm := cnt_mono (t := t) h1 h2
  have hb := beg_le t lo
  have hw : wrap64 (cnt 10 (t.take q) + 1) = cnt 10 (t.take q) + 1 := wrap64_id (by omega) (by omega)
  have hbeg : cnt 10 (t.take lo) > 0 → 0 < beg t lo := by
    intro h
    rcases Nat.eq_zero_or_pos (beg t lo) with e | e
    · have := cnt_beg (t := t) (p := lo) (by omega)
      rw [e] at this
      rw [show cnt 10 (t.take 0) = 0 from rfl] at this
      omega
    · exact e
  have n3 := Start_ev hu hl (cnt 10 (t.take q) + 1) (by omega)
  have hc : decide (cnt 10 (t.take lo) > cnt 10 (t.take q)) = false := decide_eq_false (by omega)
  have hE : ∀ {r : R5}, Ev (bodyW t (cnt 10 (t.take lo)) (beg t lo : Int) false (fun k => lines_Start.f k t (cnt 10 (t.take q) + 1))) r → Ev (fun k => extent_Whole.f k t (cnt 10 (t.take lo)) (cnt 10 (t.take q))) r := by
    intro r h
    refine Ev.bind s1 (Ev.bind s2 (Ev.pos rfl (Ev.pos rfl ?_)))
    rw [hc]
    exact Ev.step (f := bodyW t (cnt 10 (t.take lo)) (beg t lo : Int) false (fun k => lines_Start.f k t (wrap64 (cnt 10 (t.take q) + 1)))) (fun k => rfl) (by rw [hw]; exact h)
  clear s1 s2 hw hc
  by_cases hf : fin t q < t.length
  · rw [startR_some (t := t) _ c0 _ (sg_next hf)] at n3
    have hg := fin_ge t q
    exact ⟨_, hE (bodyW_next n3), _, _, _, rfl, by omega, by omega, by omega, by omega, by omega, fun h => absurd h (by decide)⟩
  · rw [startR_none (t := t) _ c0 (sg_none h2 hf)] at n3
    by_cases ha : cnt 10 (t.take lo) > 0
    · have hp := hbeg ha
      refine ⟨_, hE (bodyW_lead (s' := ((beg t lo - 1 : Nat) : Int)) n3 ha ?_), _, _, _, rfl, by omega, by omega, by omega, by omega, by omega, fun _ => ⟨by omega, ?_⟩⟩
      · rw [wrap64_id (by omega) (by omega)]; omega
      · rw [rd_nat]
        rcases beg_st t lo with e | e
        · omega
        · exact e
    · exact ⟨_, hE (bodyW_all n3 ha), _, _, _, rfl, by omega, by omega, by omega, by omega, by omega, fun h => absurd h (by decide)⟩
omit hu hl in
def opOk (op : ByteArray) : Prop := ¬ op.toList = ([62] : List UInt8) ∧ ¬ op.toList = ([60] : List UInt8)
end
/-- What a range keeps that an operator takes: of the text, about both ends. -/
def Good (t : List Int) (lo hi kind : Int) (op : ByteArray) (r : R5) : Prop := ∃ a b L d, r = (a, b, L, d, 0) ∧ 0 ≤ a ∧ a ≤ b ∧ b ≤ (t.length : Int) ∧ a ≤ lo ∧ (d = true → L = true ∧ a < (t.length : Int) ∧ rd t a = 10) ∧ (L = true → hi ≤ b ∨ (0 < hi ∧ rd t (hi - 1) = 10)) ∧ (L = false → a = lo ∧ d = false ∧ ¬ kind = 3 ∧ opOk op ∧ ((hi ≤ b ∧ b ≤ hi + 1) ∨ (b = hi - 1 ∧ 0 < hi ∧ rd t (hi - 1) = 10 ∧ kind = 1)))
theorem good_whole {t : List Int} {lo hi q kind : Int} {op : ByteArray} {r : R5} (h : WP t lo q r) (hq : hi ≤ q ∨ (0 < hi ∧ rd t (hi - 1) = 10)) : Good t lo hi kind op r := by
  obtain ⟨a, b, d, e, h1, h2, h3, h4, h5, h6⟩ := h
  refine ⟨a, b, true, d, e, h1, h2, h3, h4, fun h => ⟨rfl, h6 h⟩, fun _ => ?_, fun h => absurd h (by decide)⟩
  rcases hq with h | h
  · exact .inl (by omega)
  · exact .inr h
theorem good_bytes {t : List Int} {lo hi b kind : Int} {op : ByteArray} (h0 : 0 ≤ lo) (h1 : lo ≤ b) (h2 : b ≤ (t.length : Int)) (hk : ¬ kind = 3) (ho : opOk op) (hb : (hi ≤ b ∧ b ≤ hi + 1) ∨ (b = hi - 1 ∧ 0 < hi ∧ rd t (hi - 1) = 10 ∧ kind = 1)) : Good t lo hi kind op (lo, b, false, false, 0) :=
  ⟨lo, b, false, false, rfl, h0, h1, h2, Int.le_refl _, fun h => absurd h (by decide), fun h => absurd h (by decide), fun _ => ⟨rfl, rfl, hk, ho, hb⟩⟩
section
variable {t : List Int} (hu : u8s t = true) (hl : t.length ≤ 140737488355328)
include hu hl
/-- A target that ends behind a line end. -/
theorem good_j2 (lo hi : Nat) (h1 : lo < hi) (h2 : hi ≤ t.length) (hx : rd t ((hi : Int) - 1) = 10) (kind : Int) (hk : kind = 1) (op : ByteArray) (ho : opOk op) : ∃ r, Ev (fun k => extent_Of.j2 k t (lo : Int) (hi : Int) (cnt 10 (t.take lo)) (cnt 10 (t.take hi)) false) r ∧ Good t (lo : Int) (hi : Int) kind op r := by
  have hb := beg_le t lo
  have hs := Start_of hu hl (p := lo) (by omega)
  have hw : wrap64 ((hi : Int) - 1) = (hi : Int) - 1 := wrap64_id (by omega) (by omega)
  have hc : wrap64 (cnt 10 (t.take hi) - 1) = cnt 10 (t.take (hi - 1)) := by
    have h3 := cnt_take_succ (t := t) (n := hi - 1) (by omega)
    rw [show hi - 1 + 1 = hi from by omega] at h3
    rw [show (hi : Int) - 1 = ((hi - 1 : Nat) : Int) from by omega, rd_nat] at hx
    rw [if_pos hx] at h3
    have h4 := cnt_nonneg 10 (t.take (hi - 1))
    have h5 := cnt_le 10 (t.take hi)
    have h6 := List.length_take_le hi t
    rw [wrap64_id (by omega) (by omega)]
    omega
  cases hbl : isblank ((t.take lo).drop (beg t lo)) with
  | true =>
    obtain ⟨r, r1, r2⟩ := Whole_at hu hl lo (hi - 1) (by omega) (by omega)
    refine ⟨r, Ev.step (f := fun k => (lines_Start.f k t (cnt 10 (t.take lo))).bind fun bt135 => (if 0 ≤ bt135.1 then (if bt135.1 ≤ (lo : Int) then (if (lo : Int) ≤ (t.length : Int) then ((extent_blank.f ((t.take (lo : Int).toNat).drop (bt135.1 : Int).toNat)).bind fun t138 => (if t138 = true then ((extent_Whole.f k t (cnt 10 (t.take lo)) (wrap64 (cnt 10 (t.take hi) - 1))).bind fun bt139 => (some (bt139.1, bt139.2.1, bt139.2.2.1, bt139.2.2.2.1, bt139.2.2.2.2))) else (some ((lo : Int), wrap64 ((hi : Int) - 1), false, false, 0)))) else (none)) else (none)) else (none))) (fun k => rfl) (Ev.bind hs (Ev.pos (by omega) (Ev.pos (by omega) (Ev.pos (by omega) (Ev.cbind (a := true) (by rw [Int.toNat_natCast, Int.toNat_natCast]; unfold extent_blank.f; rw [hbl]) (Ev.pos rfl ?_)))))), good_whole r2 (.inr ⟨by omega, hx⟩)⟩
    rw [hc]
    exact Ev.done r1 rfl
  | false =>
    refine ⟨((lo : Int), (hi : Int) - 1, false, false, 0), Ev.step (f := fun k => (lines_Start.f k t (cnt 10 (t.take lo))).bind fun bt135 => (if 0 ≤ bt135.1 then (if bt135.1 ≤ (lo : Int) then (if (lo : Int) ≤ (t.length : Int) then ((extent_blank.f ((t.take (lo : Int).toNat).drop (bt135.1 : Int).toNat)).bind fun t138 => (if t138 = true then ((extent_Whole.f k t (cnt 10 (t.take lo)) (wrap64 (cnt 10 (t.take hi) - 1))).bind fun bt139 => (some (bt139.1, bt139.2.1, bt139.2.2.1, bt139.2.2.2.1, bt139.2.2.2.2))) else (some ((lo : Int), wrap64 ((hi : Int) - 1), false, false, 0)))) else (none)) else (none)) else (none))) (fun k => rfl) (Ev.bind hs (Ev.pos (by omega) (Ev.pos (by omega) (Ev.pos (by omega) (Ev.cbind (a := false) (by rw [Int.toNat_natCast, Int.toNat_natCast]; unfold extent_blank.f; rw [hbl]) (Ev.neg (by decide) (by rw [hw]; exact Ev.now _))))))), good_bytes (by omega) (by omega) (by omega) (by omega) ho (.inr ⟨rfl, by omega, hx, hk⟩)⟩
omit hu hl in
theorem plain_j2 (lo hi c1 c2 : Int) : Ev (fun k => extent_Of.j2 k t lo hi c1 c2 true) (lo, hi, false, false, 0) :=
  Ev.step (f := fun _ => some (lo, hi, false, false, 0)) (fun _ => rfl) (Ev.now _)
abbrev bodyJ1 (t : List Int) (lo hi c1 c2 kind : Int) : Nat → Option R5 := fun k => if kind = 2 then (if hi < (t.length : Int) then (if 0 ≤ hi then (if (rd t hi) = 10 then (some (lo, hi, false, false, 0)) else (some (lo, wrap64 (hi + 1), false, false, 0))) else (none)) else (some (lo, hi, false, false, 0))) else (if c1 = c2 then (extent_Of.j2 k t lo hi c1 c2 true) else (if 0 ≤ (wrap64 (hi - 1)) then (if (wrap64 (hi - 1)) < (t.length : Int) then (extent_Of.j2 k t lo hi c1 c2 ((rd t (wrap64 (hi - 1))) != 10)) else (none)) else (none)))
theorem good_j1 (lo hi : Nat) (h1 : lo ≤ hi) (h2 : hi ≤ t.length) (kind : Int) (hk : kind = 1 ∨ kind = 2) (op : ByteArray) (ho : opOk op) : ∃ r, (∀ a b, Ev (fun k => extent_Of.j1 k t (lo : Int) (hi : Int) (cnt 10 (t.take lo)) (cnt 10 (t.take hi)) false a b kind) r) ∧ Good t (lo : Int) (hi : Int) kind op r := by
  have hE : ∀ {r : R5}, Ev (bodyJ1 t (lo : Int) (hi : Int) (cnt 10 (t.take lo)) (cnt 10 (t.take hi)) kind) r → ∀ a b, Ev (fun k => extent_Of.j1 k t (lo : Int) (hi : Int) (cnt 10 (t.take lo)) (cnt 10 (t.take hi)) false a b kind) r := fun h a b => Ev.step (f := bodyJ1 t (lo : Int) (hi : Int) (cnt 10 (t.take lo)) (cnt 10 (t.take hi)) kind) (fun k => rfl) h
  by_cases k2 : kind = 2
  · by_cases hh : (hi : Int) < (t.length : Int)
    · by_cases hx : rd t (hi : Int) = 10
      · exact ⟨_, hE (Ev.pos k2 (Ev.pos hh (Ev.pos (by omega) (Ev.pos hx (Ev.now _))))), good_bytes (by omega) (by omega) (by omega) (by omega) ho (.inl ⟨by omega, by omega⟩)⟩
      · exact ⟨((lo : Int), (hi : Int) + 1, false, false, 0), hE (Ev.pos k2 (Ev.pos hh (Ev.pos (by omega) (Ev.neg hx (by rw [wrap64_id (n := (hi : Int) + 1) (by omega) (by omega)]; exact Ev.now _))))), good_bytes (by omega) (by omega) (by omega) (by omega) ho (.inl ⟨by omega, by omega⟩)⟩
    · exact ⟨_, hE (Ev.pos k2 (Ev.neg hh (Ev.now _))), good_bytes (by omega) (by omega) (by omega) (by omega) ho (.inl ⟨by omega, by omega⟩)⟩
  · by_cases he : cnt 10 (t.take lo) = cnt 10 (t.take hi)
    · exact ⟨_, hE (Ev.neg k2 (Ev.pos he (plain_j2 _ _ _ _))), good_bytes (by omega) (by omega) (by omega) (by omega) ho (.inl ⟨by omega, by omega⟩)⟩
    · have hlt : lo < hi := by
        rcases Nat.lt_or_eq_of_le h1 with h | h
        · exact h
        · exact absurd (by rw [h]) he
      have hw : wrap64 ((hi : Int) - 1) = (hi : Int) - 1 := wrap64_id (by omega) (by omega)
      by_cases hx : rd t ((hi : Int) - 1) = 10
      · obtain ⟨r, r1, r2⟩ := good_j2 hu hl lo hi hlt h2 hx kind (by omega) op ho
        refine ⟨r, hE (Ev.neg k2 (Ev.neg he ?_)), r2⟩
        rw [hw, bne_eq_false_iff_eq.2 hx]
        exact Ev.pos (by omega) (Ev.pos (by omega) r1)
      · refine ⟨((lo : Int), (hi : Int), false, false, 0), hE (Ev.neg k2 (Ev.neg he ?_)), good_bytes (by omega) (by omega) (by omega) (by omega) ho (.inl ⟨by omega, by omega⟩)⟩
        rw [hw, bne_iff_ne.2 hx]
        exact Ev.pos (by omega) (Ev.pos (by omega) (plain_j2 _ _ _ _))
theorem good_j1w (lo hi : Nat) (h1 : lo ≤ hi) (h2 : hi ≤ t.length) (kind : Int) (op : ByteArray) : ∃ r, (∀ a b, Ev (fun k => extent_Of.j1 k t (lo : Int) (hi : Int) (cnt 10 (t.take lo)) (cnt 10 (t.take hi)) true a b kind) r) ∧ Good t (lo : Int) (hi : Int) kind op r := by
  obtain ⟨r, r1, r2⟩ := Whole_at hu hl lo hi h1 h2
  exact ⟨r, fun a b => Ev.step (f := fun k => (extent_Whole.f k t (cnt 10 (t.take lo)) (cnt 10 (t.take hi))).bind fun bt128 => (some (bt128.1, bt128.2.1, bt128.2.2.1, bt128.2.2.2.1, bt128.2.2.2.2))) (fun k => rfl) (Ev.done r1 rfl), good_whole r2 (.inl (Int.le_refl _))⟩
theorem good_j0 (lo hi : Nat) (h1 : lo ≤ hi) (h2 : hi ≤ t.length) (kind : Int) (hk1 : ¬ kind < 1) (hk3 : ¬ kind > 3) (op : ByteArray) : ∃ r, (∀ a b, Ev (fun k => extent_Of.j0 k t op (lo : Int) (hi : Int) (cnt 10 (t.take lo)) (cnt 10 (t.take hi)) false a b kind) r) ∧ Good t (lo : Int) (hi : Int) kind op r := by
  have hE : ∀ (w : Bool) (r : R5), (∀ k a b, (if kind = 3 then (extent_Of.j1 k t (lo : Int) (hi : Int) (cnt 10 (t.take lo)) (cnt 10 (t.take hi)) true a b kind) else (if op.toList = ([62] : List UInt8) then (extent_Of.j1 k t (lo : Int) (hi : Int) (cnt 10 (t.take lo)) (cnt 10 (t.take hi)) true a b kind) else (extent_Of.j1 k t (lo : Int) (hi : Int) (cnt 10 (t.take lo)) (cnt 10 (t.take hi)) (op.toList == ([60] : List UInt8)) a b kind))) = extent_Of.j1 k t (lo : Int) (hi : Int) (cnt 10 (t.take lo)) (cnt 10 (t.take hi)) w a b kind) → (∀ a b, Ev (fun k => extent_Of.j1 k t (lo : Int) (hi : Int) (cnt 10 (t.take lo)) (cnt 10 (t.take hi)) w a b kind) r) → ∀ a b, Ev (fun k => extent_Of.j0 k t op (lo : Int) (hi : Int) (cnt 10 (t.take lo)) (cnt 10 (t.take hi)) false a b kind) r :=
    fun w r e h a b => Ev.step (f := fun k => extent_Of.j1 k t (lo : Int) (hi : Int) (cnt 10 (t.take lo)) (cnt 10 (t.take hi)) w a b kind) (fun k => e k a b) (h a b)
  obtain ⟨r, r1, r2⟩ := good_j1w hu hl lo hi h1 h2 kind op
  by_cases h3 : kind = 3
  · exact ⟨r, hE true r (fun k a b => if_pos h3) r1, r2⟩
  · by_cases h62 : op.toList = ([62] : List UInt8)
    · exact ⟨r, hE true r (fun k a b => (if_neg h3).trans (if_pos h62)) r1, r2⟩
    · by_cases h60 : op.toList = ([60] : List UInt8)
      · exact ⟨r, hE true r (fun k a b => (if_neg h3).trans ((if_neg h62).trans (by rw [beq_iff_eq.2 h60]))) r1, r2⟩
      · obtain ⟨r, r1, r2⟩ := good_j1 hu hl lo hi h1 h2 kind (by omega) op ⟨h62, h60⟩
        exact ⟨r, hE false r (fun k a b => (if_neg h3).trans ((if_neg h62).trans (by rw [beq_eq_false_iff_ne.2 h60]))) r1, r2⟩
/-- A target and its opposite have one range. -/
theorem Of_good (a b kind : Int) (op : ByteArray) : ∃ r, Ev (fun k => extent_Of.f k t a b kind op) r ∧ Ev (fun k => extent_Of.f k t b a kind op) r ∧ (r = (0, 0, false, false, 2) ∨ (0 ≤ mx a b ∧ mx a b ≤ (t.length : Int) ∧ Good t (mn a b) (mx a b) kind op r)) := by
  have hle : mn a b ≤ mx a b := by unfold mn mx; split <;> split <;> omega
  have e1 : mn b a = mn a b := by rw [mn_eq, mn_eq]; omega
  have e2 : mx b a = mx a b := by rw [mx_eq, mx_eq]; omega
  generalize hlo : mn a b = lo at hle e1
  generalize hhi : mx a b = hi at hle e2
  have q1 : lines_Of.f t lo = some (ofR t lo) := Of_eq hu lo
  have q2 : lines_Of.f t hi = some (ofR t hi) := Of_eq hu hi
  have hE : ∀ {r : R5}, (∀ a b, Ev (fun k => if (ofR t lo).2 = 0 then (if (ofR t hi).2 = 0 then (if kind < 1 then (extent_Of.j0 k t op lo hi (ofR t lo).1 (ofR t hi).1 true a b kind) else (if kind > 3 then (extent_Of.j0 k t op lo hi (ofR t lo).1 (ofR t hi).1 true a b kind) else ((slices_Contains_string_string.f k names14 op).bind fun t127 => (extent_Of.j0 k t op lo hi (ofR t lo).1 (ofR t hi).1 (!t127) a b kind)))) else (extent_Of.j0 k t op lo hi (ofR t lo).1 (ofR t hi).1 true a b kind)) else (extent_Of.j0 k t op lo hi (ofR t lo).1 (ofR t hi).1 true a b kind)) r) → Ev (fun k => extent_Of.f k t a b kind op) r ∧ Ev (fun k => extent_Of.f k t b a kind op) r := by
    intro r h
    constructor
    · unfold extent_Of.f
      rw [hlo, hhi]
      exact Ev.cbind q1 (Ev.cbind q2 (h a b))
    · unfold extent_Of.f
      rw [e1, e2]
      exact Ev.cbind q1 (Ev.cbind q2 (h b a))
  have hF : ∀ {r : R5} {p : Prop}, (∀ a b, Ev (fun k => if (ofR t lo).2 = 0 then (if (ofR t hi).2 = 0 then (if kind < 1 then (extent_Of.j0 k t op lo hi (ofR t lo).1 (ofR t hi).1 true a b kind) else (if kind > 3 then (extent_Of.j0 k t op lo hi (ofR t lo).1 (ofR t hi).1 true a b kind) else ((slices_Contains_string_string.f k names14 op).bind fun t127 => (extent_Of.j0 k t op lo hi (ofR t lo).1 (ofR t hi).1 (!t127) a b kind)))) else (extent_Of.j0 k t op lo hi (ofR t lo).1 (ofR t hi).1 true a b kind)) else (extent_Of.j0 k t op lo hi (ofR t lo).1 (ofR t hi).1 true a b kind)) r) → p → Ev (fun k => extent_Of.f k t a b kind op) r ∧ Ev (fun k => extent_Of.f k t b a kind op) r ∧ p := fun h k => ⟨(hE h).1, (hE h).2, k⟩
  have b1 := fun (c1 c2 a b : Int) => Of_bad (t := t) op lo hi c1 c2 a b kind
  have n0 : ∀ {x : Int}, ¬ (0 ≤ x ∧ x ≤ (t.length : Int)) → ¬ (ofR t x).2 = 0 := by
    intro x h
    unfold ofR
    rw [if_neg h]
    decide
  have n1 : ∀ {x : Int}, (0 ≤ x ∧ x ≤ (t.length : Int)) → ofR t x = (cnt 10 (t.take x.toNat), 0) := by
    intro x h
    unfold ofR
    rw [if_pos h]
  by_cases g1 : 0 ≤ lo ∧ lo ≤ (t.length : Int)
  · by_cases g2 : 0 ≤ hi ∧ hi ≤ (t.length : Int)
    · have z1 : (ofR t lo).2 = 0 := by rw [n1 g1]
      have z2 : (ofR t hi).2 = 0 := by rw [n1 g2]
      by_cases g3 : kind < 1
      · exact ⟨_, hF (fun a b => Ev.pos z1 (Ev.pos z2 (Ev.pos g3 (b1 _ _ a b)))) (.inl rfl)⟩
      · by_cases g4 : kind > 3
        · exact ⟨_, hF (fun a b => Ev.pos z1 (Ev.pos z2 (Ev.neg g3 (Ev.pos g4 (b1 _ _ a b))))) (.inl rfl)⟩
        · obtain ⟨kn, k1⟩ := known_ev op
          cases kn with
          | false => exact ⟨_, hF (fun a b => Ev.pos z1 (Ev.pos z2 (Ev.neg g3 (Ev.neg g4 (Ev.bind k1 (b1 _ _ a b)))))) (.inl rfl)⟩
          | true =>
            obtain ⟨r, r1, r2⟩ := good_j0 hu hl lo.toNat hi.toNat (by omega) (by omega) kind g3 g4 op
            rw [show ((lo.toNat : Nat) : Int) = lo from by omega, show ((hi.toNat : Nat) : Int) = hi from by omega] at r1 r2
            refine ⟨r, hF (fun a b => Ev.pos z1 (Ev.pos z2 (Ev.neg g3 (Ev.neg g4 (Ev.bind k1 ?_))))) (.inr ⟨g2.1, g2.2, r2⟩)⟩
            rw [n1 g1, n1 g2]
            exact r1 a b
    · exact ⟨_, hF (fun a b => Ev.pos (by rw [n1 g1]) (Ev.neg (n0 g2) (b1 _ _ a b))) (.inl rfl)⟩
  · exact ⟨_, hF (fun a b => Ev.neg (n0 g1) (b1 _ _ a b)) (.inl rfl)⟩
end
section
variable {t : List Int} (hl : t.length < 140737488355328)
include hl
theorem clone_ev (a b : Nat) : slices_Clone_byte_byte.f ((t.take b).drop a) = some ((t.take b).drop a) := by
  unfold slices_Clone_byte_byte.f
  rw [if_pos (by rw [List.length_drop, List.length_take]; omega)]
omit hl in
/-- The bytes with a line end behind them. -/
theorem tail_ev (u : List Int) (hu : u.length < 140737488355328) : ∃ w, (if (u.length : Int) = 0 then (if u.length < 140737488355328 then (some (true, true, (u ++ [10]), (0 : Int))) else (none)) else (if 0 ≤ (wrap64 ((u.length : Int) - 1)) then (if (wrap64 ((u.length : Int) - 1)) < (u.length : Int) then (if (rd u (wrap64 ((u.length : Int) - 1))) = 10 then (some (true, true, u, 0)) else (if u.length < 140737488355328 then (some (true, true, (u ++ [10]), 0)) else (none))) else (none)) else (none))) = some (true, true, w, 0) := by
  by_cases h0 : (u.length : Int) = 0
  · rw [if_pos h0, if_pos hu]
    exact ⟨_, rfl⟩
  · rw [if_neg h0, wrap64_id (by omega) (by omega), if_pos (by omega), if_pos (by omega)]
    by_cases hx : rd u ((u.length : Int) - 1) = 10
    · rw [if_pos hx]
      exact ⟨_, rfl⟩
    · rw [if_neg hx, if_pos hu]
      exact ⟨_, rfl⟩
abbrev bodyT1 (t : List Int) (x y : Int) : Nat → Option (Bool × Bool × List Int × Int) := fun _ => if 0 ≤ (wrap64 (x + 1)) then (if (wrap64 (x + 1)) ≤ (mx (wrap64 (x + 1)) y) then (if (mx (wrap64 (x + 1)) y) ≤ (t.length : Int) then ((slices_Clone_byte_byte.f ((t.take ((mx (wrap64 (x + 1)) y) : Int).toNat).drop ((wrap64 (x + 1)) : Int).toNat)).bind fun t153 => (if true = true then (if t153.length < 140737488355328 then (some (true, true, (t153 ++ [10]), 0)) else (none)) else (if (t153.length : Int) = 0 then (if t153.length < 140737488355328 then (some (true, true, (t153 ++ [10]), 0)) else (none)) else (if 0 ≤ (wrap64 ((t153.length : Int) - 1)) then (if (wrap64 ((t153.length : Int) - 1)) < (t153.length : Int) then (if (rd t153 (wrap64 ((t153.length : Int) - 1))) = 10 then (some (true, true, t153, 0)) else (if t153.length < 140737488355328 then (some (true, true, (t153 ++ [10]), 0)) else (none))) else (none)) else (none))))) else (none)) else (none)) else (none)
omit hl in
theorem T1_step {x y : Int} {r : Bool × Bool × List Int × Int} (h : Ev (bodyT1 t x y) r) : Ev (fun k => extent_Take.j1 k t false x y true true) r := Ev.step (f := bodyT1 t x y) (fun _ => rfl) h
theorem Take_j1 (a b : Nat) (h2 : b ≤ t.length) (h3 : a < t.length) : ∃ w, Ev (fun k => extent_Take.j1 k t false (a : Int) (b : Int) true true) (true, true, w, 0) := by
  obtain ⟨m, m1, m2, m3⟩ : ∃ m : Nat, max (((a + 1 : Nat) : Int)) (b : Int) = (m : Int) ∧ a + 1 ≤ m ∧ m ≤ t.length := ⟨max (a + 1) b, by omega, by omega, by omega⟩
  have hw : wrap64 ((a : Int) + 1) = ((a + 1 : Nat) : Int) := by rw [wrap64_id (by omega) (by omega)]; omega
  have hm : mx (wrap64 ((a : Int) + 1)) (b : Int) = (m : Int) := by rw [hw, mx_eq, m1]
  have hc := clone_ev hl (a + 1) m
  have hn : ((t.take m).drop (a + 1)).length < 140737488355328 := by rw [List.length_drop, List.length_take]; omega
  refine ⟨(t.take m).drop (a + 1) ++ [10], T1_step ?_⟩
  unfold bodyT1
  rw [hm, hw, Int.toNat_natCast, Int.toNat_natCast]
  clear hm hw
  exact Ev.pos (by omega) (Ev.pos (by omega) (Ev.pos (by omega) (Ev.cbind hc (Ev.pos rfl (Ev.pos hn (Ev.now _))))))
theorem Take_j0 (a b : Nat) (h1 : a ≤ b) (h2 : b ≤ t.length) (L d : Bool) (hd : d = true → L = true ∧ a < t.length ∧ rd t (a : Int) = 10) : ∃ v w, Ev (fun k => extent_Take.j0 k t false (a : Int) (b : Int) L d) (true, v, w, 0) := by
  have hc := clone_ev hl a b
  have hn : ((t.take b).drop a).length < 140737488355328 := by rw [List.length_drop, List.length_take]; omega
  cases L with
  | false =>
    refine ⟨false, (t.take b).drop a, Ev.step (f := fun _ => if 0 ≤ (a : Int) then (if (a : Int) ≤ (b : Int) then (if (b : Int) ≤ (t.length : Int) then ((slices_Clone_byte_byte.f ((t.take ((b : Int)).toNat).drop ((a : Int)).toNat)).bind fun t147 => (some (true, false, t147, 0))) else (none)) else (none)) else (none)) (fun _ => rfl) ?_⟩
    rw [Int.toNat_natCast, Int.toNat_natCast]
    exact Ev.pos (by omega) (Ev.pos (by omega) (Ev.pos (by omega) (Ev.cbind hc (Ev.now _))))
  | true =>
    cases d with
    | true =>
      obtain ⟨_, g1, g2⟩ := hd rfl
      obtain ⟨w, hw⟩ := Take_j1 hl a b h2 g1
      refine ⟨true, w, Ev.step (f := fun k => if 0 ≤ (a : Int) then (if (a : Int) ≤ (b : Int) then (if (b : Int) ≤ (t.length : Int) then (if (a : Int) = (t.length : Int) then (extent_Take.j1 k t true (a : Int) (b : Int) true true) else (if (a : Int) < (t.length : Int) then (extent_Take.j1 k t ((rd t (a : Int)) != 10) (a : Int) (b : Int) true true) else (none))) else (none)) else (none)) else (none)) (fun _ => rfl) (Ev.pos (by omega) (Ev.pos (by omega) (Ev.pos (by omega) (Ev.neg (by omega) (Ev.pos (by omega) ?_)))))⟩
      rw [bne_eq_false_iff_eq.2 g2]
      exact hw
    | false =>
      obtain ⟨w, hw⟩ := tail_ev ((t.take b).drop a) hn
      refine ⟨true, w, Ev.step (f := fun _ => if 0 ≤ (a : Int) then (if (a : Int) ≤ (b : Int) then (if (b : Int) ≤ (t.length : Int) then ((slices_Clone_byte_byte.f ((t.take ((b : Int)).toNat).drop ((a : Int)).toNat)).bind fun t166 => (if (t166.length : Int) = 0 then (if t166.length < 140737488355328 then (some (true, true, (t166 ++ [10]), 0)) else (none)) else (if 0 ≤ (wrap64 ((t166.length : Int) - 1)) then (if (wrap64 ((t166.length : Int) - 1)) < (t166.length : Int) then (if (rd t166 (wrap64 ((t166.length : Int) - 1))) = 10 then (some (true, true, t166, 0)) else (if t166.length < 140737488355328 then (some (true, true, (t166 ++ [10]), 0)) else (none))) else (none)) else (none)))) else (none)) else (none)) else (none)) (fun _ => rfl) ?_⟩
      rw [Int.toNat_natCast, Int.toNat_natCast]
      exact Ev.pos (by omega) (Ev.pos (by omega) (Ev.pos (by omega) (Ev.cbind hc (Ev.const hw))))
theorem Take_ok (a b : Int) (L d : Bool) (h0 : 0 ≤ a) (h1 : a ≤ b) (h2 : b ≤ (t.length : Int)) (hd : d = true → L = true ∧ a < (t.length : Int) ∧ rd t a = 10) : ∃ v w, Ev (fun k => extent_Take.f k t a b L d) (true, v, w, 0) := by
  obtain ⟨a, rfl⟩ := Int.eq_ofNat_of_zero_le h0
  obtain ⟨b, rfl⟩ := Int.eq_ofNat_of_zero_le (a := b) (by omega)
  obtain ⟨v, w, h⟩ := Take_j0 hl a b (by omega) (by omega) L d (fun e => by have := hd e; exact ⟨this.1, by omega, this.2.2⟩)
  refine ⟨v, w, Ev.neg (by omega) (Ev.neg (by omega) ?_)⟩
  rw [decide_eq_false (by omega)]
  exact h
end
section
variable {t : List Int}
theorem Either_j1 {lo hi kind a b : Int} {L d : Bool} {op : ByteArray} (p q : Int) (hh : hi ≤ (t.length : Int)) (h0 : 0 ≤ hi) (hl : t.length < 140737488355328) (hL : L = true → hi ≤ b ∨ (0 < hi ∧ rd t (hi - 1) = 10)) (hB : L = false → a = lo ∧ d = false ∧ ¬ kind = 3 ∧ opOk op ∧ ((hi ≤ b ∧ b ≤ hi + 1) ∨ (b = hi - 1 ∧ 0 < hi ∧ rd t (hi - 1) = 10 ∧ kind = 1))) : Ev (fun k => quoinlaw14_ExtentEither.j1 k t op lo hi false p q kind a b L d) true := by
  have hw : wrap64 (hi - 1) = hi - 1 := wrap64_id (by omega) (by omega)
  have hw' : wrap64 (hi + 1) = hi + 1 := wrap64_id (by omega) (by omega)
  cases L with
  | true =>
    refine Ev.step (f := fun _ => if b ≥ hi then (some true) else (if hi > 0 then (if 0 ≤ (wrap64 (hi - 1)) then (if (wrap64 (hi - 1)) < (t.length : Int) then (some ((rd t (wrap64 (hi - 1))) == 10)) else (none)) else (none)) else (some false))) (fun _ => rfl) ?_
    rw [hw]
    clear hw hw'
    by_cases h : b ≥ hi
    · exact Ev.pos h (Ev.now _)
    · rcases hL rfl with g | ⟨g1, g2⟩
      · exact absurd g h
      · exact Ev.neg h (Ev.pos g1 (Ev.pos (by omega) (Ev.pos (by omega) (Ev.const (by rw [beq_iff_eq.2 g2])))))
  | false =>
    obtain ⟨e1, e2, e3, e4, e5⟩ := hB rfl
    subst e1
    subst e2
    refine Ev.step (f := fun _ => if kind = 3 then (some false) else (if op.toList = ([62] : List UInt8) then (some false) else (if op.toList = ([60] : List UInt8) then (some false) else (if a = a then (if b ≥ hi then (if b ≤ (wrap64 (hi + 1)) then (some true) else (if b = (wrap64 (hi - 1)) then (if 0 ≤ (wrap64 (hi - 1)) then (if (wrap64 (hi - 1)) < (t.length : Int) then (if (rd t (wrap64 (hi - 1))) = 10 then (some (kind == 1)) else (some false)) else (none)) else (none)) else (some false))) else (if b = (wrap64 (hi - 1)) then (if 0 ≤ (wrap64 (hi - 1)) then (if (wrap64 (hi - 1)) < (t.length : Int) then (if (rd t (wrap64 (hi - 1))) = 10 then (some (kind == 1)) else (some false)) else (none)) else (none)) else (some false))) else (some false))))) (fun _ => rfl) ?_
    rw [hw, hw']
    clear hw hw'
    refine Ev.neg e3 (Ev.neg e4.1 (Ev.neg e4.2 (Ev.pos rfl ?_)))
    rcases e5 with ⟨g1, g2⟩ | ⟨g1, g2, g3, g4⟩
    · exact Ev.pos g1 (Ev.pos g2 (Ev.now _))
    · exact Ev.neg (by omega) (Ev.pos g1 (Ev.pos (by omega) (Ev.pos (by omega) (Ev.pos g3 (Ev.const (by rw [beq_iff_eq.2 g4]))))))
theorem Either_j0 {kind p q : Int} {op : ByteArray} (hl : t.length < 140737488355328) {a b : Int} {L d : Bool} (g1 : 0 ≤ a) (g2 : a ≤ b) (g3 : b ≤ (t.length : Int)) (g4 : a ≤ mn p q) (g5 : d = true → L = true ∧ a < (t.length : Int) ∧ rd t a = 10) (hj : Ev (fun k => quoinlaw14_ExtentEither.j1 k t op (mn p q) (mx p q) false p q kind a b L d) true) : Ev (fun k => quoinlaw14_ExtentEither.j0 k t op 0 false p q kind a b L d) true := by
  obtain ⟨v, w, hT⟩ := Take_ok hl a b L d g1 g2 g3 g5
  refine Ev.step (f := fun k => (extent_Take.f k t a b L d).bind fun bt348 => (if bt348.2.2.2 = 0 then (if a < 0 then (quoinlaw14_ExtentEither.j1 k t op (mn p q) (mx p q) true p q kind a b L d) else (if b > (t.length : Int) then (quoinlaw14_ExtentEither.j1 k t op (mn p q) (mx p q) true p q kind a b L d) else (if a > (mn p q) then (quoinlaw14_ExtentEither.j1 k t op (mn p q) (mx p q) true p q kind a b L d) else (quoinlaw14_ExtentEither.j1 k t op (mn p q) (mx p q) (decide (b < a)) p q kind a b L d)))) else (quoinlaw14_ExtentEither.j1 k t op (mn p q) (mx p q) true p q kind a b L d))) (fun _ => rfl) (Ev.bind hT (Ev.pos rfl (Ev.neg (by omega) (Ev.neg (by omega) (Ev.neg (by omega) ?_)))))
  rw [decide_eq_false (by omega)]
  exact hj
end
theorem ExtentEither : Say.ExtentEither := by
  rintro t ⟨a, b, kind⟩ op ht _ _
  have hu : u8s t = true := u8s_ok ht
  have hl : t.length < 140737488355328 := by have h1 : t.length * 1 ≤ 140737488351232 := ht.1; omega
  refine Ev.rounds (g := fun k => quoinlaw14_ExtentEither.f k t a b kind op) ?_
  obtain ⟨r, r1, r2, r3⟩ := Of_good hu (by omega) a b kind op
  refine Ev.bind alive_ev (Ev.pos rfl (Ev.bind r1 (Ev.bind r2 (Ev.neg (by simp) ?_))))
  rw [bne_self_eq_false]
  rcases r3 with r3 | r3
  · subst r3
    exact Ev.step (f := fun _ => some true) (fun _ => rfl) (Ev.now _)
  · obtain ⟨n1, n2, x, y, L, d, rfl, h0, h1, h2, h3, h4, h5, h6⟩ := r3
    exact Either_j0 hl h0 h1 h2 h3 h4 (Either_j1 a b n2 n1 hl h5 h6)
end Go.Proofs.Ytlcdnpecoaamcaa.Pure
