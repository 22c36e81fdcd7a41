/-
  The reference of patterns, plainly: search.
-/
import Derived.Test.YtdhdngoeaneanaaDoorRTA
namespace Go.Proofs.YtdhdngoeaneanaaDoor.PT
open Go.RowKit Go.Proofs.YtdhdngoeaneanaaDoorW.PrintWords Go.Proofs.YtdhdngoeaneanaaDoorW.PrintMore
set_option linter.unusedVariables false
def leastV (a b : Int) : Int := if a < 0 then b else if b ≥ 0 then (if b < a then b else a) else a
/-- Does a thing let one pass that takes no byte? -/
def passB (line : List Int) : PTh → Int → Bool
  | .many _, _ => true
  | t, p => fW line t p
/-- The state of the inner loop. -/
structure SS where
  R : List Int
  a : Int
  b : Int
  ok : Bool
  live : Bool
def pass1 (line : List Int) (pl : List PTh) (p : Nat) (i : Nat) (s : SS) : SS :=
  if rd s.R (i : Int) < 0 then s
  else if s.ok = true ∧ rd s.R (i : Int) > s.a then { s with R := s.R.set i (-1) }
  else if i = pl.length then { s with a := rd s.R (i : Int), b := p, ok := true }
  else if passB line (pl.getD i .front) p = true then { s with R := s.R.set (i + 1) (leastV (rd s.R ((i : Int) + 1)) (rd s.R (i : Int))), live := true }
  else { s with live := true }
def passL (line : List Int) (pl : List PTh) (p : Nat) : Nat → Nat → SS → SS
  | 0, _, s => s
  | d + 1, i, s => passL line pl p d (i + 1) (pass1 line pl p i s)
/-- What a thing makes of a byte: where the next is (0: here, 1: behind), or none. -/
def eatB (line : List Int) (p : Nat) : PTh → Option Nat
  | .many S => if S (rd line (p : Int)).toNat = true then some 0 else none
  | .single S => if S (rd line (p : Int)).toNat = true then some 1 else none
  | _ => none
def eat1 (line : List Int) (pl : List PTh) (p : Nat) (R : List Int) (i : Nat) (N : List Int) : List Int :=
  if rd R (i : Int) < 0 then N
  else match eatB line p (pl.getD i .front) with
    | some k => N.set (i + k) (leastV (rd N ((i + k : Nat) : Int)) (rd R (i : Int)))
    | none => N
def eatL (line : List Int) (pl : List PTh) (p : Nat) (R : List Int) : Nat → Nat → List Int → List Int
  | 0, _, N => N
  | d + 1, i, N => eatL line pl p R d (i + 1) (eat1 line pl p R i N)
def outS (line : List Int) (pl : List PTh) (p : Nat) (R : List Int) (a b : Int) (ok : Bool) : SS :=
  passL line pl p (pl.length + 1) 0 ⟨if ok = true then R else R.set 0 (leastV (rd R 0) p), a, b, ok, false⟩
def outL (line : List Int) (pl : List PTh) : Nat → Nat → List Int → Int → Int → Bool → Int × Int × Bool
  | 0, _, _, a, b, ok => (a, b, ok)
  | d + 1, p, R, a, b, ok =>
    if p = line.length ∨ ((outS line pl p R a b ok).ok = true ∧ (outS line pl p R a b ok).live = false) then ((outS line pl p R a b ok).a, (outS line pl p R a b ok).b, (outS line pl p R a b ok).ok)
    else outL line pl d (p + 1) (eatL line pl p (outS line pl p R a b ok).R pl.length 0 (List.replicate (pl.length + 1) (-1))) (outS line pl p R a b ok).a (outS line pl p R a b ok).b (outS line pl p R a b ok).ok
def searchV (line : List Int) (pl : List PTh) (f : Int) : Int × Int × Bool :=
  if f < 0 ∨ f > line.length then (0, 0, false) else outL line pl (line.length + 1) f.toNat (List.replicate (pl.length + 1) (-1)) 0 0 false
/-! What the ends are, place by place. -/
def val (line : List Int) (pl : List PTh) (i p : Nat) : Int := rd (endsV line (pl.drop i)) (p : Int)
section
variable {line : List Int} {pl : List PTh}
theorem val_end {p : Nat} (hp : p ≤ line.length) : val line pl pl.length p = p := by
  unfold val
  rw [List.drop_eq_nil_of_le (Nat.le_refl _)]
  exact rd_gen _ (fun i : Nat => (i : Int)) (by omega)
theorem val_drop {i : Nat} (hi : i < pl.length) : endsV line (pl.drop i) = stepV line (pl.getD i .front) (endsV line (pl.drop (i + 1))) := by
  rw [List.drop_eq_getElem_cons hi, List.getD_eq_getElem?_getD, List.getElem?_eq_getElem hi]
  rfl
theorem val_single {i p : Nat} {S : Nat → Bool} (hi : i < pl.length) (ht : pl.getD i .front = .single S) (hp : p ≤ line.length) : val line pl i p = if p < line.length ∧ S (rd line (p : Int)).toNat = true then val line pl (i + 1) (p + 1) else -1 := by
  unfold val
  rw [val_drop hi, ht]
  exact rd_gen _ (fun i_1 : Nat => if i_1 < line.length ∧ S (rd line (i_1 : Int)).toNat = true then rd (endsV line (pl.drop (i + 1))) ((i_1 : Int) + 1) else -1) (by omega)
theorem mx_succ {S : Nat → Bool} {E : List Int} (d i : Nat) : mx line S E (d + 1) i = if S (rd line (i : Int)).toNat = true then max (rd E (i : Int)) (mx line S E d (i + 1)) else rd E (i : Int) := rfl
theorem val_many {i p : Nat} {S : Nat → Bool} (hi : i < pl.length) (ht : pl.getD i .front = .many S) (hp : p ≤ line.length) : val line pl i p = if p < line.length ∧ S (rd line (p : Int)).toNat = true then max (val line pl (i + 1) p) (val line pl i (p + 1)) else val line pl (i + 1) p := by
  have e : ∀ q : Nat, q ≤ line.length → val line pl i q = mx line S (endsV line (pl.drop (i + 1))) (line.length - q) q := by
    intro q hq
    unfold val
    rw [val_drop hi, ht]
    exact rd_gen _ (fun j : Nat => mx line S (endsV line (pl.drop (i + 1))) (line.length - j) j) (by omega)
  rw [e p hp]
  by_cases h : p < line.length
  · rw [e (p + 1) (by omega)]
    obtain ⟨d, hd⟩ : ∃ d, line.length - p = d + 1 := ⟨line.length - p - 1, by omega⟩
    rw [hd, show line.length - (p + 1) = d from by omega]
    rw [mx_succ]
    by_cases hs : S (rd line (p : Int)).toNat = true
    · rw [if_pos hs, if_pos ⟨h, hs⟩]
      rfl
    · rw [if_neg hs, if_neg (fun h2 => hs h2.2)]
      rfl
  · rw [if_neg (fun h2 => h h2.1), show line.length - p = 0 from by omega]
    rfl
theorem val_test {i p : Nat} (hi : i < pl.length) (h1 : ∀ S, pl.getD i .front ≠ .single S) (h2 : ∀ S, pl.getD i .front ≠ .many S) (hp : p ≤ line.length) : val line pl i p = if fW line (pl.getD i .front) p = true then val line pl (i + 1) p else -1 := by
  unfold val
  rw [val_drop hi]
  generalize pl.getD i .front = t at h1 h2
  have hm : stepV line t (endsV line (pl.drop (i + 1))) = mask (endsV line (pl.drop (i + 1))) (fW line t) line.length := by
    cases t with
    | single S => exact absurd rfl (h1 S)
    | many S => exact absurd rfl (h2 S)
    | _ => rfl
  rw [hm, mask_rd (by omega)]
theorem val_rng {i p : Nat} (hp : p ≤ line.length) : val line pl i p = -1 ∨ ((p : Int) ≤ val line pl i p ∧ val line pl i p ≤ line.length) := (endsV_fine line (pl.drop i)).2 p hp
/-! Soundness: what a state holds leads to a match. -/
def Snd (line : List Int) (pl : List PTh) (f p : Nat) (R : List Int) : Prop := R.length = pl.length + 1 ∧ ∀ i, i ≤ pl.length → 0 ≤ rd R (i : Int) → (f : Int) ≤ rd R (i : Int) ∧ rd R (i : Int) ≤ p ∧ val line pl i p ≤ val line pl 0 (rd R (i : Int)).toNat
theorem rd_set' {R : List Int} {k i : Nat} {v : Int} (hk : k < R.length) : rd (R.set k v) (i : Int) = if i = k then v else rd R (i : Int) := by
  rw [rd_set R (i := k) (i : Int) v (by omega) hk]
  by_cases e : i = k
  · rw [if_pos (by omega), if_pos e]
  · rw [if_neg (by omega), if_neg e]
theorem rd_rep {m i : Nat} (hi : i < m) : rd (List.replicate m (-1)) (i : Int) = -1 := by
  unfold rd
  rw [Int.toNat_natCast, List.getD_eq_getElem?_getD]
  simp [hi]
theorem least_two (a b : Int) : leastV a b = a ∨ leastV a b = b := by
  unfold leastV
  split
  · exact .inr rfl
  · split
    · split
      · exact .inr rfl
      · exact .inl rfl
    · exact .inl rfl
theorem least_le {a b : Int} (hb : 0 ≤ b) : 0 ≤ leastV a b ∧ leastV a b ≤ b ∧ (0 ≤ a → leastV a b ≤ a) := by
  unfold leastV
  by_cases h1 : a < 0
  · rw [if_pos h1]; omega
  · rw [if_neg h1, if_pos (show b ≥ 0 from hb)]
    by_cases h2 : b < a
    · rw [if_pos h2]; omega
    · rw [if_neg h2]; omega
theorem Snd.put {f p : Nat} {R : List Int} (h : Snd line pl f p R) {k : Nat} {v : Int} (hk : k ≤ pl.length) (hv : 0 ≤ v → (f : Int) ≤ v ∧ v ≤ p ∧ val line pl k p ≤ val line pl 0 v.toNat) : Snd line pl f p (R.set k v) := by
  refine ⟨by rw [List.length_set]; exact h.1, fun i hi h0 => ?_⟩
  rw [rd_set' (by have := h.1; omega)] at h0 ⊢
  by_cases e : i = k
  · rw [if_pos e] at h0 ⊢
    subst e
    exact hv h0
  · rw [if_neg e] at h0 ⊢
    exact h.2 i hi h0
theorem Snd.least {f p : Nat} {R : List Int} (h : Snd line pl f p R) {k : Nat} {v : Int} (hk : k ≤ pl.length) (h0 : 0 ≤ v) (hv : (f : Int) ≤ v ∧ v ≤ p ∧ val line pl k p ≤ val line pl 0 v.toNat) : Snd line pl f p (R.set k (leastV (rd R (k : Int)) v)) := by
  refine h.put hk (fun h1 => ?_)
  rcases least_two (rd R (k : Int)) v with e | e
  · rw [e] at h1 ⊢; exact h.2 k hk h1
  · rw [e]; exact hv
theorem pass_le {i p : Nat} (hi : i < pl.length) (hp : p ≤ line.length) (h : passB line (pl.getD i .front) p = true) : val line pl (i + 1) p ≤ val line pl i p := by
  cases ht : pl.getD i .front with
  | single S => rw [ht] at h; cases h
  | many S =>
    rw [val_many hi ht hp]
    split <;> omega
  | _ =>
    rw [val_test hi (by rw [ht]; simp) (by rw [ht]; simp) hp]
    rw [if_pos (by rw [ht] at h ⊢; exact h)]
    exact Int.le_refl _
theorem eat_le {i p k : Nat} (hi : i < pl.length) (hp : p < line.length) (h : eatB line p (pl.getD i .front) = some k) : val line pl (i + k) (p + 1) ≤ val line pl i p ∧ k ≤ 1 := by
  cases ht : pl.getD i .front with
  | single S =>
    rw [ht] at h
    unfold eatB at h
    by_cases hs : S (rd line (p : Int)).toNat = true
    · simp only [if_pos hs, Option.some.injEq] at h
      subst h
      rw [val_single hi ht (by omega), if_pos ⟨hp, hs⟩]
      exact ⟨Int.le_refl _, Nat.le_refl _⟩
    · simp [hs] at h
  | many S =>
    rw [ht] at h
    unfold eatB at h
    by_cases hs : S (rd line (p : Int)).toNat = true
    · simp only [if_pos hs, Option.some.injEq] at h
      subst h
      have e := val_many (line := line) (pl := pl) hi ht (p := p) (by omega)
      rw [if_pos ⟨hp, hs⟩] at e
      rw [e, Nat.add_zero]
      exact ⟨Int.le_max_right _ _, Nat.zero_le _⟩
    · simp [hs] at h
  | _ => rw [ht] at h; cases h
/-- What the outer state knows. -/
def Out (line : List Int) (pl : List PTh) (f p : Nat) (a b : Int) (ok : Bool) : Prop := (ok = true → (f : Int) ≤ a ∧ a ≤ p ∧ 0 ≤ val line pl 0 a.toNat) ∧ (ok = false → a = 0 ∧ b = 0)
theorem pass1_snd {f p i : Nat} {s : SS} (hp : p ≤ line.length) (hi : i ≤ pl.length) (h : Snd line pl f p s.R) (ho : Out line pl f p s.a s.b s.ok) : Snd line pl f p (pass1 line pl p i s).R ∧ Out line pl f p (pass1 line pl p i s).a (pass1 line pl p i s).b (pass1 line pl p i s).ok := by
  unfold pass1
  split
  · exact ⟨h, ho⟩
  · rename_i h0
    have hs := h.2 i hi (by omega)
    split
    · exact ⟨h.put hi (fun h1 => absurd h1 (by decide)), ho⟩
    · split
      · rename_i e
        subst e
        refine ⟨h, fun _ => ⟨hs.1, hs.2.1, ?_⟩, fun h1 => by cases h1⟩
        have := hs.2.2
        rw [val_end hp] at this
        show 0 ≤ val line pl 0 (rd s.R (pl.length : Int)).toNat
        omega
      · split
        · rename_i e hb
          refine ⟨?_, ho⟩
          have h2 := h.least (k := i + 1) (v := rd s.R (i : Int)) (by omega) (by omega) ⟨hs.1, hs.2.1, Int.le_trans (pass_le (by omega) hp hb) hs.2.2⟩
          rwa [show ((i + 1 : Nat) : Int) = (i : Int) + 1 from by omega] at h2
        · exact ⟨h, ho⟩
theorem eat1_snd {f p i : Nat} {R N : List Int} (hp : p < line.length) (hi : i < pl.length) (h : Snd line pl f p R) (hn : Snd line pl f (p + 1) N) : Snd line pl f (p + 1) (eat1 line pl p R i N) := by
  unfold eat1
  split
  · exact hn
  · rename_i h0
    have hs := h.2 i (by omega) (by omega)
    split
    · rename_i k hk
      obtain ⟨h1, h2⟩ := eat_le hi hp hk
      exact hn.least (by omega) (by omega) ⟨hs.1, by omega, Int.le_trans h1 hs.2.2⟩
    · exact hn
theorem rep_snd {f p m : Nat} (hm : m = pl.length + 1) : Snd line pl f p (List.replicate m (-1)) := by
  subst hm
  refine ⟨by simp, fun i hi h0 => ?_⟩
  rw [rd_rep (by omega)] at h0
  exact absurd h0 (by decide)
end
end Go.Proofs.YtdhdngoeaneanaaDoor.PT
