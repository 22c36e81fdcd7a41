/-
  The reference of patterns, plainly: search is Find.
-/
import Derived.Test.YtdhdngoeaneanaaDoorRT6
namespace Go.Proofs.YtdhdngoeaneanaaDoor.PT
open Go.RowKit Go.Proofs.YtdhdngoeaneanaaDoorW.PrintWords Go.Proofs.YtdhdngoeaneanaaDoorW.PrintMore
set_option linter.unusedVariables false
/-- The match that is to be found. -/
structure Tgt (line : List Int) (pl : List PTh) (f s : Nat) (e : Int) : Prop where
  ge : f ≤ s
  le : s ≤ line.length
  at_ : val line pl 0 s = e
  pos : 0 ≤ e
  least : ∀ q : Nat, f ≤ q → q < s → val line pl 0 q < 0
section
variable {line : List Int} {pl : List PTh} {f s : Nat} {e : Int}
theorem Tgt.se (t : Tgt line pl f s e) : (s : Int) ≤ e ∧ e ≤ line.length := by
  have h1 := val_rng (line := line) (pl := pl) (i := 0) t.le
  have h2 := t.at_
  have h3 := t.pos
  omega
theorem Tgt.key (t : Tgt line pl f s e) {p i : Nat} {R : List Int} (h : Snd line pl f p R) (hi : i ≤ pl.length) (h0 : 0 ≤ rd R (i : Int)) (hv : 0 ≤ val line pl i p) : (s : Int) ≤ rd R (i : Int) := by
  obtain ⟨h1, h2, h3⟩ := h.2 i hi h0
  by_cases lt : rd R (i : Int) < s
  · have := t.least (rd R (i : Int)).toNat (by omega) (by omega)
    omega
  · omega
theorem Tgt.out (t : Tgt line pl f s e) {p : Nat} {a b : Int} {ok : Bool} (h : Out line pl f p a b ok) (hk : ok = true) : (s : Int) ≤ a := by
  obtain ⟨h1, h2, h3⟩ := h.1 hk
  by_cases lt : a < s
  · have := t.least a.toNat (by omega) (by omega)
    omega
  · omega
/-- The thread, in the inner loop. -/
def CP (line : List Int) (pl : List PTh) (s : Nat) (e : Int) (p i : Nat) (t : SS) : Prop :=
  (∃ j, i ≤ j ∧ j ≤ pl.length ∧ rd t.R (j : Int) = s ∧ val line pl j p = e) ∨ (e = p ∧ t.ok = true ∧ t.a = s ∧ t.b = e) ∨
  (∃ j k, j < i ∧ j < pl.length ∧ rd t.R (j : Int) = s ∧ t.live = true ∧ eatB line p (pl.getD j .front) = some k ∧ p < line.length ∧ val line pl (j + k) (p + 1) = e)
theorem least_thread (t : Tgt line pl f s e) {p k : Nat} {R : List Int} {v : Int} (hn : Snd line pl f p (R.set k (leastV (rd R (k : Int)) v))) (hl : R.length = pl.length + 1) (hk : k ≤ pl.length) (h0 : 0 ≤ v) (hs : (0 ≤ rd R (k : Int) ∧ rd R (k : Int) = s) ∨ v = s) (hv : val line pl k p = e) : rd (R.set k (leastV (rd R (k : Int)) v)) (k : Int) = s := by
  have e1 : rd (R.set k (leastV (rd R (k : Int)) v)) (k : Int) = leastV (rd R (k : Int)) v := by rw [rd_set' (by omega), if_pos rfl]
  have h1 := least_le (a := rd R (k : Int)) h0
  have h2 := t.key hn hk (by rw [e1]; exact h1.1) (by rw [hv]; exact t.pos)
  rw [e1] at h2 ⊢
  rcases hs with ⟨h3, h4⟩ | h3
  · have := h1.2.2 h3
    omega
  · omega
theorem pass1_cp (t : Tgt line pl f s e) {p i : Nat} {w : SS} (hp : p ≤ line.length) (hi : i ≤ pl.length) (h : Snd line pl f p w.R) (ho : Out line pl f p w.a w.b w.ok) (hc : CP line pl s e p i w) : CP line pl s e p (i + 1) (pass1 line pl p i w) := by
  obtain ⟨hsn, hou⟩ := pass1_snd hp hi h ho
  have hlen := h.1
  unfold pass1 at hsn hou ⊢
  by_cases h0 : rd w.R (i : Int) < 0
  · rw [if_pos h0] at hsn hou ⊢
    rcases hc with ⟨j, h1, h2, h3, h4⟩ | hc | ⟨j, k, h1, h2⟩
    · by_cases ej : j = i
      · subst ej; omega
      · exact .inl ⟨j, by omega, h2, h3, h4⟩
    · exact .inr (.inl hc)
    · exact .inr (.inr ⟨j, k, by omega, h2⟩)
  rw [if_neg h0] at hsn hou ⊢
  by_cases hpr : w.ok = true ∧ rd w.R (i : Int) > w.a
  · rw [if_pos hpr] at hsn hou ⊢
    have hb := t.out ho hpr.1
    rcases hc with ⟨j, h1, h2, h3, h4⟩ | hc | ⟨j, k, h1, h2, h3, h4⟩
    · by_cases ej : j = i
      · subst ej; omega
      · exact .inl ⟨j, by omega, h2, by rw [rd_set' (by omega), if_neg ej]; exact h3, h4⟩
    · exact .inr (.inl hc)
    · exact .inr (.inr ⟨j, k, by omega, h2, by rw [rd_set' (by omega), if_neg (by omega)]; exact h3, h4⟩)
  rw [if_neg hpr] at hsn hou ⊢
  by_cases hm : i = pl.length
  · rw [if_pos hm] at hsn hou ⊢
    subst hm
    have hv := val_end (line := line) (pl := pl) hp
    have hr := h.2 pl.length (Nat.le_refl _) (by omega)
    rcases hc with ⟨j, h1, h2, h3, h4⟩ | ⟨h1, h2, h3, h4⟩ | ⟨j, k, h1, h2⟩
    · obtain rfl : j = pl.length := by omega
      exact .inr (.inl ⟨by omega, rfl, h3, by show (p : Int) = e; omega⟩)
    · have h5 := t.key h (Nat.le_refl _) (by omega) (by omega)
      refine .inr (.inl ⟨h1, rfl, ?_, by show (p : Int) = e; omega⟩)
      show rd w.R (pl.length : Int) = s
      have : ¬ rd w.R (pl.length : Int) > w.a := fun h6 => hpr ⟨h2, h6⟩
      omega
    · exact .inr (.inr ⟨j, k, by omega, h2⟩)
  rw [if_neg hm] at hsn hou ⊢
  have him : i < pl.length := by omega
  by_cases hb : passB line (pl.getD i .front) p = true
  · rw [if_pos hb] at hsn hou ⊢
    rw [show ((i : Int) + 1) = ((i + 1 : Nat) : Int) from by omega] at hsn ⊢
    have hle := pass_le (line := line) (pl := pl) him hp hb
    rcases hc with ⟨j, h1, h2, h3, h4⟩ | hc | ⟨j, k, h1, h2, h3, h4, h5⟩
    · by_cases ej : j = i
      · subst ej
        have fwd : val line pl (j + 1) p = e → CP line pl s e p (j + 1) { w with R := w.R.set (j + 1) (leastV (rd w.R ((j + 1 : Nat) : Int)) (rd w.R (j : Int))), live := true } := fun hv =>
          .inl ⟨j + 1, Nat.le_refl _, by omega, least_thread t hsn hlen (by omega) (by omega) (.inr h3) hv, hv⟩
        cases ht : pl.getD j .front with
        | single S => rw [ht] at hb; cases hb
        | many S =>
          have hv := val_many (line := line) (pl := pl) him ht hp
          rw [h4] at hv
          by_cases hS : p < line.length ∧ S (rd line (p : Int)).toNat = true
          · rw [if_pos hS] at hv
            by_cases hx : val line pl (j + 1) p = e
            · exact fwd hx
            · refine .inr (.inr ⟨j, 0, by omega, him, by show rd (w.R.set _ _) _ = _; rw [rd_set' (by omega), if_neg (by omega)]; exact h3, rfl, ?_, hS.1, ?_⟩)
              · rw [ht]; unfold eatB; simp only [if_pos hS.2]
              · show val line pl j (p + 1) = e
                omega
          · rw [if_neg hS] at hv
            exact fwd hv.symm
        | _ =>
          have hv := val_test (line := line) (pl := pl) him (by rw [ht]; simp) (by rw [ht]; simp) hp
          rw [if_pos (by rw [ht] at hb ⊢; exact hb), h4] at hv
          exact fwd hv.symm
      · by_cases ej1 : j = i + 1
        · subst ej1
          exact .inl ⟨i + 1, Nat.le_refl _, h2, least_thread t hsn hlen (by omega) (by omega) (.inl ⟨by omega, h3⟩) h4, h4⟩
        · exact .inl ⟨j, by omega, h2, by show rd (w.R.set _ _) _ = _; rw [rd_set' (by omega), if_neg (by omega)]; exact h3, h4⟩
    · exact .inr (.inl hc)
    · exact .inr (.inr ⟨j, k, by omega, h2, by show rd (w.R.set _ _) _ = _; rw [rd_set' (by omega), if_neg (by omega)]; exact h3, rfl, h5⟩)
  · rw [if_neg hb] at hsn hou ⊢
    rcases hc with ⟨j, h1, h2, h3, h4⟩ | hc | ⟨j, k, h1, h2, h3, h4, h5⟩
    · by_cases ej : j = i
      · subst ej
        cases ht : pl.getD j .front with
        | single S =>
          have hv := val_single (line := line) (pl := pl) him ht hp
          rw [h4] at hv
          by_cases hS : p < line.length ∧ S (rd line (p : Int)).toNat = true
          · rw [if_pos hS] at hv
            exact .inr (.inr ⟨j, 1, by omega, him, h3, rfl, by rw [ht]; unfold eatB; simp only [if_pos hS.2], hS.1, hv.symm⟩)
          · rw [if_neg hS] at hv
            have := t.pos
            omega
        | many S => rw [ht] at hb; exact absurd rfl hb
        | _ =>
          have hv := val_test (line := line) (pl := pl) him (by rw [ht]; simp) (by rw [ht]; simp) hp
          rw [if_neg (by rw [ht] at hb ⊢; exact hb), h4] at hv
          have := t.pos
          omega
      · exact .inl ⟨j, by omega, h2, h3, h4⟩
    · exact .inr (.inl hc)
    · exact .inr (.inr ⟨j, k, by omega, h2, h3, rfl, h5⟩)
/-- The match was found: it stays. -/
def DN (s : Nat) (e : Int) (w : SS) : Prop := w.ok = true ∧ w.a = s ∧ w.b = e
theorem pass1_dn (t : Tgt line pl f s e) {p i : Nat} {w : SS} (hp : p ≤ line.length) (hi : i ≤ pl.length) (hpe : e < p) (h : Snd line pl f p w.R) (hd : DN s e w) : DN s e (pass1 line pl p i w) := by
  unfold pass1
  by_cases h0 : rd w.R (i : Int) < 0
  · rw [if_pos h0]; exact hd
  rw [if_neg h0]
  by_cases hpr : w.ok = true ∧ rd w.R (i : Int) > w.a
  · rw [if_pos hpr]; exact hd
  rw [if_neg hpr]
  by_cases hm : i = pl.length
  · subst hm
    have hv := val_end (line := line) (pl := pl) hp
    have hr := h.2 pl.length (Nat.le_refl _) (by omega)
    have h5 := t.key h (Nat.le_refl _) (by omega) (by omega)
    have h6 : ¬ rd w.R (pl.length : Int) > w.a := fun h6 => hpr ⟨hd.1, h6⟩
    have h7 : rd w.R (pl.length : Int) = s := by have := hd.2.1; omega
    rw [h7, Int.toNat_natCast, t.at_] at hr
    omega
  · rw [if_neg hm]
    split <;> exact hd
theorem passL_snd {p : Nat} (hp : p ≤ line.length) : ∀ (d i : Nat) (w : SS), i + d = pl.length + 1 → Snd line pl f p w.R → Out line pl f p w.a w.b w.ok → Snd line pl f p (passL line pl p d i w).R ∧ Out line pl f p (passL line pl p d i w).a (passL line pl p d i w).b (passL line pl p d i w).ok := by
  intro d
  induction d with
  | zero => intro i w _ h ho; exact ⟨h, ho⟩
  | succ d ih =>
    intro i w hd h ho
    obtain ⟨h1, h2⟩ := pass1_snd hp (show i ≤ pl.length by omega) h ho
    exact ih (i + 1) _ (by omega) h1 h2
theorem passL_cp (t : Tgt line pl f s e) {p : Nat} (hp : p ≤ line.length) : ∀ (d i : Nat) (w : SS), i + d = pl.length + 1 → Snd line pl f p w.R → Out line pl f p w.a w.b w.ok → CP line pl s e p i w → CP line pl s e p (pl.length + 1) (passL line pl p d i w) := by
  intro d
  induction d with
  | zero =>
    intro i w hd h ho hc
    obtain rfl : i = pl.length + 1 := by omega
    exact hc
  | succ d ih =>
    intro i w hd h ho hc
    obtain ⟨h1, h2⟩ := pass1_snd hp (show i ≤ pl.length by omega) h ho
    exact ih (i + 1) _ (by omega) h1 h2 (pass1_cp t hp (by omega) h ho hc)
theorem passL_dn (t : Tgt line pl f s e) {p : Nat} (hp : p ≤ line.length) (hpe : e < p) : ∀ (d i : Nat) (w : SS), i + d = pl.length + 1 → Snd line pl f p w.R → Out line pl f p w.a w.b w.ok → DN s e w → DN s e (passL line pl p d i w) := by
  intro d
  induction d with
  | zero => intro i w hd h ho hc; exact hc
  | succ d ih =>
    intro i w hd h ho hc
    obtain ⟨h1, h2⟩ := pass1_snd hp (show i ≤ pl.length by omega) h ho
    exact ih (i + 1) _ (by omega) h1 h2 (pass1_dn t hp (by omega) hpe h hc)
theorem eatL_snd {p : Nat} {R : List Int} (hp : p < line.length) (h : Snd line pl f p R) : ∀ (d i : Nat) (N : List Int), i + d = pl.length → Snd line pl f (p + 1) N → Snd line pl f (p + 1) (eatL line pl p R d i N) := by
  intro d
  induction d with
  | zero => intro i N _ hn; exact hn
  | succ d ih => intro i N hd hn; exact ih (i + 1) _ (by omega) (eat1_snd hp (by omega) h hn)
theorem eat1_keep (t : Tgt line pl f s e) {p i j : Nat} {R N : List Int} (hp : p < line.length) (hi : i < pl.length) (h : Snd line pl f p R) (hn : Snd line pl f (p + 1) N) (hj : j ≤ pl.length) (h1 : rd N (j : Int) = s) (h2 : val line pl j (p + 1) = e) : rd (eat1 line pl p R i N) (j : Int) = s := by
  have hsn := eat1_snd hp hi h hn
  have hlen := hn.1
  unfold eat1 at hsn ⊢
  by_cases h0 : rd R (i : Int) < 0
  · rw [if_pos h0]; exact h1
  rw [if_neg h0] at hsn ⊢
  cases hk : eatB line p (pl.getD i .front) with
  | none => exact h1
  | some k =>
    rw [hk] at hsn
    have hk2 := (eat_le hi hp hk).2
    show rd (N.set (i + k) _) (j : Int) = s
    by_cases ej : j = i + k
    · subst ej
      exact least_thread t hsn hlen hj (by omega) (.inl ⟨by omega, h1⟩) h2
    · rw [rd_set' (by omega), if_neg ej]; exact h1
theorem eatL_keep (t : Tgt line pl f s e) {p : Nat} {R : List Int} (hp : p < line.length) (h : Snd line pl f p R) {j : Nat} (hj : j ≤ pl.length) (h2 : val line pl j (p + 1) = e) : ∀ (d i : Nat) (N : List Int), i + d = pl.length → Snd line pl f (p + 1) N → rd N (j : Int) = s → rd (eatL line pl p R d i N) (j : Int) = s := by
  intro d
  induction d with
  | zero => intro i N _ hn h1; exact h1
  | succ d ih => intro i N hd hn h1; exact ih (i + 1) _ (by omega) (eat1_snd hp (by omega) h hn) (eat1_keep t hp (by omega) h hn hj h1 h2)
theorem eatL_thread (t : Tgt line pl f s e) {p : Nat} {R : List Int} (hp : p < line.length) (h : Snd line pl f p R) {j k : Nat} (hj : j < pl.length) (h1 : rd R (j : Int) = s) (hk : eatB line p (pl.getD j .front) = some k) (h2 : val line pl (j + k) (p + 1) = e) : ∀ (d i : Nat) (N : List Int), i + d = pl.length → i ≤ j → Snd line pl f (p + 1) N → rd (eatL line pl p R d i N) ((j + k : Nat) : Int) = s := by
  intro d
  induction d with
  | zero => intro i N hd hij _; omega
  | succ d ih =>
    intro i N hd hij hn
    have hsn := eat1_snd hp (show i < pl.length by omega) h hn
    by_cases ej : i = j
    · subst ej
      have hk2 := (eat_le hj hp hk).2
      refine eatL_keep t hp h (by omega) h2 d (i + 1) _ (by omega) hsn ?_
      unfold eat1 at hsn ⊢
      rw [if_neg (by omega)] at hsn ⊢
      rw [hk] at hsn ⊢
      exact least_thread t hsn hn.1 (by omega) (by omega) (.inr h1) h2
    · exact ih (i + 1) _ (by omega) (by omega) hsn
/-- One round of the outer loop. -/
theorem outS_snd {p : Nat} {R : List Int} {a b : Int} {ok : Bool} (hf : f ≤ p) (hp : p ≤ line.length) (h : Snd line pl f p R) (ho : Out line pl f p a b ok) : Snd line pl f p (outS line pl p R a b ok).R ∧ Out line pl f p (outS line pl p R a b ok).a (outS line pl p R a b ok).b (outS line pl p R a b ok).ok := by
  unfold outS
  refine passL_snd hp _ _ _ (by omega) ?_ ho
  show Snd line pl f p (if ok = true then R else R.set 0 (leastV (rd R 0) p))
  split
  · exact h
  · exact h.least (k := 0) (v := (p : Int)) (by omega) (by omega) ⟨by omega, Int.le_refl _, by rw [Int.toNat_natCast]; exact Int.le_refl _⟩
theorem Snd.next {p : Nat} {a b : Int} {ok : Bool} (ho : Out line pl f p a b ok) : Out line pl f (p + 1) a b ok := ⟨fun h => by have := ho.1 h; omega, ho.2⟩
theorem outL_none (hno : ∀ q : Nat, f ≤ q → q ≤ line.length → val line pl 0 q < 0) : ∀ (d p : Nat) (R : List Int) (a b : Int) (ok : Bool), f ≤ p → p ≤ line.length → Snd line pl f p R → Out line pl f p a b ok → outL line pl d p R a b ok = (0, 0, false) := by
  have no : ∀ (p : Nat) (a b : Int) (ok : Bool), p ≤ line.length → Out line pl f p a b ok → a = 0 ∧ b = 0 ∧ ok = false := by
    intro p a b ok hp ho
    cases ok with
    | true =>
      have h1 := ho.1 rfl
      have := hno a.toNat (by omega) (by omega)
      omega
    | false => exact ⟨(ho.2 rfl).1, (ho.2 rfl).2, rfl⟩
  intro d
  induction d with
  | zero =>
    intro p R a b ok hf hp h ho
    obtain ⟨rfl, rfl, rfl⟩ := no p a b ok hp ho
    rfl
  | succ d ih =>
    intro p R a b ok hf hp h ho
    obtain ⟨h1, h2⟩ := outS_snd hf hp h ho
    obtain ⟨e1, e2, e3⟩ := no p _ _ _ hp h2
    unfold outL
    split
    · rw [e1, e2, e3]
    · rename_i hc
      exact ih (p + 1) _ _ _ _ (by omega) (by omega) (eatL_snd (by omega) h1 _ _ _ (by omega) (rep_snd rfl)) (Snd.next h2)
theorem outL_some (t : Tgt line pl f s e) : ∀ (d p : Nat) (R : List Int) (a b : Int) (ok : Bool), f ≤ p → p ≤ line.length → line.length < p + d → Snd line pl f p R → Out line pl f p a b ok → (ok = true → a < p) →
    ((s : Int) < p → (p : Int) ≤ e → ∃ j, j ≤ pl.length ∧ rd R (j : Int) = s ∧ val line pl j p = e) → (e < p → ok = true ∧ a = s ∧ b = e) → outL line pl d p R a b ok = ((s : Int), e, true) := by
  have hse := t.se
  intro d
  induction d with
  | zero => intro p R a b ok hf hp hd; omega
  | succ d ih =>
    intro p R a b ok hf hp hd h ho hap ht hdn
    obtain ⟨h1, h2⟩ := outS_snd hf hp h ho
    have hR0 : Snd line pl f p (if ok = true then R else R.set 0 (leastV (rd R 0) p)) := by
      split
      · exact h
      · exact h.least (k := 0) (v := (p : Int)) (by omega) (by omega) ⟨by omega, Int.le_refl _, by rw [Int.toNat_natCast]; exact Int.le_refl _⟩
    unfold outL
    by_cases c1 : p < s
    · -- ahead of the match
      have hok : (outS line pl p R a b ok).ok = false := by
        cases hk : (outS line pl p R a b ok).ok with
        | false => rfl
        | true =>
          have h3 := t.out h2 hk
          have h4 := h2.1 hk
          omega
      rw [if_neg (fun hx => hx.elim (fun hx => by omega) (fun hx => by rw [hok] at hx; cases hx.1))]
      refine ih (p + 1) _ _ _ _ (by omega) (by omega) (by omega) (eatL_snd (by omega) h1 _ _ _ (by omega) (rep_snd rfl)) (Snd.next h2) (fun hk => by rw [hok] at hk; cases hk) (fun hx _ => by omega) (fun hx => by omega)
    by_cases c2 : (p : Int) ≤ e
    · -- within it
      have hc0 : CP line pl s e p 0 ⟨if ok = true then R else R.set 0 (leastV (rd R 0) p), a, b, ok, false⟩ := by
        refine .inl ?_
        by_cases c3 : p = s
        · subst c3
          have hok : ok = false := by
            cases ok with
            | false => rfl
            | true =>
              have := t.out ho rfl
              have := hap rfl
              omega
          subst hok
          refine ⟨0, Nat.le_refl _, Nat.zero_le _, ?_, t.at_⟩
          exact least_thread t (k := 0) (v := (p : Int)) hR0 h.1 (by omega) (by omega) (.inr rfl) t.at_
        · obtain ⟨j, h3, h4, h5⟩ := ht (by omega) c2
          refine ⟨j, Nat.zero_le _, h3, ?_, h5⟩
          cases ok with
          | true => exact h4
          | false =>
            by_cases ej : j = 0
            · subst ej
              exact least_thread t (k := 0) (v := (p : Int)) hR0 h.1 (by omega) (by omega) (.inl ⟨by omega, h4⟩) h5
            · show rd (R.set 0 _) (j : Int) = s
              rw [rd_set' (by have := h.1; omega), if_neg ej]
              exact h4
      have hc := passL_cp t hp (pl.length + 1) 0 _ (by omega) hR0 ho hc0
      change CP line pl s e p (pl.length + 1) (outS line pl p R a b ok) at hc
      generalize outS line pl p R a b ok = w at hc h1 h2
      rcases hc with ⟨j, hj1, hj2, _⟩ | ⟨he, hk, ha, hb⟩ | ⟨j, k, _, hj, hr, hlv, hk, hpn, hv⟩
      · omega
      · split
        · rw [ha, hb, hk]
        · rename_i hx
          refine ih (p + 1) _ _ _ _ (by omega) (by omega) (by omega) (eatL_snd (by omega) h1 _ _ _ (by omega) (rep_snd rfl)) (Snd.next h2) (fun _ => by have := h2.1 hk; omega) (fun _ hx => by omega) (fun _ => ⟨hk, ha, hb⟩)
      · rw [if_neg (fun hx => hx.elim (fun hx => by omega) (fun hx => by rw [hlv] at hx; cases hx.2))]
        have hk2 := (eat_le hj hpn hk).2
        refine ih (p + 1) _ _ _ _ (by omega) (by omega) (by omega) (eatL_snd hpn h1 _ _ _ (by omega) (rep_snd rfl)) (Snd.next h2) (fun hx => by have := h2.1 hx; omega) (fun _ _ => ⟨j + k, by omega, eatL_thread t hpn h1 hj hr hk hv _ _ _ (by omega) (by omega) (rep_snd rfl), hv⟩) (fun hx => ?_)
        have := val_rng (line := line) (pl := pl) (i := j + k) (p := p + 1) (by omega)
        have := t.pos
        omega
    · -- behind it
      have hd0 := hdn (by omega)
      have hd1 := passL_dn t hp (by omega) (pl.length + 1) 0 ⟨if ok = true then R else R.set 0 (leastV (rd R 0) p), a, b, ok, false⟩ (by omega) hR0 ho hd0
      change DN s e (outS line pl p R a b ok) at hd1
      generalize outS line pl p R a b ok = w at hd1 h1 h2
      obtain ⟨hk, ha, hb⟩ := hd1
      split
      · rw [ha, hb, hk]
      · refine ih (p + 1) _ _ _ _ (by omega) (by omega) (by omega) (eatL_snd (by omega) h1 _ _ _ (by omega) (rep_snd rfl)) (Snd.next h2) (fun _ => by have := h2.1 hk; omega) (fun _ hx => by omega) (fun _ => ⟨hk, ha, hb⟩)
/-- The reference's search is Find. -/
theorem search_find (line : List Int) (pl : List PTh) (f : Int) : searchV line pl f = findV line pl f := by
  unfold searchV
  by_cases hf : f < 0 ∨ f > (line.length : Int)
  · rw [if_pos hf]
    unfold findV
    rw [if_pos hf]
  · rw [if_neg hf]
    have hsp := find_spec line pl f
    have h0 : Out line pl f.toNat f.toNat 0 0 false := ⟨(fun h => by cases h), (fun _ => ⟨rfl, rfl⟩)⟩
    have hval : ∀ q : Nat, val line pl 0 q = rd (endsV line pl) (q : Int) := fun q => rfl
    cases hk : (findV line pl f).2.2 with
    | false =>
      obtain ⟨e1, e2⟩ := hsp.2 hk
      rw [e1]
      exact outL_none (f := f.toNat) (fun q h1 h2 => by rw [hval]; exact e2 (by omega) q (by omega) (by omega)) _ _ _ _ _ _ (Nat.le_refl _) (by omega) (rep_snd rfl) h0
    | true =>
      obtain ⟨h1, h2, h3, h4, h5, h6⟩ := hsp.1 hk
      obtain ⟨s, hs⟩ : ∃ s : Nat, (findV line pl f).1 = (s : Int) := ⟨(findV line pl f).1.toNat, by omega⟩
      have ht : Tgt line pl f.toNat s (findV line pl f).2.1 := ⟨by omega, by omega, by rw [hval, h5, hs], by omega, fun q g1 g2 => by rw [hval]; exact h6 q (by omega) (by omega)⟩
      rw [outL_some ht _ _ _ _ _ _ (Nat.le_refl _) (by omega) (by omega) (rep_snd rfl) h0 (fun h => by cases h) (fun h => by omega) (fun h => by have := ht.se; omega)]
      exact Prod.ext hs.symm (Prod.ext rfl hk.symm)
end
end Go.Proofs.YtdhdngoeaneanaaDoor.PT
