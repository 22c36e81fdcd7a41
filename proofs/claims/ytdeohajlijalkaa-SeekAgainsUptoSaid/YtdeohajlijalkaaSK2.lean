/-
  Layer 9 (seek): the document's Move and Again come to the same (texts of up to 2^40 bytes).
-/
import Derived.Test.YtdeohajlijalkaaSK
import Derived.Test.YtdeohajlijalkaaX17
import Derived.Test.YtdeohajlijalkaaX18
import Derived.Test.YtdeohajlijalkaaX19
import Derived.Test.YtdeohajlijalkaaX24
namespace Go.Proofs.Ytdeohajlijalkaa.SK
open Go.RowKit Go.Proofs.YtdeohajlijalkaaW.PrintWords Go.Proofs.YtdeohajlijalkaaW.PrintMore Go.Proofs.Ytdeohajlijalkaa.X Go.Proofs.Ytdeohajlijalkaa.XL Go.Proofs.Ytdeohajlijalkaa.XO Go.Proofs.Ytdeohajlijalkaa.LN

/-- The places from p on, d of them, that hold b and lie above lo. -/
def hitA (t : List Int) (b lo : Int) : Nat → Nat → List Int
  | 0, _ => []
  | d + 1, p => (if t.getD p 0 = b ∧ (p : Int) > lo then [(p : Int)] else []) ++ hitA t b lo d (p + 1)
/-- The d places from s on, from the last down, that hold b and lie below hi. -/
def hitB (t : List Int) (b hi : Int) (s : Nat) : Nat → List Int
  | 0 => []
  | d + 1 => (if t.getD (s + d) 0 = b ∧ ((s + d : Nat) : Int) < hi then [((s + d : Nat) : Int)] else []) ++ hitB t b hi s d
theorem hitA_nth {t : List Int} {b lo : Int} : ∀ {d p n : Nat}, (p : Int) > lo → (hitA t b lo d p)[n]? = (nthA t b d p n).map (fun q => (q : Int)) := by
  intro d
  induction d with
  | zero => intro p n _; rfl
  | succ d ih =>
    intro p n hp
    unfold hitA nthA
    by_cases hb : t.getD p 0 = b
    · rw [if_pos ⟨hb, hp⟩, if_pos hb]
      cases n with
      | zero => rfl
      | succ n =>
        rw [if_neg (by omega)]
        exact ih (p := p + 1) (n := n) (by omega)
    · rw [if_neg (fun h => hb h.1), if_neg hb]
      exact ih (p := p + 1) (n := n) (by omega)
theorem hitB_nth {t : List Int} {b hi : Int} {s : Nat} : ∀ {d n : Nat}, ((s + d : Nat) : Int) ≤ hi → (hitB t b hi s d)[n]? = (nthB t b s d n).map (fun q => (q : Int)) := by
  intro d
  induction d with
  | zero => intro n _; rfl
  | succ d ih =>
    intro n hp
    unfold hitB nthB
    by_cases hb : t.getD (s + d) 0 = b
    · rw [if_pos ⟨hb, by omega⟩, if_pos hb]
      cases n with
      | zero => rfl
      | succ n =>
        rw [if_neg (by omega)]
        exact ih (n := n) (by omega)
    · rw [if_neg (fun h => hb h.1), if_neg hb]
      exact ih (n := n) (by omega)
theorem hitA_length (t : List Int) (b lo : Int) : ∀ d p, (hitA t b lo d p).length ≤ d := by
  intro d
  induction d with
  | zero => intro p; simp [hitA]
  | succ d ih =>
    intro p
    have := ih (p + 1)
    unfold hitA
    rw [List.length_append]
    split <;> simp <;> omega
theorem hitB_length (t : List Int) (b hi : Int) (s : Nat) : ∀ d, (hitB t b hi s d).length ≤ d := by
  intro d
  induction d with
  | zero => simp [hitB]
  | succ d ih =>
    unfold hitB
    rw [List.length_append]
    split <;> simp <;> omega
section
variable {t : List Int} (hl : t.length ≤ 1099511627776)
include hl
theorem hits_l0 (a s e : Nat) (b : Int) (ha : a < t.length) (h10 : t.getD a 0 ≠ 10) (he : e = fin t a) (hs : s ≤ 1) : ∀ (d p : Nat) (acc : List Int), d = e - p → a < p → p ≤ e → acc.length ≤ p →
    Ev (fun k => quoinref09_hits.l0 k t a b s acc p) (acc ++ hitA t b ((a : Int) + s) d p) := by
  have hel : e ≤ t.length := by rw [he]; exact fin_le (by omega)
  have hstop : ∀ (p : Nat) (acc : List Int), Ev (fun k => quoinref09_hits.j1 k t a b s acc p false) acc := fun p acc => ⟨1, fun k hk => by obtain ⟨m, rfl⟩ : ∃ m, k = m + 1 := ⟨k - 1, by omega⟩; rfl⟩
  intro d
  induction d with
  | zero =>
    intro p acc hd h1 h2 hacc
    have hpe : p = e := by omega
    refine Ev.eq (r := acc) ?_ (by simp [hitA])
    by_cases hpl : p < t.length
    · refine Ev.step (fun k => rfl) (Ev.pos (by omega) (Ev.neg (by omega) (Ev.pos (by omega) (Ev.pos (by omega) (Ev.neg (by rw [rd_nat]; exact h10) (Ev.pos (by omega) ?_))))))
      have h3 : rd t (p : Int) = 10 := by rw [rd_nat, hpe, he]; exact fin_at (by omega)
      rw [h3]
      exact hstop p acc
    · exact Ev.step (fun k => rfl) (Ev.neg (by omega) (hstop p acc))
  | succ d ih =>
    intro p acc hd h1 h2 hacc
    have hpl : p < t.length := by omega
    have hne : t.getD p 0 ≠ 10 := fin_ne (p := a) (by omega) (by omega)
    refine Ev.step (fun k => rfl) (Ev.pos (by omega) (Ev.neg (by omega) (Ev.pos (by omega) (Ev.pos (by omega) (Ev.neg (by rw [rd_nat]; exact h10) (Ev.pos (by omega) ?_))))))
    have h3 : (rd t (p : Int) != 10) = true := by rw [rd_nat]; exact bne_iff_ne.mpr hne
    rw [h3]
    refine Ev.step (f := fun k => if 0 ≤ (p : Int) then (if (p : Int) < (t.length : Int) then (if (rd t p) = b then (if (p : Int) > (wrap64 ((a : Int) + s)) then (if acc.length < 17592186044416 then (quoinref09_hits.l0 k t a b s (acc ++ [(p : Int)]) (wrap64 ((p : Int) + 1))) else (none)) else (quoinref09_hits.l0 k t a b s acc (wrap64 ((p : Int) + 1)))) else (quoinref09_hits.l0 k t a b s acc (wrap64 ((p : Int) + 1)))) else none) else none) (fun k => rfl) (Ev.pos (by omega) (Ev.pos (by omega) ?_))
    rw [rd_nat, wrap64_id (n := (a : Int) + s) (by omega) (by omega), wrap64_id (n := (p : Int) + 1) (by omega) (by omega), show (p : Int) + 1 = ((p + 1 : Nat) : Int) from by omega]
    unfold hitA
    by_cases hb : t.getD p 0 = b
    · refine Ev.pos hb ?_
      by_cases hg : (p : Int) > (a : Int) + s
      · rw [if_pos ⟨hb, hg⟩]
        refine Ev.pos hg (Ev.pos (by omega) ?_)
        exact Ev.eq (ih (p + 1) (acc ++ [(p : Int)]) (by omega) (by omega) (by omega) (by simp; omega)) (by simp)
      · rw [if_neg (fun h => hg h.2)]
        refine Ev.neg hg ?_
        exact ih (p + 1) acc (by omega) (by omega) (by omega) (by omega)
    · rw [if_neg (fun h => hb h.1)]
      refine Ev.neg hb ?_
      exact ih (p + 1) acc (by omega) (by omega) (by omega) (by omega)
theorem hits_l1 (a s : Nat) (b : Int) (ha : a ≤ t.length) (hs : s ≤ 1) : ∀ (d : Nat) (p : Int) (acc : List Int), p = (beg t a : Int) + d - 1 → p < a → acc.length ≤ a →  acc.length + d ≤ a →
    Ev (fun k => quoinref09_hits.l1 k t a b s acc p) (acc ++ hitB t b ((a : Int) - s) (beg t a) d) := by
  have hb0 := beg_le t a
  have hstop : ∀ (p : Int) (acc : List Int), Ev (fun k => quoinref09_hits.j3 k t a b s acc p false) acc := fun p acc => ⟨1, fun k hk => by obtain ⟨m, rfl⟩ : ∃ m, k = m + 1 := ⟨k - 1, by omega⟩; rfl⟩
  intro d
  induction d with
  | zero =>
    intro p acc hp h1 hacc _
    refine Ev.eq (r := acc) ?_ (by simp [hitB])
    by_cases h0 : p ≥ 0
    · refine Ev.step (fun k => rfl) (Ev.pos h0 (Ev.pos h0 (Ev.pos (by omega) ?_)))
      have h2 : beg t a ≠ 0 := by omega
      have h3 : rd t p = 10 := by
        rcases beg_st t a with h | h
        · omega
        · rw [show p = ((beg t a - 1 : Nat) : Int) from by omega, rd_nat]; exact h
      rw [h3]
      exact hstop p acc
    · exact Ev.step (fun k => rfl) (Ev.neg h0 (hstop p acc))
  | succ d ih =>
    intro p acc hp h1 hacc hd
    have hpd : p = ((beg t a + d : Nat) : Int) := by omega
    subst hpd
    have hne : t.getD (beg t a + d) 0 ≠ 10 := beg_ne (n := a) (by omega) (by omega)
    refine Ev.step (f := fun k => if ((beg t a + d : Nat) : Int) ≥ 0 then (if 0 ≤ ((beg t a + d : Nat) : Int) then (if ((beg t a + d : Nat) : Int) < (t.length : Int) then (quoinref09_hits.j3 k t a b s acc ((beg t a + d : Nat) : Int) ((rd t ((beg t a + d : Nat) : Int)) != 10)) else none) else none) else (quoinref09_hits.j3 k t a b s acc ((beg t a + d : Nat) : Int) false)) (fun k => rfl) (Ev.pos (by omega) (Ev.pos (by omega) (Ev.pos (by omega) ?_)))
    have h3 : (rd t ((beg t a + d : Nat) : Int) != 10) = true := by rw [rd_nat]; exact bne_iff_ne.mpr hne
    rw [h3]
    refine Ev.step (f := fun k => if 0 ≤ ((beg t a + d : Nat) : Int) then (if ((beg t a + d : Nat) : Int) < (t.length : Int) then (if (rd t ((beg t a + d : Nat) : Int)) = b then (if ((beg t a + d : Nat) : Int) < (wrap64 ((a : Int) - s)) then (if acc.length < 17592186044416 then (quoinref09_hits.l1 k t a b s (acc ++ [((beg t a + d : Nat) : Int)]) (wrap64 (((beg t a + d : Nat) : Int) - 1))) else (none)) else (quoinref09_hits.l1 k t a b s acc (wrap64 (((beg t a + d : Nat) : Int) - 1)))) else (quoinref09_hits.l1 k t a b s acc (wrap64 (((beg t a + d : Nat) : Int) - 1)))) else none) else none) (fun k => rfl) (Ev.pos (by omega) (Ev.pos (by omega) ?_))
    rw [rd_nat, wrap64_id (n := (a : Int) - s) (by omega) (by omega), wrap64_id (n := ((beg t a + d : Nat) : Int) - 1) (by omega) (by omega)]
    unfold hitB
    by_cases hb : t.getD (beg t a + d) 0 = b
    · refine Ev.pos hb ?_
      by_cases hg : ((beg t a + d : Nat) : Int) < (a : Int) - s
      · rw [if_pos ⟨hb, hg⟩]
        refine Ev.pos hg (Ev.pos (by omega) ?_)
        exact Ev.eq (ih _ (acc ++ [((beg t a + d : Nat) : Int)]) (by omega) (by omega) (by simp; omega) (by simp; omega)) (by simp)
      · rw [if_neg (fun h => hg h.2)]
        refine Ev.neg hg ?_
        exact ih _ acc (by omega) (by omega) (by omega) (by omega)
    · rw [if_neg (fun h => hb h.1)]
      refine Ev.neg hb ?_
      exact ih _ acc (by omega) (by omega) (by omega) (by omega)
/-- The document's list of hits, its n-th one. -/
theorem hits_ev (a s : Nat) (b : Int) (ahead : Bool) (ha : a ≤ t.length) (hs : s ≤ 1) :
    ∃ L : List Int, Ev (fun k => quoinref09_hits.f k t a b ahead s) L ∧ ∀ n, L[n]? = (if ahead = true then nthA t b (fin t a - (a + (s + 1))) (a + (s + 1)) n else nthB t b (beg t a) (a + 1 - (s + 1) - beg t a) n).map (fun q => (q : Int)) := by
  have hb0 := beg_le t a
  have hf0 := fin_ge t a
  cases ahead with
  | true =>
    by_cases hc : a < t.length ∧ t.getD a 0 ≠ 10
    · have hfa : a < fin t a := by
        rcases Nat.lt_or_ge a (fin t a) with h | h
        · exact h
        · have h1 : fin t a = a := by omega
          exact absurd (by rw [← h1]; exact fin_at (by omega)) hc.2
      have h1 := hits_l0 hl a s (fin t a) b hc.1 hc.2 rfl hs (fin t a - (a + 1)) (a + 1) [] rfl (by omega) (by omega) (by simp)
      refine ⟨hitA t b ((a : Int) + s) (fin t a - (a + 1)) (a + 1), ?_, fun n => ?_⟩
      · refine Ev.pos rfl ?_
        rw [wrap64_id (n := (a : Int) + 1) (by omega) (by omega), show (a : Int) + 1 = ((a + 1 : Nat) : Int) from by omega]
        simpa using h1
      · rw [if_pos rfl]
        by_cases h0 : s = 0
        · subst h0
          rw [hitA_nth (by omega)]
        · have hs1 : s = 1 := by omega
          subst hs1
          obtain ⟨d, hd⟩ : ∃ d, fin t a - (a + 1) = d + 1 ∨ fin t a - (a + 1) = 0 ∧ d = 0 := by
            cases hz : fin t a - (a + 1) with
            | zero => exact ⟨0, .inr ⟨rfl, rfl⟩⟩
            | succ d => exact ⟨d, .inl rfl⟩
          rcases hd with hd | ⟨hd, _⟩
          · rw [hd, show fin t a - (a + (1 + 1)) = d from by omega]
            unfold hitA
            rw [if_neg (by omega), List.nil_append, hitA_nth (by omega)]
          · rw [hd, show fin t a - (a + (1 + 1)) = 0 from by omega]
            rfl
    · have hfa : fin t a = a := by
        by_cases h : a < t.length
        · have h10 : t.getD a 0 = 10 := by
            by_cases h2 : t.getD a 0 = 10
            · exact h2
            · exact absurd ⟨h, h2⟩ hc
          exact (fin_unique (Nat.le_refl a) ha (fun j h1 h2 => by omega) (fun _ => h10)).symm
        · have := fin_le ha
          omega
      refine ⟨[], ?_, fun n => ?_⟩
      · refine Ev.pos rfl ?_
        rw [wrap64_id (n := (a : Int) + 1) (by omega) (by omega)]
        have hstop : Ev (fun k => quoinref09_hits.j1 k t a b s [] ((a : Int) + 1) false) [] := ⟨1, fun k hk => by obtain ⟨m, rfl⟩ : ∃ m, k = m + 1 := ⟨k - 1, by omega⟩; rfl⟩
        by_cases h : (a : Int) + 1 < (t.length : Int)
        · refine Ev.step (fun k => rfl) (Ev.pos h (Ev.neg (by omega) (Ev.pos (by omega) (Ev.pos (by omega) ?_))))
          refine Ev.pos ?_ hstop
          rw [rd_nat]
          by_cases h2 : t.getD a 0 = 10
          · exact h2
          · exact absurd ⟨by omega, h2⟩ hc
        · exact Ev.step (fun k => rfl) (Ev.neg h hstop)
      · rw [if_pos rfl, hfa, show a - (a + (s + 1)) = 0 from by omega]
        rfl
  | false =>
    have h1 := hits_l1 hl a s b ha hs (a - beg t a) ((a : Int) - 1) [] (by omega) (by omega) (by simp) (by simp)
    refine ⟨hitB t b ((a : Int) - s) (beg t a) (a - beg t a), ?_, fun n => ?_⟩
    · refine Ev.neg (by decide) ?_
      rw [wrap64_id (n := (a : Int) - 1) (by omega) (by omega)]
      simpa using h1
    · rw [if_neg (by decide)]
      by_cases h0 : s = 0
      · subst h0
        rw [hitB_nth (by omega), show a + 1 - (0 + 1) - beg t a = a - beg t a from by omega]
      · have hs1 : s = 1 := by omega
        subst hs1
        obtain ⟨d, hd⟩ : ∃ d, a - beg t a = d + 1 ∨ a - beg t a = 0 ∧ d = 0 := by
          cases hz : a - beg t a with
          | zero => exact ⟨0, .inr ⟨rfl, rfl⟩⟩
          | succ d => exact ⟨d, .inl rfl⟩
        rcases hd with hd | ⟨hd, _⟩
        · rw [hd, show a + 1 - (1 + 1) - beg t a = d from by omega]
          unfold hitB
          rw [if_neg (by omega), List.nil_append, hitB_nth (by omega)]
        · rw [hd, show a + 1 - (1 + 1) - beg t a = 0 from by omega]
          rfl
theorem refmove_ev (a s : Nat) (count key b : Int) (ha : a ≤ t.length) (hs : s ≤ 1) (hc : 0 ≤ count ∧ count ≤ 9999) (hk : keyOk key) :
    Ev (fun k => quoinref09_move.f k t a count key b s) (moveR t a (s + 1) (cntN count) key b) := by
  have hj : ∀ c : Int, c = ((cntN count : Nat) : Int) + 1 → Ev (fun k => quoinref09_move.j0 k t a c key b s) (moveR t a (s + 1) (cntN count) key b) := by
    intro c hcc
    have hj1 : ∀ ahead : Bool, ahead = isA key → Ev (fun k => (quoinref09_hits.f k t a b ahead s).bind fun L => quoinref09_move.j1 k a c key L) (moveR t a (s + 1) (cntN count) key b) := by
      intro ahead hah
      obtain ⟨L, hL, hn⟩ := hits_ev hl a s b ahead ha hs
      refine Ev.bind hL ?_
      have hlook : (L[cntN count]?) = (SK.look t a (s + 1) (cntN count) key b).map (fun q => (q : Int)) := by
        rw [hn, hah]
        rfl
      unfold moveR
      cases hq : SK.look t a (s + 1) (cntN count) key b with
      | none =>
        rw [hq] at hlook
        have h1 : L.length ≤ cntN count := List.getElem?_eq_none_iff.1 hlook
        exact Ev.step (fun k => rfl) (Ev.pos (by omega) (Ev.now _))
      | some q =>
        rw [hq] at hlook
        obtain ⟨h1, h2⟩ := List.getElem?_eq_some_iff.1 hlook
        have hb := (look_some (by omega) hq).2.2.1
        have hf2 := fin_le ha
        have e : wrap64 (c - 1) = ((cntN count : Nat) : Int) := by rw [wrap64_id (by unfold cntN at hcc; omega) (by unfold cntN at hcc; omega)]; omega
        have hr : rd L ((cntN count : Nat) : Int) = (q : Int) := by
          rw [rd_nat, List.getD_eq_getElem?_getD, hlook]
          rfl
        refine Ev.step (fun k => rfl) (Ev.neg (by omega) ?_)
        rw [e]
        refine Ev.pos (by omega) (Ev.pos (by omega) (Ev.const ?_))
        rw [hr, wrap64_id (n := (q : Int) - 1) (by omega) (by omega), wrap64_id (n := (q : Int) + 1) (by omega) (by omega)]
        by_cases g1 : key = 102
        · simp only [if_pos g1]
        · simp only [if_neg g1]
          by_cases g2 : key = 116
          · simp only [if_pos g2]
          · simp only [if_neg g2]
            by_cases g3 : key = 70
            · simp only [if_pos g3]
            · simp only [if_neg g3]
    by_cases h102 : key = 102
    · exact Ev.step (fun k => rfl) (Ev.pos h102 (hj1 true (by rw [h102]; rfl)))
    · refine Ev.step (fun k => rfl) (Ev.neg h102 (hj1 _ ?_))
      rcases hk with h | h | h | h <;> subst h <;> first | rfl | exact absurd rfl h102
  by_cases h0 : count = 0
  · exact Ev.pos h0 (hj 1 (by unfold cntN; omega))
  · exact Ev.neg h0 (hj count (by unfold cntN; omega))
end
theorem bad_eq (t : List Int) (at_ count : Int) : quoinref09_bad.f t at_ count = some (badB t at_ count) := by
  unfold quoinref09_bad.f badB
  by_cases h1 : at_ < 0
  · simp [h1]
  · by_cases h2 : at_ > (t.length : Int)
    · simp [h1, h2]
    · by_cases h3 : count < 0
      · simp [h1, h2, h3]
      · simp [h1, h2, h3]
theorem isKey_eq (key : Int) : quoinref09_isKey.f key = some (keyB key) := known_eq key
section
variable {t : List Int} (hl : t.length ≤ 1099511627776)
include hl
theorem refMove_ev (at_ count key b : Int) : Ev (fun k => quoinref09_Move.f k t at_ count key b) (MoveR t at_ count key b) := by
  refine Ev.cbind (bad_eq t at_ count) ?_
  unfold MoveR
  by_cases h : badB t at_ count = true
  · rw [if_pos h]
    exact Ev.pos h (Ev.now _)
  · rw [if_neg h]
    refine Ev.neg h (Ev.cbind (isKey_eq key) ?_)
    by_cases hk : keyB key = true
    · rw [if_pos hk]
      have hb := bad_false h
      have h1 := refmove_ev hl at_.toNat 0 count key b (by omega) (by omega) (by omega) (keyOk_of hk)
      rw [show ((at_.toNat : Nat) : Int) = at_ from by omega] at h1
      exact Ev.pos hk (Ev.done h1 rfl)
    · rw [if_neg hk]
      exact Ev.neg hk (Ev.now _)
theorem refAgain_ev (at_ count key b : Int) (z : Bool) : Ev (fun k => quoinref09_Again.f k t at_ count key b z) (AgainR t at_ count key b z) := by
  refine Ev.cbind (bad_eq t at_ count) ?_
  unfold AgainR
  by_cases h : badB t at_ count = true
  · rw [if_pos h]
    exact Ev.pos h (Ev.now _)
  · rw [if_neg h]
    refine Ev.neg h ?_
    by_cases h0 : key = 0
    · rw [if_pos h0]
      exact Ev.pos h0 (Ev.now _)
    · rw [if_neg h0]
      refine Ev.neg h0 (Ev.cbind (isKey_eq key) ?_)
      by_cases hk : keyB key = true
      · rw [if_pos hk]
        refine Ev.pos hk ?_
        have hb := bad_false h
        have hj : ∀ key', keyOk key' → Ev (fun k => quoinref09_Again.j0 k t at_ count key' key b) (moveR t at_.toNat (skipOf key') (cntN count) key' b) := by
          intro key' hk'
          have h1 := refmove_ev hl at_.toNat (skipOf key' - 1) count key' b (by omega) (by unfold skipOf; split <;> omega) (by omega) hk'
          rw [show ((at_.toNat : Nat) : Int) = at_ from by omega, show skipOf key' - 1 + 1 = skipOf key' from by unfold skipOf; split <;> omega] at h1
          have hj1 : ∀ x37 : Bool, x37 = decide (key' = 116 ∨ key' = 84) → Ev (fun k => quoinref09_Again.j1 k t at_ count key' x37 key b) (moveR t at_.toNat (skipOf key') (cntN count) key' b) := by
            intro x37 hx
            unfold skipOf at h1 ⊢
            by_cases hs : key' = 116 ∨ key' = 84
            · rw [if_pos hs] at h1 ⊢
              rw [decide_eq_true hs] at hx
              exact Ev.step (fun k => rfl) (Ev.pos hx (Ev.done h1 rfl))
            · rw [if_neg hs] at h1 ⊢
              rw [decide_eq_false hs] at hx
              exact Ev.step (fun k => rfl) (Ev.neg (by rw [hx]; decide) (Ev.done h1 rfl))
          by_cases h6 : key' = 116
          · exact Ev.step (fun k => rfl) (Ev.pos h6 (hj1 true (by simp [h6])))
          · exact Ev.step (fun k => rfl) (Ev.neg h6 (hj1 _ (by rw [Bool.eq_iff_iff]; simp [h6])))
        have ht := hj _ (turned_ok hk z)
        unfold turned at ht ⊢
        by_cases hz : z = true
        · rw [if_pos hz] at ht ⊢
          exact Ev.pos hz ht
        · rw [if_neg hz] at ht ⊢
          exact Ev.neg hz ht
      · rw [if_neg hk]
        exact Ev.neg hk (Ev.now _)
end
end Go.Proofs.Ytdeohajlijalkaa.SK
