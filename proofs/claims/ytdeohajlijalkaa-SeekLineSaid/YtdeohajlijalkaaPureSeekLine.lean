/-
  SeekLine, the pure statement: in the line, at the byte that is looked for, as many on the way as the count says.
  Conditions: none.
-/
import Derived.Test.YtdeohajlijalkaaSK3
import Derived.Test.YtdeohajlijalkaaSaySeekLine
import Derived.Test.YtdeohajlijalkaaX21
namespace Go.Proofs.Ytdeohajlijalkaa.Pure
open Go.RowKit Go.Proofs.YtdeohajlijalkaaW.PrintWords Go.Proofs.YtdeohajlijalkaaW.PrintMore Go.Proofs.Ytdeohajlijalkaa.X Go.Proofs.Ytdeohajlijalkaa.XL Go.Proofs.Ytdeohajlijalkaa.XO Go.Proofs.Ytdeohajlijalkaa.LN Go.Proofs.Ytdeohajlijalkaa.SK
theorem j3_eq (t : List Int) (k : Nat) (q s n i : Int) (A count key b : Int) (z : Bool) (F T_ D : Int) :
    quoinlaw09_SeekLine.j3 (k + 1) q s n i true t A count key b z F T_ D = if 0 ≤ i then (if i < (t.length : Int) then (if (rd t i) = b then (if i = q then (if 0 ≤ q then (if q < (t.length : Int) then (if (rd t q) = b then (if (wrap64 (n + 1)) = (mx count 1) then (some ((D == 2) == (s == 1))) else (some false)) else (some false)) else (none)) else (none)) else (quoinlaw09_SeekLine.l0 k q s (wrap64 (n + 1)) (wrap64 (i + s)) t A count key b z F T_ D)) else (if i = q then (if 0 ≤ q then (if q < (t.length : Int) then (if (rd t q) = b then (if n = (mx count 1) then (some ((D == 2) == (s == 1))) else (some false)) else (some false)) else (none)) else (none)) else (quoinlaw09_SeekLine.l0 k q s n (wrap64 (i + s)) t A count key b z F T_ D))) else (none)) else (none) := rfl
section
variable {t : List Int} {q s n i A count key b : Int} {z : Bool} {F T_ D : Int}
theorem ev_succ {α : Type} {g : Nat → Option α} {r : α} (K : Nat) (h : ∀ m, K ≤ m → g (m + 1) = some r) : Ev g r :=
  ⟨K + 1, fun k hk => by obtain ⟨m, rfl⟩ : ∃ m, k = m + 1 := ⟨k - 1, by omega⟩; exact h m (by omega)⟩
theorem j3_go (h1 : 0 ≤ i) (h2 : i < (t.length : Int)) (h3 : rd t i = b) (h4 : ¬ i = q)
    (h : Ev (fun k => quoinlaw09_SeekLine.l0 k q s (wrap64 (n + 1)) (wrap64 (i + s)) t A count key b z F T_ D) true) :
    Ev (fun k => quoinlaw09_SeekLine.j3 k q s n i true t A count key b z F T_ D) true := by
  obtain ⟨K, hK⟩ := h
  refine ev_succ K fun m hm => ?_
  exact (j3_eq t m q s n i A count key b z F T_ D).trans ((if_pos h1).trans ((if_pos h2).trans ((if_pos h3).trans ((if_neg h4).trans (hK m hm)))))
theorem j3_skip (h1 : 0 ≤ i) (h2 : i < (t.length : Int)) (h3 : ¬ rd t i = b) (h4 : ¬ i = q)
    (h : Ev (fun k => quoinlaw09_SeekLine.l0 k q s n (wrap64 (i + s)) t A count key b z F T_ D) true) :
    Ev (fun k => quoinlaw09_SeekLine.j3 k q s n i true t A count key b z F T_ D) true := by
  obtain ⟨K, hK⟩ := h
  refine ev_succ K fun m hm => ?_
  exact (j3_eq t m q s n i A count key b z F T_ D).trans ((if_pos h1).trans ((if_pos h2).trans ((if_neg h3).trans ((if_neg h4).trans (hK m hm)))))
theorem j3_end (h1 : 0 ≤ q) (h2 : q < (t.length : Int)) (h3 : rd t q = b) (h4 : wrap64 (n + 1) = mx count 1) (h5 : ((D == 2) == (s == 1)) = true) :
    Ev (fun k => quoinlaw09_SeekLine.j3 k q s n q true t A count key b z F T_ D) true := by
  refine ev_succ 0 fun m hm => ?_
  exact (j3_eq t m q s n q A count key b z F T_ D).trans ((if_pos h1).trans ((if_pos h2).trans ((if_pos h3).trans ((if_pos rfl).trans ((if_pos h1).trans ((if_pos h2).trans ((if_pos h3).trans ((if_pos h4).trans (congrArg some h5)))))))))
theorem l0_go (h1 : 0 ≤ i) (h2 : i < (t.length : Int)) (h : Ev (fun k => quoinlaw09_SeekLine.j3 k q s n i true t A count key b z F T_ D) true) :
    Ev (fun k => quoinlaw09_SeekLine.l0 k q s n i t A count key b z F T_ D) true := by
  obtain ⟨K, hK⟩ := h
  refine ev_succ K fun m hm => ?_
  have e : quoinlaw09_SeekLine.l0 (m + 1) q s n i t A count key b z F T_ D = if i ≥ 0 then (quoinlaw09_SeekLine.j3 m q s n i (decide (i < (t.length : Int))) t A count key b z F T_ D) else (quoinlaw09_SeekLine.j3 m q s n i false t A count key b z F T_ D) := rfl
  rw [e, if_pos h1, decide_eq_true h2]
  exact hK m hm
end
section
variable {t : List Int} (hl : t.length ≤ 140737488355328)
include hl
/-- The walk ahead to the byte q: n bytes counted, more to come. -/
theorem ahead_walk (q : Nat) (A count key b : Int) (z : Bool) (F T_ : Int) (c : Nat → Int) (M : Int) (hM : mx count 1 = M)
    (hcs : ∀ i, i < t.length → c (i + 1) = c i + (if t.getD i 0 = b then 1 else 0)) (hcm : ∀ p q, p ≤ q → q ≤ t.length → c p ≤ c q)
    (hq : q < t.length) (hb : t.getD q 0 = b) : ∀ (d i : Nat) (n : Int), d = q - i → i ≤ q → 0 ≤ n → n + (c (q + 1) - c i) = M → M ≤ 10000 →
    Ev (fun k => quoinlaw09_SeekLine.l0 k (q : Int) 1 n (i : Int) t A count key b z F T_ 2) true := by
  have hrq : rd t (q : Int) = b := by rw [rd_nat]; exact hb
  intro d
  induction d with
  | zero =>
    intro i n hd hi hn hc hm
    have he : i = q := by omega
    subst he
    have hs := hcs i hq
    rw [if_pos hb] at hs
    refine l0_go (by omega) (by omega) (j3_end (by omega) (by omega) hrq ?_ rfl)
    rw [wrap64_id (by omega) (by omega), hM]
    omega
  | succ d ih =>
    intro i n hd hi hn hc hm
    have hs := hcs i (by omega)
    have hmono := hcm (i + 1) (q + 1) (by omega) (by omega)
    refine l0_go (by omega) (by omega) ?_
    have hne : ¬ ((i : Int) = (q : Int)) := by omega
    by_cases hx : t.getD i 0 = b
    · rw [if_pos hx] at hs
      refine j3_go (by omega) (by omega) (by rw [rd_nat]; exact hx) hne ?_
      rw [wrap64_id (n := n + 1) (by omega) (by omega), wrap64_id (n := (i : Int) + 1) (by omega) (by omega), show (i : Int) + 1 = ((i + 1 : Nat) : Int) from by omega]
      exact ih (i + 1) (n + 1) (by omega) (by omega) (by omega) (by omega) hm
    · rw [if_neg hx] at hs
      refine j3_skip (by omega) (by omega) (by rw [rd_nat]; exact hx) hne ?_
      rw [wrap64_id (n := (i : Int) + 1) (by omega) (by omega), show (i : Int) + 1 = ((i + 1 : Nat) : Int) from by omega]
      exact ih (i + 1) n (by omega) (by omega) hn (by omega) hm
/-- The walk back. -/
theorem back_walk (q : Nat) (A count key b : Int) (z : Bool) (F T_ : Int) (c : Nat → Int) (M : Int) (hM : mx count 1 = M)
    (hcs : ∀ i, i < t.length → c (i + 1) = c i + (if t.getD i 0 = b then 1 else 0)) (hcm : ∀ p q, p ≤ q → q ≤ t.length → c p ≤ c q)
    (hq : q < t.length) (hb : t.getD q 0 = b) : ∀ (d i : Nat) (n : Int), i = q + d → i < t.length → 0 ≤ n → n + (c (i + 1) - c q) = M → M ≤ 10000 →
    Ev (fun k => quoinlaw09_SeekLine.l0 k (q : Int) (-1) n (i : Int) t A count key b z F T_ 1) true := by
  have hrq : rd t (q : Int) = b := by rw [rd_nat]; exact hb
  intro d
  induction d with
  | zero =>
    intro i n hd hi hn hc hm
    have he : i = q := by omega
    subst he
    have hs := hcs i hq
    rw [if_pos hb] at hs
    refine l0_go (by omega) (by omega) (j3_end (by omega) (by omega) hrq ?_ rfl)
    rw [wrap64_id (by omega) (by omega), hM]
    omega
  | succ d ih =>
    intro i n hd hi hn hc hm
    have hs := hcs i (by omega)
    have hmono := hcm q i (by omega) (by omega)
    refine l0_go (by omega) (by omega) ?_
    have hne : ¬ ((i : Int) = (q : Int)) := by omega
    have e2 : i - 1 + 1 = i := by omega
    by_cases hx : t.getD i 0 = b
    · rw [if_pos hx] at hs
      refine j3_go (by omega) (by omega) (by rw [rd_nat]; exact hx) hne ?_
      rw [wrap64_id (n := n + 1) (by omega) (by omega), wrap64_id (n := (i : Int) + -1) (by omega) (by omega), show (i : Int) + -1 = ((i - 1 : Nat) : Int) from by omega]
      exact ih (i - 1) (n + 1) (by omega) (by omega) (by omega) (by rw [e2]; omega) hm
    · rw [if_neg hx] at hs
      refine j3_skip (by omega) (by omega) (by rw [rd_nat]; exact hx) hne ?_
      rw [wrap64_id (n := (i : Int) + -1) (by omega) (by omega), show (i : Int) + -1 = ((i - 1 : Nat) : Int) from by omega]
      exact ih (i - 1) n (by omega) (by omega) hn (by rw [e2]; omega) hm
end
theorem ar1 {x y z N M : Int} (h1 : y = x + N) (h2 : z = y + 1) (h3 : M = N + 1) : 0 + (z - x) = M := by omega
theorem ar2 {x y N M : Int} (h1 : y = x + 1 + N) (h3 : M = N + 1) : 0 + (y - x) = M := by omega
theorem SeekLine : Say.SeekLine := by
  rintro ⟨t, at_, count, ⟨key, b⟩, z⟩ ⟨ht, ha, hc, ⟨hk, hb⟩, _⟩
  have hu : u8s t = true := u8s_ok ht
  have hl : t.length ≤ 140737488355328 := by have h1 : t.length * 1 ≤ 140737488351232 := ht.1; omega
  refine Ev.rounds (g := fun k => quoinlaw09_SeekLine.f k t at_ count key b z) ?_
  refine Ev.bind awake_ev (Ev.pos rfl (Ev.bind (Move_ev hu hl at_ count key b) ?_))
  have herr : ∀ e : Int, e ≠ 0 → MoveR t at_ count key b = (0, 0, 0, e) → Ev (fun k => if (MoveR t at_ count key b).2.2.2 = 0 then ((lines_Of.f t at_).bind fun bt189 => ((lines_Of.f t (MoveR t at_ count key b).2.1).bind fun bt191 => (if bt189.2 = 0 then (if bt191.2 = 0 then (if bt189.1 = bt191.1 then (quoinlaw09_SeekLine.j0 k ((MoveR t at_ count key b).1 != at_) t at_ count key b z (MoveR t at_ count key b).1 (MoveR t at_ count key b).2.1 (MoveR t at_ count key b).2.2.1) else (quoinlaw09_SeekLine.j0 k true t at_ count key b z (MoveR t at_ count key b).1 (MoveR t at_ count key b).2.1 (MoveR t at_ count key b).2.2.1)) else (quoinlaw09_SeekLine.j0 k true t at_ count key b z (MoveR t at_ count key b).1 (MoveR t at_ count key b).2.1 (MoveR t at_ count key b).2.2.1)) else (quoinlaw09_SeekLine.j0 k true t at_ count key b z (MoveR t at_ count key b).1 (MoveR t at_ count key b).2.1 (MoveR t at_ count key b).2.2.1)))) else (some ((MoveR t at_ count key b).1 == 0 && ((MoveR t at_ count key b).2.1 == 0 && ((MoveR t at_ count key b).2.2.1 == 0))))) true := by
    intro e he h
    rw [h]
    exact Ev.neg he (Ev.const rfl)
  by_cases hbd : badB t at_ count = true
  · exact herr 2 (by decide) (by unfold MoveR; rw [if_pos hbd])
  have hin := bad_false hbd
  by_cases hkb : keyB key = true
  case neg => exact herr 2 (by decide) (by unfold MoveR; rw [if_neg hbd, if_neg hkb])
  obtain ⟨a, rfl⟩ : ∃ a : Nat, at_ = (a : Int) := ⟨at_.toNat, by omega⟩
  have hal : a ≤ t.length := by omega
  have hM : MoveR t (a : Int) count key b = moveR t a 1 (cntN count) key b := by unfold MoveR; rw [if_neg hbd, if_pos hkb, Int.toNat_natCast]
  cases hq : SK.look t a 1 (cntN count) key b with
  | none => exact herr 70 (by decide) (by rw [hM]; unfold moveR; rw [hq])
  | some q =>
    obtain ⟨q1, q2, q3, q4, q5⟩ := look_some (by omega) hq
    have hf0 := fin_ge t a
    have hf1 := fin_le hal
    have hba := beg_le t a
    have hmc : mx count 1 = ((cntN count : Nat) : Int) + 1 := by rw [mx_eq]; unfold cntN; omega
    have hmc2 : mx count 1 ≤ 10000 := by rw [mx_eq]; omega
    -- places of the line hold one number
    have hline : ∀ to_ : Nat, beg t a ≤ to_ → to_ ≤ fin t a → cnt 10 (t.take to_) = cnt 10 (t.take a) := by
      intro to_ h1 h2
      rcases Nat.le_total to_ a with h | h
      · exact (cnt_same h hal (fun j h3 h4 => beg_ne (by omega) h4)).symm
      · exact cnt_same h (by omega) (fun j h3 h4 => fin_ne h3 (by omega))
    have hgo : ∀ (to_ : Nat) (kind : Int), beg t a ≤ to_ → to_ ≤ fin t a → moveR t a 1 (cntN count) key b = ((a : Int), (to_ : Int), kind, 0) →
        Ev (fun k => quoinlaw09_SeekLine.j0 k false t (a : Int) count key b z (a : Int) (to_ : Int) kind) true → Ev (fun k => if (MoveR t (a : Int) count key b).2.2.2 = 0 then ((lines_Of.f t (a : Int)).bind fun bt189 => ((lines_Of.f t (MoveR t (a : Int) count key b).2.1).bind fun bt191 => (if bt189.2 = 0 then (if bt191.2 = 0 then (if bt189.1 = bt191.1 then (quoinlaw09_SeekLine.j0 k ((MoveR t (a : Int) count key b).1 != (a : Int)) t (a : Int) count key b z (MoveR t (a : Int) count key b).1 (MoveR t (a : Int) count key b).2.1 (MoveR t (a : Int) count key b).2.2.1) else (quoinlaw09_SeekLine.j0 k true t (a : Int) count key b z (MoveR t (a : Int) count key b).1 (MoveR t (a : Int) count key b).2.1 (MoveR t (a : Int) count key b).2.2.1)) else (quoinlaw09_SeekLine.j0 k true t (a : Int) count key b z (MoveR t (a : Int) count key b).1 (MoveR t (a : Int) count key b).2.1 (MoveR t (a : Int) count key b).2.2.1)) else (quoinlaw09_SeekLine.j0 k true t (a : Int) count key b z (MoveR t (a : Int) count key b).1 (MoveR t (a : Int) count key b).2.1 (MoveR t (a : Int) count key b).2.2.1)))) else (some ((MoveR t (a : Int) count key b).1 == 0 && ((MoveR t (a : Int) count key b).2.1 == 0 && ((MoveR t (a : Int) count key b).2.2.1 == 0))))) true := by
      intro to_ kind h1 h2 h3 h4
      rw [hM, h3]
      refine Ev.pos rfl (Ev.cbind (Of_eq hu (a : Int)) (Ev.cbind (Of_eq hu (to_ : Int)) ?_))
      rw [if_pos (by omega), if_pos (by omega), Int.toNat_natCast, Int.toNat_natCast, hline to_ h1 h2]
      refine Ev.pos rfl (Ev.pos rfl (Ev.pos rfl ?_))
      rw [show ((a : Int) != (a : Int)) = false from by simp]
      exact h4
    unfold SK.look at hq
    rcases keyOk_of hkb with hk' | hk' | hk' | hk' <;> subst hk'
    · have h1 := q4 rfl
      rw [if_pos (show isA 102 = true from rfl)] at hq
      obtain ⟨n1, n2, n3, n4⟩ := (nthA_iff (by omega)).1 hq
      have hs := cnt_succ b (t := t) (n := q) (by omega)
      rw [if_pos q1] at hs
      refine hgo q 2 (by omega) (by omega) (by unfold moveR; unfold SK.look; rw [if_pos (show isA 102 = true from rfl), hq]; rfl) ?_
      have hw := ahead_walk hl q (a : Int) count 102 b z (a : Int) (q : Int) (fun i => cnt b (t.take i)) _ rfl (fun i h => cnt_succ b h) (fun p q h1 h2 => cntb_mono b h1 h2) (by omega) q1 (q - (a + 1)) (a + 1) 0 rfl (by omega) (Int.le_refl _) (ar1 n4 hs hmc) hmc2
      refine Ev.step (f := fun k => quoinlaw09_SeekLine.j1 k (q : Int) 1 t (a : Int) count 102 b z (a : Int) (q : Int) 2) (fun k => rfl) (Ev.step (f := fun k => quoinlaw09_SeekLine.l0 k (q : Int) 1 0 (wrap64 ((a : Int) + 1)) t (a : Int) count 102 b z (a : Int) (q : Int) 2) (fun k => rfl) ?_)
      rw [wrap64_id (n := (a : Int) + 1) (by omega) (by omega), show (a : Int) + 1 = ((a + 1 : Nat) : Int) from by omega]
      exact hw
    · have h1 := q5 rfl
      rw [if_neg (show ¬ isA 70 = true by decide)] at hq
      obtain ⟨n1, n2, n3, n4⟩ := (nthB_iff (by omega)).1 hq
      rw [show beg t a + (a + 1 - 1 - beg t a) = a from by omega] at n4
      refine hgo q 1 (by omega) (by omega) (by unfold moveR; unfold SK.look; rw [if_neg (show ¬ isA 70 = true by decide), hq]; rfl) ?_
      have hw := back_walk hl q (a : Int) count 70 b z (a : Int) (q : Int) (fun i => cnt b (t.take i)) _ rfl (fun i h => cnt_succ b h) (fun p q h1 h2 => cntb_mono b h1 h2) (by omega) q1 (a - 1 - q) (a - 1) 0 (by omega) (by omega) (Int.le_refl _) (by show (0 : Int) + (cnt b (t.take (a - 1 + 1)) - cnt b (t.take q)) = _; rw [show a - 1 + 1 = a from by omega]; exact ar2 n4 hmc) hmc2
      refine Ev.step (f := fun k => quoinlaw09_SeekLine.j1 k (q : Int) (-1) t (a : Int) count 70 b z (a : Int) (q : Int) 1) (fun k => rfl) (Ev.step (f := fun k => quoinlaw09_SeekLine.l0 k (q : Int) (-1) 0 (wrap64 ((a : Int) + -1)) t (a : Int) count 70 b z (a : Int) (q : Int) 1) (fun k => rfl) ?_)
      rw [wrap64_id (n := (a : Int) + -1) (by omega) (by omega), show (a : Int) + -1 = ((a - 1 : Nat) : Int) from by omega]
      exact hw
    · have h1 := q4 rfl
      rw [if_pos (show isA 116 = true from rfl)] at hq
      obtain ⟨n1, n2, n3, n4⟩ := (nthA_iff (by omega)).1 hq
      have hs := cnt_succ b (t := t) (n := q) (by omega)
      rw [if_pos q1] at hs
      refine hgo (q - 1) 2 (by omega) (by omega) (by unfold moveR; unfold SK.look; rw [if_pos (show isA 116 = true from rfl), hq]; simp; omega) ?_
      have hw := ahead_walk hl q (a : Int) count 116 b z (a : Int) ((q - 1 : Nat) : Int) (fun i => cnt b (t.take i)) _ rfl (fun i h => cnt_succ b h) (fun p q h1 h2 => cntb_mono b h1 h2) (by omega) q1 (q - (a + 1)) (a + 1) 0 rfl (by omega) (Int.le_refl _) (ar1 n4 hs hmc) hmc2
      refine Ev.step (f := fun k => quoinlaw09_SeekLine.j1 k (wrap64 (((q - 1 : Nat) : Int) + 1)) 1 t (a : Int) count 116 b z (a : Int) ((q - 1 : Nat) : Int) 2) (fun k => rfl) ?_
      rw [wrap64_id (n := ((q - 1 : Nat) : Int) + 1) (by omega) (by omega), show ((q - 1 : Nat) : Int) + 1 = (q : Int) from by omega]
      refine Ev.step (f := fun k => quoinlaw09_SeekLine.l0 k (q : Int) 1 0 (wrap64 ((a : Int) + 1)) t (a : Int) count 116 b z (a : Int) ((q - 1 : Nat) : Int) 2) (fun k => rfl) ?_
      rw [wrap64_id (n := (a : Int) + 1) (by omega) (by omega), show (a : Int) + 1 = ((a + 1 : Nat) : Int) from by omega]
      exact hw
    · have h1 := q5 rfl
      rw [if_neg (show ¬ isA 84 = true by decide)] at hq
      obtain ⟨n1, n2, n3, n4⟩ := (nthB_iff (by omega)).1 hq
      rw [show beg t a + (a + 1 - 1 - beg t a) = a from by omega] at n4
      refine hgo (q + 1) 1 (by omega) (by omega) (by unfold moveR; unfold SK.look; rw [if_neg (show ¬ isA 84 = true by decide), hq]; simp) ?_
      have hw := back_walk hl q (a : Int) count 84 b z (a : Int) ((q + 1 : Nat) : Int) (fun i => cnt b (t.take i)) _ rfl (fun i h => cnt_succ b h) (fun p q h1 h2 => cntb_mono b h1 h2) (by omega) q1 (a - 1 - q) (a - 1) 0 (by omega) (by omega) (Int.le_refl _) (by show (0 : Int) + (cnt b (t.take (a - 1 + 1)) - cnt b (t.take q)) = _; rw [show a - 1 + 1 = a from by omega]; exact ar2 n4 hmc) hmc2
      refine Ev.step (f := fun k => quoinlaw09_SeekLine.j1 k (wrap64 (((q + 1 : Nat) : Int) - 1)) (-1) t (a : Int) count 84 b z (a : Int) ((q + 1 : Nat) : Int) 1) (fun k => rfl) ?_
      rw [wrap64_id (n := ((q + 1 : Nat) : Int) - 1) (by omega) (by omega), show ((q + 1 : Nat) : Int) - 1 = (q : Int) from by omega]
      refine Ev.step (f := fun k => quoinlaw09_SeekLine.l0 k (q : Int) (-1) 0 (wrap64 ((a : Int) + -1)) t (a : Int) count 84 b z (a : Int) ((q + 1 : Nat) : Int) 1) (fun k => rfl) ?_
      rw [wrap64_id (n := (a : Int) + -1) (by omega) (by omega), show (a : Int) + -1 = ((a - 1 : Nat) : Int) from by omega]
      exact hw
end Go.Proofs.Ytdeohajlijalkaa.Pure
