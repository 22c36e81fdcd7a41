/-
  SeekBack, the pure statement: back again; counts in parts.
  Conditions: none.
-/
import Derived.Test.YtdeohajlijalkaaSK3
import Derived.Test.YtdeohajlijalkaaSaySeekBack
import Derived.Test.YtdeohajlijalkaaX22
namespace Go.Proofs.Ytdeohajlijalkaa.Pure
open Go.RowKit Go.Proofs.YtdeohajlijalkaaW.PrintWords Go.Proofs.YtdeohajlijalkaaW.PrintMore Go.Proofs.Ytdeohajlijalkaa.X Go.Proofs.Ytdeohajlijalkaa.XL Go.Proofs.Ytdeohajlijalkaa.XO Go.Proofs.Ytdeohajlijalkaa.LN Go.Proofs.Ytdeohajlijalkaa.SK
theorem Move_f {t : List Int} {a : Nat} {c b : Int} (ha : a ≤ t.length) (hc : 1 ≤ c ∧ c ≤ 9999) : MoveR t (a : Int) c 102 b = match nthA t b (fin t a - (a + 1)) (a + 1) (c - 1).toNat with | none => (0, 0, 0, 70) | some q => ((a : Int), (q : Int), 2, 0) := by
  unfold MoveR
  have hb : badB t (a : Int) c = false := by unfold badB; rw [decide_eq_false_iff_not]; omega
  rw [hb, if_neg (by decide), if_pos (by decide), Int.toNat_natCast]
  have hn : cntN c = (c - 1).toNat := by unfold cntN; omega
  rw [hn]
  rfl
theorem Move_F {t : List Int} {a : Nat} {c b : Int} (ha : a ≤ t.length) (hc : 1 ≤ c ∧ c ≤ 9999) : MoveR t (a : Int) c 70 b = match nthB t b (beg t a) (a - beg t a) (c - 1).toNat with | none => (0, 0, 0, 70) | some q => ((a : Int), (q : Int), 1, 0) := by
  unfold MoveR
  have hb : badB t (a : Int) c = false := by unfold badB; rw [decide_eq_false_iff_not]; omega
  rw [hb, if_neg (by decide), if_pos (by decide), Int.toNat_natCast]
  have hn : cntN c = (c - 1).toNat := by unfold cntN; omega
  rw [hn]
  rfl
theorem SeekBack : Say.SeekBack := by
  intro t at_ c d b ht ha hc hd hb
  have hu := u8s_ok ht
  have hl : t.length ≤ 140737488355328 := by have h1 : t.length * 1 ≤ 140737488351232 := ht.1; omega
  refine Ev.rounds (g := fun k => quoinlaw09_SeekBack.f k t at_ c d b) ?_
  refine Ev.bind awake_ev (Ev.pos rfl ?_)
  have htrue : ∀ k, 1 ≤ k → quoinlaw09_SeekBack.j0 k t at_ c d b true = some true := fun k hk => by
    obtain ⟨m, rfl⟩ : ∃ m, k = m + 1 := ⟨k - 1, by omega⟩
    rfl
  have hT : Ev (fun k => quoinlaw09_SeekBack.j0 k t at_ c d b true) true := ⟨1, fun k hk => htrue k hk⟩
  by_cases c1 : c < 1
  · exact Ev.pos c1 hT
  refine Ev.neg c1 ?_
  by_cases d1 : d < 1
  · exact Ev.pos d1 hT
  refine Ev.neg d1 ?_
  by_cases c2 : c > 4999
  · exact Ev.pos c2 hT
  refine Ev.neg c2 ?_
  by_cases d2 : d > 4999
  · rw [decide_eq_true d2]
    exact hT
  rw [decide_eq_false d2]
  refine Ev.step (f := fun k => (seek_Move.f k t at_ c 102 b).bind fun bt197 => (if bt197.2.2.2 = 0 then (if at_ < (t.length : Int) then (if 0 ≤ at_ then (quoinlaw09_SeekBack.j1 k t at_ c d b ((rd t at_) == b) bt197.1 bt197.2.1 bt197.2.2.1) else (none)) else (quoinlaw09_SeekBack.j1 k t at_ c d b false bt197.1 bt197.2.1 bt197.2.2.1)) else (if bt197.2.2.2 = 2 then (some true) else (some (bt197.2.2.2 == 70))))) (fun k => rfl) ?_
  refine Ev.bind (Move_ev hu hl at_ c 102 b) ?_
  by_cases hbd : badB t at_ c = true
  · have e : MoveR t at_ c 102 b = (0, 0, 0, 2) := by unfold MoveR; rw [if_pos hbd]
    rw [e]
    exact Ev.neg (by decide) (Ev.pos rfl (Ev.now _))
  have hin := bad_false hbd
  obtain ⟨a, rfl⟩ : ∃ a : Nat, at_ = (a : Int) := ⟨at_.toNat, by omega⟩
  have hal : a ≤ t.length := by omega
  rw [Move_f hal (by omega)]
  cases hq : nthA t b (fin t a - (a + 1)) (a + 1) (c - 1).toNat with
  | none => exact Ev.neg (show ¬ ((70 : Int) = 0) from by decide) (Ev.neg (show ¬ ((70 : Int) = 2) from by decide) (Ev.const rfl))
  | some q =>
    have hf0 := fin_ge t a
    have hf1 := fin_le hal
    have hfa : a + 1 + (fin t a - (a + 1)) ≤ t.length ∨ fin t a - (a + 1) = 0 := by omega
    have hfa2 : a + 1 + (fin t a - (a + 1)) ≤ t.length := by
      rcases hfa with h | h
      · exact h
      · rw [h] at hq; cases hq
    obtain ⟨q1, q2, q3, q4⟩ := (nthA_iff hfa2).1 hq
    have hqf : fin t q = fin t a := same_fin hal (by omega) (by omega)
    have hqb : beg t q = beg t a := same_beg (by omega) (by omega)
    have hba := beg_le t a
    have hql : q ≤ t.length := by omega
    have hcq := cnt_succ b (t := t) (n := q) (by omega)
    rw [if_pos q3] at hcq
    -- the two ways onward
    have hon : nthA t b (fin t q - (q + 1)) (q + 1) (d - 1).toNat = nthA t b (fin t a - (a + 1)) (a + 1) (c + d - 1).toNat := by
      apply Option.ext
      intro r
      rw [nthA_iff (by omega), nthA_iff hfa2]
      constructor
      · rintro ⟨h1, h2, h3, h4⟩
        exact ⟨by omega, by omega, h3, by omega⟩
      · rintro ⟨h1, h2, h3, h4⟩
        have h5 : q + 1 ≤ r := by
          rcases Nat.lt_or_ge q r with h | h
          · exact h
          · have := cntb_mono b (t := t) (p := r) (q := q) h hql
            omega
        exact ⟨h5, by omega, h3, by omega⟩
    have hend : Ev (fun k => (seek_Move.f k t (q : Int) d 102 b).bind fun bt218 => ((seek_Move.f k t (a : Int) (wrap64 (c + d)) 102 b).bind fun bt223 => (if bt218.2.2.2 = bt223.2.2.2 then (some (bt218.2.1 == bt223.2.1)) else (some false)))) true := by
      refine Ev.bind (Move_ev hu hl (q : Int) d 102 b) ?_
      rw [wrap64_id (n := c + d) (by omega) (by omega)]
      refine Ev.bind (Move_ev hu hl (a : Int) (c + d) 102 b) (Ev.const ?_)
      rw [Move_f hql (by omega), Move_f hal (by omega), hon]
      cases nthA t b (fin t a - (a + 1)) (a + 1) (c + d - 1).toNat with
      | none => rfl
      | some r => simp
    have hj1f : Ev (fun k => quoinlaw09_SeekBack.j1 k t (a : Int) c d b false (a : Int) (q : Int) 2) true := Ev.step (fun k => rfl) hend
    refine Ev.pos rfl ?_
    by_cases hlt : (a : Int) < (t.length : Int)
    · refine Ev.pos hlt (Ev.pos (by omega) ?_)
      by_cases hab : rd t (a : Int) = b
      · have e1 : (rd t (a : Int) == b) = true := beq_iff_eq.mpr hab
        rw [e1]
        rw [rd_nat] at hab
        have hca := cnt_succ b (t := t) (n := a) (by omega)
        rw [if_pos hab] at hca
        have hF : MoveR t (q : Int) c 70 b = ((q : Int), (a : Int), 1, 0) := by
          rw [Move_F hql (by omega)]
          have h1 : nthB t b (beg t q) (q - beg t q) (c - 1).toNat = some a := by
            rw [nthB_iff (by omega)]
            refine ⟨by omega, by omega, hab, ?_⟩
            rw [show beg t q + (q - beg t q) = q from by omega, q4, hca]
          rw [h1]
        refine Ev.step (f := fun k => (seek_Move.f k t (q : Int) c 70 b).bind fun bt203 => (if bt203.2.2.2 = 0 then (quoinlaw09_SeekBack.j2 k t (a : Int) c d b (bt203.2.1 != (a : Int)) (a : Int) (q : Int) 2) else (quoinlaw09_SeekBack.j2 k t (a : Int) c d b true (a : Int) (q : Int) 2))) (fun k => rfl) ?_
        refine Ev.bind (Move_ev hu hl (q : Int) c 70 b) ?_
        rw [hF]
        refine Ev.pos rfl ?_
        have e2 : ((a : Int) != (a : Int)) = false := by simp
        rw [e2]
        exact Ev.step (fun k => rfl) hend
      · have e1 : (rd t (a : Int) == b) = false := beq_eq_false_iff_ne.mpr hab
        rw [e1]
        exact hj1f
    · exact Ev.neg hlt hj1f
end Go.Proofs.Ytdeohajlijalkaa.Pure
