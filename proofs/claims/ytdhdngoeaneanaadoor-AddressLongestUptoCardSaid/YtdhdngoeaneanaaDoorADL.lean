/-
  Texts of one proof in one file (wip/some.py): AT0, AT6, AT7.
  Conditions: none.
-/
import Derived.Test.YtdhdngoeaneanaaDoorXL
import Derived.Test.YtdhdngoeaneanaaDoorXO
import Derived.Test.YtdhdngoeaneanaaDoorX7
import Derived.Test.YtdhdngoeaneanaaDoorX8
section
namespace Go.Proofs.YtdhdngoeaneanaaDoor.AD
open Go.RowKit Go.Proofs.YtdhdngoeaneanaaDoorW.PrintWords Go.Proofs.YtdhdngoeaneanaaDoorW.PrintMore Go.Proofs.YtdhdngoeaneanaaDoor.X Go.Proofs.YtdhdngoeaneanaaDoor.XL Go.Proofs.YtdhdngoeaneanaaDoor.XO
set_option linter.unusedVariables false
def isD (x : Int) : Bool := decide (48 ≤ x ∧ x ≤ 57)
theorem isD_eq (x : Int) : address_isDigit.f x = some (isD x) := by
  unfold address_isDigit.f isD
  by_cases h : x ≥ 48
  · rw [if_pos h]; congr 1; exact decide_eq_decide.2 ⟨fun h2 => ⟨h, h2⟩, fun h2 => h2.2⟩
  · rw [if_neg h, decide_eq_false (fun h2 => h h2.1)]
def digs (l : List Int) : List Int := l.takeWhile isD
def valN : Int → List Int → Int
  | n, [] => n
  | n, x :: l => valN (n * 10 + (x - 48)) l
def numV (l : List Int) : Int × Int × Bool := if (digs l).length ≤ 9 then (valN 0 (digs l), ((digs l).length : Int), true) else (0, 0, false)
theorem rd_mid (pre suf : List Int) (x : Int) : rd (pre ++ x :: suf) (pre.length : Int) = x := by
  unfold rd
  rw [Int.toNat_natCast]
  exact getD_mid pre suf x 0
theorem num_l0 (t : List Int) : ∀ (suf pre : List Int) (n : Int), t = pre ++ suf → pre.length ≤ 9 → 0 ≤ n → n < 10 ^ pre.length → Ev (fun k => address_number.l0 k t n (pre.length : Int)) (if (digs suf).length + pre.length ≤ 9 then (valN n (digs suf), ((digs suf).length + pre.length : Int), true) else (0, 0, false)) := by
  intro suf
  induction suf with
  | nil =>
    rintro pre n ht hp h0 h1
    rw [if_pos (by simp [digs]; omega)]
    refine Ev.step (fun k => address_number.l0.eq_2 ..) (Ev.neg (by rw [ht]; simp) (Ev.step (fun k => address_number.j1.eq_2 ..) (Ev.neg (by decide) ?_)))
    exact Ev.eq (Ev.now _) (by simp [digs, valN])
  | cons x suf ih =>
    rintro pre n ht hp h0 h1
    have hlen : t.length = pre.length + suf.length + 1 := by rw [ht]; exact len_mid pre suf x
    have hx : rd t (pre.length : Int) = x := by rw [ht]; exact rd_mid pre suf x
    refine Ev.step (fun k => address_number.l0.eq_2 ..) (Ev.pos (by omega) (Ev.pos (by omega) ?_))
    rw [hx]
    refine Ev.cbind (isD_eq x) (Ev.step (fun k => address_number.j1.eq_2 ..) ?_)
    cases hd : isD x with
    | false =>
      have hz : digs (x :: suf) = [] := by unfold digs; rw [List.takeWhile_cons, hd]; rfl
      rw [hz, if_pos (by simp; omega)]
      exact Ev.neg (by decide) (Ev.eq (Ev.now _) (by simp [valN]))
    | true =>
      have hz : digs (x :: suf) = x :: digs suf := by unfold digs; rw [List.takeWhile_cons, hd]; rfl
      have hr : 48 ≤ x ∧ x ≤ 57 := of_decide_eq_true hd
      rw [hz]
      refine Ev.pos rfl ?_
      by_cases h9 : pre.length = 9
      · rw [if_neg (by rw [List.length_cons]; omega)]
        exact Ev.pos (by omega) (Ev.now _)
      · refine Ev.neg (by omega) (Ev.pos (by omega) (Ev.pos (by omega) ?_))
        have hpow : (10 : Int) ^ pre.length ≤ 1000000000 := by
          have h : pre.length = 0 ∨ pre.length = 1 ∨ pre.length = 2 ∨ pre.length = 3 ∨ pre.length = 4 ∨ pre.length = 5 ∨ pre.length = 6 ∨ pre.length = 7 ∨ pre.length = 8 := by omega
          rcases h with h | h | h | h | h | h | h | h | h <;> rw [h] <;> decide
        have hq : (10 : Int) ^ (pre ++ [x]).length = 10 ^ pre.length * 10 := by rw [List.length_append, List.length_singleton, Int.pow_succ]
        have h := ih (pre ++ [x]) (n * 10 + (x - 48)) (by rw [ht]; simp) (by rw [List.length_append, List.length_singleton]; omega) (by omega) (by rw [hq]; omega)
        rw [hx, wrap64_id (n := n * 10) (by omega) (by omega), show (x - 48) % 256 = x - 48 from by omega, wrap64_id (n := n * 10 + (x - 48)) (by omega) (by omega), wrap_len pre x (by omega)]
        refine Ev.eq h ?_
        rw [List.length_append, List.length_singleton, List.length_cons]
        by_cases hle : (digs suf).length + (pre.length + 1) ≤ 9
        · rw [if_pos hle, if_pos (by omega)]
          refine Prod.ext rfl (Prod.ext ?_ rfl)
          simp only
          omega
        · rw [if_neg hle, if_neg (by omega)]
theorem num_ev (t : List Int) : Ev (fun k => address_number.f k t) (numV t) := by
  have h := num_l0 t t [] 0 rfl (by simp) (by decide) (by decide)
  unfold numV
  show Ev (fun k => address_number.l0 k t 0 0) _
  simpa using h
def clos (sign : Int) : List Int → Nat
  | [] => 0
  | [x] => if x = 92 then 1 else if x = sign then 0 else 1
  | x :: y :: l => if x = 92 then clos sign l + 2 else if x = sign then 0 else clos sign (y :: l) + 1
def alon : List Int → Bool
  | [] => false
  | [x] => decide (x = 92)
  | x :: y :: l => if x = 92 then alon l else alon (y :: l)
theorem clos_le (sign : Int) : ∀ l : List Int, clos sign l ≤ l.length
  | [] => Nat.le_refl _
  | [x] => by unfold clos; repeat (first | split | simp)
  | x :: y :: l => by
    have h1 := clos_le sign l
    have h2 := clos_le sign (y :: l)
    unfold clos
    simp only [List.length_cons] at h2 ⊢
    split
    · omega
    · split <;> omega
theorem clos_l0 (t : List Int) (sign : Int) (hl : t.length ≤ 1099511627776) : ∀ (suf pre : List Int), t = pre ++ suf → Ev (fun k => address_closing.l0 k t sign (pre.length : Int)) ((pre.length + clos sign suf : Nat) : Int)
  | [], pre, ht => by
    refine Ev.step (fun k => address_closing.l0.eq_2 ..) (Ev.neg (by rw [ht]; simp) ?_)
    exact Ev.eq (Ev.now _) (by rw [ht]; simp [clos])
  | [x], pre, ht => by
    have hlen : t.length = pre.length + 1 := by rw [ht]; simp
    have hx : rd t (pre.length : Int) = x := by rw [ht]; exact rd_mid pre [] x
    refine Ev.step (fun k => address_closing.l0.eq_2 ..) (Ev.pos (by omega) (Ev.pos (by omega) ?_))
    rw [hx]
    by_cases h92 : x = 92
    · refine Ev.pos h92 ?_
      rw [wrap64_id (n := (pre.length : Int) + 1) (by omega) (by omega), wrap64_id (n := (pre.length : Int) + 1 + 1) (by omega) (by omega)]
      refine Ev.step (fun k => address_closing.l0.eq_2 ..) (Ev.neg (by omega) ?_)
      exact Ev.eq (Ev.now _) (by rw [show clos sign [x] = 1 from if_pos h92, hlen])
    · refine Ev.neg h92 ?_
      by_cases hs : x = sign
      · refine Ev.pos hs (Ev.eq (Ev.now _) ?_)
        rw [show clos sign [x] = 0 from by unfold clos; rw [if_neg h92, if_pos hs]]; rfl
      · refine Ev.neg hs ?_
        rw [wrap64_id (n := (pre.length : Int) + 1) (by omega) (by omega)]
        refine Ev.step (fun k => address_closing.l0.eq_2 ..) (Ev.neg (by omega) ?_)
        exact Ev.eq (Ev.now _) (by rw [show clos sign [x] = 1 from by unfold clos; rw [if_neg h92, if_neg hs], hlen])
  | x :: y :: l, pre, ht => by
    have hlen : t.length = pre.length + l.length + 2 := by rw [ht]; simp; omega
    have hx : rd t (pre.length : Int) = x := by rw [ht]; exact rd_mid pre (y :: l) x
    refine Ev.step (fun k => address_closing.l0.eq_2 ..) (Ev.pos (by omega) (Ev.pos (by omega) ?_))
    rw [hx]
    by_cases h92 : x = 92
    · refine Ev.pos h92 ?_
      have h := clos_l0 t sign hl l (pre ++ [x, y]) (by rw [ht]; simp)
      rw [wrap64_id (n := (pre.length : Int) + 1) (by omega) (by omega), wrap64_id (n := (pre.length : Int) + 1 + 1) (by omega) (by omega)]
      rw [show ((pre ++ [x, y]).length : Int) = (pre.length : Int) + 1 + 1 from by rw [List.length_append]; simp; omega] at h
      refine Ev.eq h ?_
      rw [show clos sign (x :: y :: l) = clos sign l + 2 from if_pos h92, List.length_append]
      simp; omega
    · refine Ev.neg h92 ?_
      by_cases hs : x = sign
      · refine Ev.pos hs (Ev.eq (Ev.now _) ?_)
        rw [show clos sign (x :: y :: l) = 0 from by unfold clos; rw [if_neg h92, if_pos hs]]; rfl
      · refine Ev.neg hs ?_
        have h := clos_l0 t sign hl (y :: l) (pre ++ [x]) (by rw [ht]; simp)
        rw [wrap_len pre x (by omega)]
        refine Ev.eq h ?_
        rw [show clos sign (x :: y :: l) = clos sign (y :: l) + 1 from by rw [clos]; rw [if_neg h92, if_neg hs], List.length_append, List.length_singleton]
        omega
theorem clos_ev (t : List Int) (sign : Int) (hl : t.length ≤ 1099511627776) : Ev (fun k => address_closing.f k t sign) (clos sign t : Int) := by
  have h := clos_l0 t sign hl t [] rfl
  show Ev (fun k => address_closing.l0 k t sign 0) _
  simpa using h
theorem alon_l0 (t : List Int) (hl : t.length ≤ 1099511627776) : ∀ (suf pre : List Int), t = pre ++ suf → Ev (fun k => address_alone.l0 k t (pre.length : Int)) (alon suf)
  | [], pre, ht => Ev.step (fun k => address_alone.l0.eq_2 ..) (Ev.neg (by rw [ht]; simp) (Ev.now _))
  | [x], pre, ht => by
    have hlen : t.length = pre.length + 1 := by rw [ht]; simp
    have hx : rd t (pre.length : Int) = x := by rw [ht]; exact rd_mid pre [] x
    refine Ev.step (fun k => address_alone.l0.eq_2 ..) (Ev.pos (by omega) (Ev.pos (by omega) ?_))
    rw [hx]
    by_cases h92 : x = 92
    · refine Ev.pos h92 ?_
      rw [wrap64_id (n := (t.length : Int) - 1) (by omega) (by omega)]
      exact Ev.pos (by omega) (Ev.eq (Ev.now _) (by rw [show alon [x] = decide (x = 92) from rfl, decide_eq_true h92]))
    · refine Ev.neg h92 ?_
      rw [wrap64_id (n := (pre.length : Int) + 1) (by omega) (by omega)]
      refine Ev.step (fun k => address_alone.l0.eq_2 ..) (Ev.neg (by omega) ?_)
      exact Ev.eq (Ev.now _) (by rw [show alon [x] = decide (x = 92) from rfl, decide_eq_false h92])
  | x :: y :: l, pre, ht => by
    have hlen : t.length = pre.length + l.length + 2 := by rw [ht]; simp; omega
    have hx : rd t (pre.length : Int) = x := by rw [ht]; exact rd_mid pre (y :: l) x
    refine Ev.step (fun k => address_alone.l0.eq_2 ..) (Ev.pos (by omega) (Ev.pos (by omega) ?_))
    rw [hx]
    by_cases h92 : x = 92
    · refine Ev.pos h92 ?_
      rw [wrap64_id (n := (t.length : Int) - 1) (by omega) (by omega)]
      refine Ev.neg (by omega) ?_
      have h := alon_l0 t hl l (pre ++ [x, y]) (by rw [ht]; simp)
      rw [wrap64_id (n := (pre.length : Int) + 1) (by omega) (by omega), wrap64_id (n := (pre.length : Int) + 1 + 1) (by omega) (by omega)]
      rw [show ((pre ++ [x, y]).length : Int) = (pre.length : Int) + 1 + 1 from by rw [List.length_append]; simp; omega] at h
      exact Ev.eq h (by rw [show alon (x :: y :: l) = alon l from if_pos h92])
    · refine Ev.neg h92 ?_
      have h := alon_l0 t hl (y :: l) (pre ++ [x]) (by rw [ht]; simp)
      rw [wrap_len pre x (by omega)]
      exact Ev.eq h (by rw [show alon (x :: y :: l) = alon (y :: l) from by rw [alon]; rw [if_neg h92]])
theorem alon_ev (t : List Int) (hl : t.length ≤ 1099511627776) : Ev (fun k => address_alone.f k t) (alon t) := by
  have h := alon_l0 t hl t [] rfl
  show Ev (fun k => address_alone.l0 k t 0) _
  simpa using h
abbrev PA := Int × Int × Int × List Int × Int × Bool × Int × Int
def badA : PA := (0, 0, 0, [], 0, false, 0, 230)
def baseC (c : Int) (rest : List Int) : PA :=
    if isD c = true then (if (numV (c :: rest)).2.2 = true then (110, (numV (c :: rest)).1, 0, [], 0, true, (numV (c :: rest)).2.1, 0) else badA)
    else if c = 46 ∨ c = 36 then (c, 0, 0, [], 0, true, 1, 0)
    else if c = 39 then (if rest = [] then badA else (39, 0, rd rest 0, [], 0, true, 2, 0))
    else if c = 47 ∨ c = 63 then (if clos c rest = rest.length ∧ alon rest = true then badA else (c, 0, 0, rest.take (clos c rest), 0, true, min ((clos c rest : Int) + 2) ((rest.length : Int) + 1), 0))
    else (0, 0, 0, [], 0, false, 0, 0)
def baseV : List Int → PA
  | [] => (0, 0, 0, [], 0, false, 0, 0)
  | c :: rest => baseC c rest
theorem clone_eq {x : List Int} (h : x.length ≤ 1099511627776) : bytes_Clone.f x = some x := if_pos (by omega)
theorem base_ev (t : List Int) (hl : t.length ≤ 1048576) : Ev (fun k => address_base.f k t) (baseV t) := by
  cases t with
  | nil => exact Ev.pos rfl (Ev.now _)
  | cons c rest =>
    have hlen : (c :: rest).length = rest.length + 1 := List.length_cons
    have hr0 : rd (c :: rest) 0 = c := rfl
    refine Ev.neg (by rw [hlen]; omega) (Ev.pos (by rw [hlen]; omega) ?_)
    rw [hr0]
    refine Ev.cbind (isD_eq c) ?_
    rw [show baseV (c :: rest) = baseC c rest from rfl]
    unfold baseC
    cases hd : isD c with
    | true =>
      rw [if_pos (rfl : true = true)]
      refine Ev.pos rfl (Ev.bind (num_ev _) ?_)
      by_cases h : (numV (c :: rest)).2.2 = true
      · exact Ev.eq (Ev.pos h (Ev.now _)) (if_pos h).symm
      · exact Ev.eq (Ev.neg h (Ev.now _)) (if_neg h).symm
    | false =>
      rw [if_neg (show ¬ (false = true) by decide)]
      refine Ev.neg (by decide) ?_
      have hj1 : ∀ z : Bool, z = decide (c = 47 ∨ c = 63) → ¬ (c = 46 ∨ c = 36) → c ≠ 39 → Ev (fun k => address_base.j1 k (c :: rest) c z) (if c = 47 ∨ c = 63 then (if clos c rest = rest.length ∧ alon rest = true then badA else (c, 0, 0, rest.take (clos c rest), 0, true, min ((clos c rest : Int) + 2) ((rest.length : Int) + 1), 0)) else (0, 0, 0, [], 0, false, 0, 0)) := by
        rintro z rfl h1 h2
        by_cases h : c = 47 ∨ c = 63
        · rw [if_pos h, decide_eq_true h]
          have hcl := clos_le c rest
          have hrl : rest.length ≤ 1048576 := by omega
          have e1 : wrap64 (((c :: rest).length : Int) - 1) = (rest.length : Int) := by rw [wrap64_id (by rw [hlen]; omega) (by rw [hlen]; omega), hlen]; omega
          have e2 : wrap64 (1 + (clos c rest : Int)) = (clos c rest : Int) + 1 := by rw [wrap64_id (by omega) (by omega)]; omega
          have e3 : wrap64 ((clos c rest : Int) + 2) = (clos c rest : Int) + 2 := wrap64_id (by omega) (by omega)
          have e4 : ((c :: rest).take ((clos c rest : Int) + 1).toNat).drop 1 = rest.take (clos c rest) := by rw [show ((clos c rest : Int) + 1).toNat = clos c rest + 1 from by omega, List.take_succ_cons, List.drop_succ_cons, List.drop_zero]
          have e5 : (rest.take (clos c rest)).length ≤ 1099511627776 := by rw [List.length_take]; omega
          refine Ev.step (fun k => address_base.j1.eq_2 ..) (Ev.pos rfl (Ev.pos (by rw [hlen]; omega) ?_))
          rw [show (c :: rest).drop 1 = rest from rfl]
          refine Ev.bind (clos_ev rest c (by omega)) ?_
          rw [e1, e2, e3, e4, mn_eq, hlen]
          by_cases hk : clos c rest = rest.length
          · refine Ev.pos (by omega) (Ev.bind (alon_ev rest (by omega)) ?_)
            by_cases ha : alon rest = true
            · exact Ev.eq (Ev.pos ha (Ev.now _)) (if_pos ⟨hk, ha⟩).symm
            · exact Ev.eq (Ev.neg ha (Ev.pos (by omega) (Ev.pos (by omega) (Ev.cbind (clone_eq e5) (Ev.now _))))) (by rw [if_neg (fun h : clos c rest = rest.length ∧ alon rest = true => ha h.2)]; rfl)
          · exact Ev.eq (Ev.neg (by omega) (Ev.pos (by omega) (Ev.pos (by omega) (Ev.cbind (clone_eq e5) (Ev.now _))))) (by rw [if_neg (fun h : clos c rest = rest.length ∧ alon rest = true => hk h.1)]; rfl)
        · rw [if_neg h, decide_eq_false h]
          exact Ev.step (fun k => address_base.j1.eq_2 ..) (Ev.neg (by decide) (Ev.now _))
      have hj0 : ∀ z : Bool, z = decide (c = 46 ∨ c = 36) → Ev (fun k => address_base.j0 k (c :: rest) c z) (if c = 46 ∨ c = 36 then (c, 0, 0, [], 0, true, 1, 0) else if c = 39 then (if rest = [] then badA else (39, 0, rd rest 0, [], 0, true, 2, 0)) else if c = 47 ∨ c = 63 then (if clos c rest = rest.length ∧ alon rest = true then badA else (c, 0, 0, rest.take (clos c rest), 0, true, min ((clos c rest : Int) + 2) ((rest.length : Int) + 1), 0)) else (0, 0, 0, [], 0, false, 0, 0)) := by
        rintro z rfl
        by_cases h : c = 46 ∨ c = 36
        · rw [if_pos h, decide_eq_true h]
          exact Ev.step (fun k => address_base.j0.eq_2 ..) (Ev.pos rfl (Ev.now _))
        · rw [if_neg h, decide_eq_false h]
          refine Ev.step (fun k => address_base.j0.eq_2 ..) (Ev.neg (by decide) ?_)
          by_cases h39 : c = 39
          · rw [if_pos h39]
            refine Ev.pos h39 ?_
            cases rest with
            | nil => rw [if_pos rfl]; exact Ev.pos rfl (Ev.now _)
            | cons y r =>
              refine Ev.eq (Ev.neg (by simp only [List.length_cons]; omega) (Ev.pos (by simp only [List.length_cons]; omega) (Ev.now _))) ?_
              rw [h39]
              rfl
          · rw [if_neg h39]
            refine Ev.neg h39 ?_
            by_cases h47 : c = 47
            · exact Ev.pos h47 (hj1 true (by simp [h47]) h h39)
            · exact Ev.neg h47 (hj1 _ (by rw [Bool.eq_iff_iff]; simp [h47]) h h39)
      by_cases h46 : c = 46
      · exact Ev.pos h46 (hj0 true (by simp [h46]))
      · exact Ev.neg h46 (hj0 _ (by rw [Bool.eq_iff_iff]; simp [h46]))
end Go.Proofs.YtdhdngoeaneanaaDoor.AD
end
section
namespace Go.Proofs.YtdhdngoeaneanaaDoor.AD
open Go.RowKit Go.Proofs.YtdhdngoeaneanaaDoorW.PrintWords Go.Proofs.YtdhdngoeaneanaaDoorW.PrintMore Go.Proofs.YtdhdngoeaneanaaDoor.X Go.Proofs.YtdhdngoeaneanaaDoor.XL Go.Proofs.YtdhdngoeaneanaaDoor.XO
set_option linter.unusedVariables false
theorem valN_bound : ∀ (ds : List Int) (n : Int), (∀ x ∈ ds, isD x = true) → 0 ≤ n → 0 ≤ valN n ds ∧ valN n ds < (n + 1) * 10 ^ ds.length
  | [], n, _, h0 => ⟨h0, by show n < (n + 1) * 10 ^ 0; omega⟩
  | x :: ds, n, h, h0 => by
    have hx : 48 ≤ x ∧ x ≤ 57 := of_decide_eq_true (h x (by simp))
    have h1 := valN_bound ds (n * 10 + (x - 48)) (fun y hy => h y (by simp [hy])) (by omega)
    refine ⟨h1.1, Int.lt_of_lt_of_le h1.2 ?_⟩
    rw [List.length_cons, Int.pow_succ, show (n + 1) * (10 ^ ds.length * 10) = ((n + 1) * 10) * 10 ^ ds.length from by rw [Int.mul_comm (10 ^ ds.length) 10, Int.mul_assoc]]
    exact Int.mul_le_mul_of_nonneg_right (by omega) (Int.pow_nonneg (by decide))
theorem digs_all (l : List Int) : ∀ x ∈ digs l, isD x = true := by
  intro x hx
  unfold digs at hx
  induction l with
  | nil => cases hx
  | cons y l ih =>
    rw [List.takeWhile_cons] at hx
    cases hd : isD y with
    | false => rw [hd] at hx; cases hx
    | true =>
      rw [hd] at hx
      rcases List.mem_cons.1 hx with e | e
      · rw [e]; exact hd
      · exact ih e
theorem digs_le (l : List Int) : (digs l).length ≤ l.length := by
  unfold digs
  induction l with
  | nil => exact Nat.le_refl _
  | cons y l ih =>
    rw [List.takeWhile_cons]
    split
    · rw [List.length_cons, List.length_cons]; omega
    · exact Nat.zero_le _
theorem numV_ok {l : List Int} (h : (numV l).2.2 = true) : (numV l).2.1 = ((digs l).length : Int) ∧ (numV l).1 = valN 0 (digs l) ∧ (digs l).length ≤ 9 ∧ 0 ≤ (numV l).1 ∧ (numV l).1 ≤ 999999999 := by
  unfold numV at h ⊢
  by_cases h9 : (digs l).length ≤ 9
  · rw [if_pos h9]
    have hb := valN_bound (digs l) 0 (digs_all l) (by decide)
    have hp : (10 : Int) ^ (digs l).length ≤ 1000000000 := by
      have h : (digs l).length = 0 ∨ (digs l).length = 1 ∨ (digs l).length = 2 ∨ (digs l).length = 3 ∨ (digs l).length = 4 ∨ (digs l).length = 5 ∨ (digs l).length = 6 ∨ (digs l).length = 7 ∨ (digs l).length = 8 ∨ (digs l).length = 9 := by omega
      rcases h with h | h | h | h | h | h | h | h | h | h <;> rw [h] <;> decide
    exact ⟨rfl, rfl, h9, hb.1, by have := hb.2; simp only; omega⟩
  · rw [if_neg h9] at h; cases h
/-- What is added for a sign: its number, or 1. -/
def stepN (x : Int) (l : List Int) : Int := if x = 45 then -(if (numV l).2.1 = 0 then 1 else (numV l).1) else (if (numV l).2.1 = 0 then 1 else (numV l).1)
/-- The steps at the head of a text: the sum, how many bytes, was one given, is all well. -/
def stepsV : Nat → List Int → Int → Bool → Int × Nat × Bool × Bool
  | 0, _, add, g => (add, 0, g, true)
  | _ + 1, [], add, g => (add, 0, g, true)
  | f + 1, x :: l, add, g =>
    if x = 43 ∨ x = 45 then
      if (numV l).2.2 = true then ((stepsV f (l.drop (digs l).length) (add + stepN x l) true).1, (stepsV f (l.drop (digs l).length) (add + stepN x l) true).2.1 + (1 + (digs l).length), (stepsV f (l.drop (digs l).length) (add + stepN x l) true).2.2.1, (stepsV f (l.drop (digs l).length) (add + stepN x l) true).2.2.2)
      else (0, 0, false, false)
    else (add, 0, g, true)
def fuelA : Nat := 1048577
def endV (b1 b2 b3 : Int) (b4 : List Int) (p : Nat) (r : Int × Nat × Bool × Bool) : PA :=
  if r.2.2.2 = false then badA else if r.1 < -999999999 ∨ r.1 > 999999999 then badA else (b1, b2, b3, b4, r.1, r.2.2.1, ((p + r.2.1 : Nat) : Int), 0)
theorem stop_ev (t : List Int) (p : Nat) (b1 b2 b3 : Int) (b4 : List Int) (add : Int) (g : Bool) : Ev (fun k => address_Parse.j1 k t (p : Int) false b1 b2 b3 b4 add g) (endV b1 b2 b3 b4 p (add, 0, g, true)) := by
  refine Ev.step (fun k => address_Parse.j1.eq_2 ..) (Ev.neg (by decide) ?_)
  unfold endV
  rw [if_neg (show ¬ (true = false) by decide)]
  by_cases h1 : add < -999999999
  · exact Ev.eq (Ev.pos h1 (Ev.now _)) (if_pos (.inl h1)).symm
  · by_cases h2 : add > 999999999
    · exact Ev.eq (Ev.neg h1 (Ev.pos h2 (Ev.now _))) (if_pos (.inr h2)).symm
    · exact Ev.eq (Ev.neg h1 (Ev.neg h2 (Ev.now _))) (by rw [if_neg (fun h : add < -999999999 ∨ add > 999999999 => h.elim h1 h2)]; rfl)
theorem steps_ev (t : List Int) (hl : t.length ≤ 1048576) (b1 b2 b3 : Int) (b4 : List Int) : ∀ (f : Nat) (suf pre : List Int) (add : Int) (g : Bool), t = pre ++ suf → suf.length < f → -(pre.length * 1000000000 : Int) ≤ add → add ≤ (pre.length * 1000000000 : Int) →
    Ev (fun k => address_Parse.l0 k t (pre.length : Int) b1 b2 b3 b4 add g) (endV b1 b2 b3 b4 pre.length (stepsV f suf add g)) := by
  intro f
  induction f with
  | zero => intro suf pre add g ht hf; omega
  | succ f ih =>
    intro suf pre add g ht hf ha1 ha2
    cases suf with
    | nil =>
      refine Ev.step (fun k => address_Parse.l0.eq_2 ..) (Ev.neg (by rw [ht]; simp) ?_)
      exact stop_ev ..
    | cons x l =>
      have hlen : t.length = pre.length + l.length + 1 := by rw [ht]; exact len_mid pre l x
      have hx : rd t (pre.length : Int) = x := by rw [ht]; exact rd_mid pre l x
      have hdr : t.drop ((pre.length : Int) + 1).toNat = l := by
        rw [ht, show ((pre.length : Int) + 1).toNat = pre.length + 1 from by omega, ← List.drop_drop, List.drop_left]; rfl
      have hw1 : wrap64 ((pre.length : Int) + 1) = (pre.length : Int) + 1 := wrap64_id (by omega) (by omega)
      refine Ev.step (fun k => address_Parse.l0.eq_2 ..) (Ev.pos (by omega) (Ev.pos (by omega) ?_))
      rw [hx]
      unfold stepsV
      by_cases hs : x = 43 ∨ x = 45
      · rw [if_pos hs]
        have hj : Ev (fun k => address_Parse.j1 k t (pre.length : Int) true b1 b2 b3 b4 add g) (endV b1 b2 b3 b4 pre.length (if (numV l).2.2 = true then ((stepsV f (l.drop (digs l).length) (add + stepN x l) true).1, (stepsV f (l.drop (digs l).length) (add + stepN x l) true).2.1 + (1 + (digs l).length), (stepsV f (l.drop (digs l).length) (add + stepN x l) true).2.2.1, (stepsV f (l.drop (digs l).length) (add + stepN x l) true).2.2.2) else (0, 0, false, false))) := by
          refine Ev.step (fun k => address_Parse.j1.eq_2 ..) (Ev.pos rfl ?_)
          rw [hw1]
          refine Ev.pos (by omega) (Ev.pos (by omega) ?_)
          rw [hdr]
          refine Ev.bind (num_ev l) ?_
          by_cases hn : (numV l).2.2 = true
          · refine Ev.eq (r := endV b1 b2 b3 b4 pre.length ((stepsV f (l.drop (digs l).length) (add + stepN x l) true).1, (stepsV f (l.drop (digs l).length) (add + stepN x l) true).2.1 + (1 + (digs l).length), (stepsV f (l.drop (digs l).length) (add + stepN x l) true).2.2.1, (stepsV f (l.drop (digs l).length) (add + stepN x l) true).2.2.2)) ?_ (by rw [if_pos hn])
            obtain ⟨e1, e2, e3, e4, e5⟩ := numV_ok hn
            have hdl := digs_le l
            have hst : -999999999 ≤ stepN x l ∧ stepN x l ≤ 999999999 := by unfold stepN; split <;> split <;> omega
            -- on, behind the step
            have h := ih (l.drop (digs l).length) (pre ++ x :: l.take (digs l).length) (add + stepN x l) true (by rw [ht, List.append_assoc, List.cons_append, List.take_append_drop]) (by rw [List.length_drop]; simp only [List.length_cons] at hf; omega) (by rw [List.length_append, List.length_cons, List.length_take]; omega) (by rw [List.length_append, List.length_cons, List.length_take]; omega)
            have hpl : (pre ++ x :: l.take (digs l).length).length = pre.length + (1 + (digs l).length) := by rw [List.length_append, List.length_cons, List.length_take]; omega
            rw [hpl] at h
            have hend : ∀ r : Int × Nat × Bool × Bool, endV b1 b2 b3 b4 (pre.length + (1 + (digs l).length)) r = endV b1 b2 b3 b4 pre.length (r.1, r.2.1 + (1 + (digs l).length), r.2.2.1, r.2.2.2) := fun r => by
              unfold endV
              simp only
              rw [show pre.length + (1 + (digs l).length) + r.2.1 = pre.length + (r.2.1 + (1 + (digs l).length)) from by omega]
            rw [hend] at h
            have hw2 : wrap64 ((pre.length : Int) + (wrap64 (1 + (numV l).2.1))) = ((pre.length + (1 + (digs l).length) : Nat) : Int) := by
              rw [e1, wrap64_id (n := 1 + ((digs l).length : Int)) (by omega) (by omega), wrap64_id (by omega) (by omega)]
              omega
            refine Ev.pos hn ?_
            rw [hw2]
            by_cases h0 : (numV l).2.1 = 0
            · refine Ev.pos h0 (Ev.pos (by omega) (Ev.pos (by omega) ?_))
              rw [hx]
              by_cases h45 : x = 45
              · rw [show stepN x l = -1 from by unfold stepN; rw [if_pos h45, if_pos h0]] at h
                refine Ev.pos h45 ?_
                rw [wrap64_id (n := add + -1) (by omega) (by omega)]
                exact Ev.eq h (by rw [show stepN x l = -1 from by unfold stepN; rw [if_pos h45, if_pos h0]])
              · rw [show stepN x l = 1 from by unfold stepN; rw [if_neg h45, if_pos h0]] at h
                refine Ev.neg h45 ?_
                rw [wrap64_id (n := add + 1) (by omega) (by omega)]
                exact Ev.eq h (by rw [show stepN x l = 1 from by unfold stepN; rw [if_neg h45, if_pos h0]])
            · refine Ev.neg h0 (Ev.pos (by omega) (Ev.pos (by omega) ?_))
              rw [hx]
              by_cases h45 : x = 45
              · have es : stepN x l = -(numV l).1 := by unfold stepN; rw [if_pos h45, if_neg h0]
                rw [es] at h
                refine Ev.pos h45 ?_
                rw [wrap64_id (n := -(numV l).1) (by omega) (by omega), wrap64_id (n := add + -(numV l).1) (by omega) (by omega)]
                exact Ev.eq h (by rw [es])
              · have es : stepN x l = (numV l).1 := by unfold stepN; rw [if_neg h45, if_neg h0]
                rw [es] at h
                refine Ev.neg h45 ?_
                rw [wrap64_id (n := add + (numV l).1) (by omega) (by omega)]
                exact Ev.eq h (by rw [es])
          · exact Ev.eq (Ev.neg hn (Ev.now _)) (by rw [if_neg hn]; rfl)
        by_cases h43 : x = 43
        · exact Ev.pos h43 hj
        · have h45 : x = 45 := hs.elim (fun h => absurd h h43) id
          refine Ev.neg h43 ?_
          rw [show (x == 45) = true from beq_iff_eq.2 h45]
          exact hj
      · rw [if_neg hs]
        have h43 : x ≠ 43 := fun h => hs (.inl h)
        refine Ev.neg h43 ?_
        rw [show (x == 45) = false from beq_eq_false_iff_ne.2 (fun h => hs (.inr h))]
        exact stop_ev ..
/-- What Parse comes to. -/
def parseV (t : List Int) : PA := if (baseV t).2.2.2.2.2.2.2 = 0 then endV (baseV t).1 (baseV t).2.1 (baseV t).2.2.1 (baseV t).2.2.2.1 (baseV t).2.2.2.2.2.2.1.toNat (stepsV fuelA (t.drop (baseV t).2.2.2.2.2.2.1.toNat) 0 (baseV t).2.2.2.2.2.1) else badA
/-- What a base is: nothing, a fault, or some bytes at the head of the line. -/
theorem base_kinds (t : List Int) : (baseV t = badA) ∨ ((baseV t).2.2.2.2.2.2.2 = 0 ∧ (baseV t).2.2.2.2.1 = 0 ∧ 0 ≤ (baseV t).2.2.2.2.2.2.1 ∧ (baseV t).2.2.2.2.2.2.1 ≤ (t.length : Int) ∧ ((baseV t).2.2.2.2.2.1 = true ↔ 0 < (baseV t).2.2.2.2.2.2.1)) := by
  cases t with
  | nil => exact .inr ⟨rfl, rfl, by decide, by decide, by decide⟩
  | cons c rest =>
    show baseC c rest = badA ∨ _
    rw [show baseV (c :: rest) = baseC c rest from rfl]
    unfold baseC
    split
    · rename_i hd
      split
      · rename_i hn
        have h := numV_ok hn
        have h2 := digs_le (c :: rest)
        have h3 : 0 < (digs (c :: rest)).length := by unfold digs; rw [List.takeWhile_cons, hd]; simp
        exact .inr ⟨rfl, rfl, by simp only; omega, by simp only; omega, ⟨fun _ => (by have e := h.1; show 0 < (numV (c :: rest)).2.1; omega), fun _ => rfl⟩⟩
      · exact .inl rfl
    · split
      · exact .inr ⟨rfl, rfl, by simp only; omega, by simp only [List.length_cons]; omega, by simp⟩
      · split
        · split
          · exact .inl rfl
          · rename_i hr
            have : 0 < rest.length := List.length_pos_iff.2 hr
            exact .inr ⟨rfl, rfl, by simp only; omega, by simp only [List.length_cons]; omega, by simp⟩
        · split
          · split
            · exact .inl rfl
            · have := clos_le c rest
              exact .inr ⟨rfl, rfl, by simp only; omega, by simp only [List.length_cons]; omega, ⟨fun _ => (by show 0 < min ((clos c rest : Int) + 2) ((rest.length : Int) + 1); omega), fun _ => rfl⟩⟩
          · exact .inr ⟨rfl, rfl, by simp, by simp only [List.length_cons]; omega, by simp⟩
theorem parse_ev (t : List Int) (hl : t.length ≤ 1048576) : Ev (fun k => address_Parse.f k t) (parseV t) := by
  have hk := base_kinds t
  have hb := base_ev t hl
  unfold parseV
  generalize baseV t = b at hk hb
  obtain ⟨b1, b2, b3, b4, b5, b6, b7, b8⟩ := b
  simp only at hk ⊢
  refine Ev.bind hb ?_
  rcases hk with h | ⟨h1, h2, h3, h4, h5⟩
  · unfold badA at h
    simp only [Prod.mk.injEq] at h
    obtain ⟨rfl, rfl, rfl, rfl, rfl, rfl, rfl, rfl⟩ := h
    exact Ev.eq (Ev.neg (by decide) (Ev.now _)) (by rw [if_neg (by decide)]; rfl)
  · subst h1 h2
    rw [if_pos rfl]
    refine Ev.pos rfl ?_
    have h := steps_ev t hl b1 b2 b3 b4 fuelA (t.drop b7.toNat) (t.take b7.toNat) 0 b6 (List.take_append_drop _ _).symm (by rw [List.length_drop]; unfold fuelA; omega) (by omega) (by omega)
    rw [show (t.take b7.toNat).length = b7.toNat from by rw [List.length_take]; omega, show ((b7.toNat : Nat) : Int) = b7 from by omega] at h
    exact h
end Go.Proofs.YtdhdngoeaneanaaDoor.AD
end
section
namespace Go.Proofs.YtdhdngoeaneanaaDoor.AD
open Go.RowKit Go.Proofs.YtdhdngoeaneanaaDoorW.PrintWords Go.Proofs.YtdhdngoeaneanaaDoorW.PrintMore Go.Proofs.YtdhdngoeaneanaaDoor.X Go.Proofs.YtdhdngoeaneanaaDoor.XL Go.Proofs.YtdhdngoeaneanaaDoor.XO
set_option linter.unusedVariables false
theorem digs_take : ∀ (l : List Int) (m : Nat), digs (l.take m) = (digs l).take m
  | [], m => by simp [digs]
  | x :: l, 0 => by simp [digs]
  | x :: l, m + 1 => by
    have ih := digs_take l m
    unfold digs at ih ⊢
    rw [List.take_succ_cons, List.takeWhile_cons, List.takeWhile_cons]
    split
    · rw [ih, List.take_succ_cons]
    · simp
theorem digs_long {l : List Int} {m : Nat} (h : (digs l).length ≤ m) : digs (l.take m) = digs l := by rw [digs_take, List.take_of_length_le h]
theorem numV_long {l : List Int} {m : Nat} (h : (digs l).length ≤ m) : numV (l.take m) = numV l := by unfold numV; rw [digs_long h]
theorem rd_cons (x : Int) (l : List Int) (n : Nat) : rd (x :: l) ((n + 1 : Nat) : Int) = rd l (n : Int) := by unfold rd; rw [Int.toNat_natCast, Int.toNat_natCast]; rfl
theorem rd_drop (l : List Int) (d n : Nat) : rd (l.drop d) (n : Int) = rd l ((d + n : Nat) : Int) := by unfold rd; rw [Int.toNat_natCast, Int.toNat_natCast, List.getD_eq_getElem?_getD, List.getD_eq_getElem?_getD, List.getElem?_drop]
theorem steps_take : ∀ (f : Nat) (l : List Int) (add : Int) (g : Bool), (stepsV f l add g).2.2.2 = true →
    (stepsV f l add g).2.1 ≤ l.length ∧ ((stepsV f l add g).2.2.1 = (g || decide (0 < (stepsV f l add g).2.1))) ∧ (∀ m, (stepsV f l add g).2.1 ≤ m → stepsV f (l.take m) add g = stepsV f l add g) ∧ (l.length < f → (stepsV f l add g).2.1 = l.length ∨ (rd l ((stepsV f l add g).2.1 : Int) ≠ 43 ∧ rd l ((stepsV f l add g).2.1 : Int) ≠ 45)) := by
  intro f
  induction f with
  | zero => intro l add g _; exact ⟨Nat.zero_le _, by simp [stepsV], fun m _ => rfl, fun h => by omega⟩
  | succ f ih =>
    intro l add g hok
    cases l with
    | nil => exact ⟨Nat.le_refl _, by simp [stepsV], fun m _ => by simp, fun _ => .inl rfl⟩
    | cons x l =>
      by_cases hs : x = 43 ∨ x = 45
      · by_cases hn : (numV l).2.2 = true
        · have e : stepsV (f + 1) (x :: l) add g = ((stepsV f (l.drop (digs l).length) (add + stepN x l) true).1, (stepsV f (l.drop (digs l).length) (add + stepN x l) true).2.1 + (1 + (digs l).length), (stepsV f (l.drop (digs l).length) (add + stepN x l) true).2.2.1, (stepsV f (l.drop (digs l).length) (add + stepN x l) true).2.2.2) := by
            rw [stepsV, if_pos hs, if_pos hn]
          rw [e] at hok ⊢
          simp only at hok ⊢
          have hd := digs_le l
          obtain ⟨i1, i2, i3, i4⟩ := ih (l.drop (digs l).length) (add + stepN x l) true hok
          rw [List.length_drop] at i1 i4
          refine ⟨by rw [List.length_cons]; omega, by rw [i2, decide_eq_true (show 0 < (stepsV f (l.drop (digs l).length) (add + stepN x l) true).2.1 + (1 + (digs l).length) by omega)]; simp, fun m hm => ?_, fun hf => ?_⟩
          · obtain ⟨m', rfl⟩ : ∃ m', m = m' + 1 := ⟨m - 1, by omega⟩
            have h1 : numV (l.take m') = numV l := numV_long (by omega)
            have h2 : digs (l.take m') = digs l := digs_long (by omega)
            have h3 : stepN x (l.take m') = stepN x l := by unfold stepN; rw [h1]
            have h4 := i3 (m' - (digs l).length) (by omega)
            rw [List.take_succ_cons, stepsV, if_pos hs, h1, if_pos hn, h2, h3, List.drop_take, h4]
          · rw [List.length_cons] at hf ⊢
            rcases i4 (by omega) with h | h
            · exact .inl (by omega)
            · refine .inr ?_
              rw [rd_drop] at h
              rw [show (stepsV f (l.drop (digs l).length) (add + stepN x l) true).2.1 + (1 + (digs l).length) = ((digs l).length + (stepsV f (l.drop (digs l).length) (add + stepN x l) true).2.1) + 1 from by omega, rd_cons]
              exact h
        · rw [stepsV, if_pos hs, if_neg hn] at hok
          cases hok
      · have e : ∀ l2 : List Int, stepsV (f + 1) (x :: l2) add g = (add, 0, g, true) := fun l2 => by rw [stepsV, if_neg hs]
        rw [e]
        refine ⟨Nat.zero_le _, by simp, fun m _ => ?_, fun _ => .inr ⟨fun h => hs (.inl h), fun h => hs (.inr h)⟩⟩
        cases m with
        | zero => rfl
        | succ m => rw [List.take_succ_cons, e]
theorem clos_take (s : Int) : ∀ (l : List Int) (j : Nat), clos s l < j → j ≤ l.length → clos s (l.take j) = clos s l
  | [], j, h1, h2 => by simp at h2; omega
  | [x], j, h1, h2 => by rw [List.take_of_length_le (by simp only [List.length_cons, List.length_nil] at h2 ⊢; omega)]
  | x :: y :: l, j, h1, h2 => by
    simp only [List.length_cons] at h2
    unfold clos at h1
    by_cases h92 : x = 92
    · rw [if_pos h92] at h1
      obtain ⟨j', rfl⟩ : ∃ j', j = j' + 2 := ⟨j - 2, by omega⟩
      have h := clos_take s l j' (by omega) (by omega)
      rw [List.take_succ_cons, List.take_succ_cons, show clos s (x :: y :: l.take j') = clos s (l.take j') + 2 from if_pos h92, show clos s (x :: y :: l) = clos s l + 2 from if_pos h92, h]
    · rw [if_neg h92] at h1
      by_cases hs : x = s
      · rw [show clos s (x :: y :: l) = 0 from by rw [clos, if_neg h92, if_pos hs]]
        match j with
        | 0 => omega
        | 1 => show clos s [x] = 0; rw [clos, if_neg h92, if_pos hs]
        | j + 2 => rw [List.take_succ_cons, List.take_succ_cons, clos, if_neg h92, if_pos hs]
      · rw [if_neg hs] at h1
        obtain ⟨j', rfl⟩ : ∃ j', j = j' + 2 := ⟨j - 2, by omega⟩
        have h := clos_take s (y :: l) (j' + 1) (by omega) (by simp only [List.length_cons]; omega)
        rw [List.take_succ_cons] at h
        rw [List.take_succ_cons, List.take_succ_cons, clos, if_neg h92, if_neg hs, h, show clos s (x :: y :: l) = clos s (y :: l) + 1 from by rw [clos, if_neg h92, if_neg hs]]
theorem base_take (t : List Int) (h : (baseV t).2.2.2.2.2.2.2 = 0) (m : Nat) (hm : (baseV t).2.2.2.2.2.2.1 ≤ (m : Int)) : baseV (t.take m) = baseV t := by
  cases t with
  | nil => rw [List.take_nil]
  | cons c rest =>
    rw [show baseV (c :: rest) = baseC c rest from rfl] at h hm ⊢
    cases m with
    | zero =>
      show baseV [] = _
      unfold baseC at h hm ⊢
      split at h
      · rename_i hd
        split at h
        · rename_i hn
          rw [if_pos hd, if_pos hn] at hm
          have h2 := (numV_ok hn).1
          have h3 : 0 < (digs (c :: rest)).length := by unfold digs; rw [List.takeWhile_cons, hd]; simp
          simp only at hm
          omega
        · cases h
      · rename_i hd
        rw [if_neg hd] at hm ⊢
        split at h
        · rename_i h1
          rw [if_pos h1] at hm
          simp at hm
        · rename_i h1
          rw [if_neg h1] at hm ⊢
          split at h
          · rename_i h2
            rw [if_pos h2] at hm
            split at h
            · cases h
            · rename_i h3
              rw [if_neg h3] at hm
              simp at hm
          · rename_i h2
            rw [if_neg h2] at hm ⊢
            split at h
            · rename_i h3
              rw [if_pos h3] at hm
              split at h
              · cases h
              · rename_i h4
                rw [if_neg h4] at hm
                simp only at hm
                omega
            · rename_i h3
              rw [if_neg h3]
              rfl
    | succ m =>
      rw [List.take_succ_cons, show baseV (c :: rest.take m) = baseC c (rest.take m) from rfl]
      have hdg : isD c = true → (numV (c :: rest)).2.2 = true → (numV (c :: rest)).2.1 ≤ ((m + 1 : Nat) : Int) → numV (c :: rest.take m) = numV (c :: rest) := fun _ hn hk => by
        have h2 := (numV_ok hn).1
        have h3 := numV_long (l := c :: rest) (m := m + 1) (by omega)
        rw [List.take_succ_cons] at h3
        exact h3
      unfold baseC at h hm ⊢
      split at h
      · rename_i hd
        rw [if_pos hd] at hm ⊢
        split at h
        · rename_i hn
          rw [if_pos hn] at hm
          rw [if_pos hd, hdg hd hn hm]
        · cases h
      · rename_i hd
        rw [if_neg hd] at hm ⊢
        rw [if_neg hd]
        split at h
        · rename_i h1
          rw [if_pos h1, if_pos h1]
        · rename_i h1
          rw [if_neg h1] at hm ⊢
          rw [if_neg h1]
          split at h
          · rename_i h2
            rw [if_pos h2] at hm ⊢
            rw [if_pos h2]
            split at h
            · cases h
            · rename_i h3
              rw [if_neg h3] at hm ⊢
              simp only at hm
              cases rest with
              | nil => exact absurd rfl h3
              | cons y r =>
                cases m with
                | zero => omega
                | succ m => rw [List.take_succ_cons, if_neg (by simp)]; rfl
          · rename_i h2
            rw [if_neg h2] at hm ⊢
            rw [if_neg h2]
            split at h
            · rename_i h3
              rw [if_pos h3] at hm ⊢
              rw [if_pos h3]
              split at h
              · cases h
              · rename_i h4
                rw [if_neg h4] at hm
                simp only at hm
                have hcl := clos_le c rest
                by_cases hk : clos c rest = rest.length
                · rw [List.take_of_length_le (by omega)]
                · have h5 := clos_take c rest (min m rest.length) (by omega) (by omega)
                  have h6 : rest.take (min m rest.length) = rest.take m := by
                    by_cases hmm : m ≤ rest.length
                    · rw [Nat.min_eq_left hmm]
                    · rw [Nat.min_eq_right (by omega), List.take_length, List.take_of_length_le (by omega)]
                  rw [h6] at h5
                  rw [h5, if_neg (fun h => by have := h.1; rw [List.length_take] at this; omega), if_neg h4, List.take_take, List.length_take]
                  rw [show min (clos c rest) m = clos c rest from by omega]
                  rw [show min ((clos c rest : Int) + 2) (((min m rest.length : Nat) : Int) + 1) = min ((clos c rest : Int) + 2) ((rest.length : Int) + 1) from by omega]
            · rename_i h3
              rw [if_neg h3, if_neg h3]
theorem parse_bad (t : List Int) (h : (parseV t).2.2.2.2.2.2.2 ≠ 0) : parseV t = badA := by
  unfold parseV at h ⊢
  split
  · rename_i hb
    rw [if_pos hb] at h
    unfold endV at h ⊢
    split
    · rfl
    · rename_i h1
      rw [if_neg h1] at h
      split
      · rfl
      · rename_i h2
        rw [if_neg h2] at h
        exact absurd rfl h
  · rfl
theorem longest (t : List Int) (ht : t.length ≤ 1048576) (h : (parseV t).2.2.2.2.2.2.2 = 0) : 0 ≤ (parseV t).2.2.2.2.2.2.1 ∧ (parseV t).2.2.2.2.2.2.1 ≤ (t.length : Int) ∧ ((parseV t).2.2.2.2.2.1 = decide (0 < (parseV t).2.2.2.2.2.2.1)) ∧ parseV (t.take (parseV t).2.2.2.2.2.2.1.toNat) = parseV t ∧
    ((parseV t).2.2.2.2.2.2.1 = (t.length : Int) ∨ (rd t (parseV t).2.2.2.2.2.2.1 ≠ 43 ∧ rd t (parseV t).2.2.2.2.2.2.1 ≠ 45)) := by
  have hk := base_kinds t
  have hbt := base_take t
  by_cases hb : (baseV t).2.2.2.2.2.2.2 = 0
  · rcases hk with hk | ⟨_, k2, k3, k4, k5⟩
    · rw [hk] at hb; cases hb
    have hst := steps_take fuelA (t.drop (baseV t).2.2.2.2.2.2.1.toNat) 0 (baseV t).2.2.2.2.2.1
    have e : parseV t = endV (baseV t).1 (baseV t).2.1 (baseV t).2.2.1 (baseV t).2.2.2.1 (baseV t).2.2.2.2.2.2.1.toNat (stepsV fuelA (t.drop (baseV t).2.2.2.2.2.2.1.toNat) 0 (baseV t).2.2.2.2.2.1) := if_pos hb
    have e2 : ∀ n : Nat, baseV (t.take n) = baseV t → parseV (t.take n) = endV (baseV t).1 (baseV t).2.1 (baseV t).2.2.1 (baseV t).2.2.2.1 (baseV t).2.2.2.2.2.2.1.toNat (stepsV fuelA ((t.take n).drop (baseV t).2.2.2.2.2.2.1.toNat) 0 (baseV t).2.2.2.2.2.1) := fun n hn => by
      unfold parseV
      rw [hn, if_pos hb]
    generalize hr : stepsV fuelA (t.drop (baseV t).2.2.2.2.2.2.1.toNat) 0 (baseV t).2.2.2.2.2.1 = r at e hst
    rw [e] at h
    have hr4 : r.2.2.2 = true := by
      unfold endV at h
      cases hq : r.2.2.2 with
      | true => rfl
      | false => rw [if_pos hq] at h; cases h
    obtain ⟨s1, s2, s3, s4⟩ := hst hr4
    have hr1 : ¬ (r.1 < -999999999 ∨ r.1 > 999999999) := fun hq => by
      unfold endV at h
      rw [if_neg (by rw [hr4]; decide), if_pos hq] at h
      cases h
    have e3 : parseV t = ((baseV t).1, (baseV t).2.1, (baseV t).2.2.1, (baseV t).2.2.2.1, r.1, r.2.2.1, (((baseV t).2.2.2.2.2.2.1.toNat + r.2.1 : Nat) : Int), 0) := by
      rw [e]
      unfold endV
      rw [if_neg (by rw [hr4]; decide), if_neg hr1]
    rw [List.length_drop] at s1 s4
    rw [e3]
    simp only
    generalize hkk : (baseV t).2.2.2.2.2.2.1 = k at *
    obtain ⟨q, rfl⟩ : ∃ q : Nat, k = (q : Int) := ⟨k.toNat, by omega⟩
    simp only [Int.toNat_natCast] at *
    refine ⟨by omega, by omega, ?_, ?_, ?_⟩
    · rw [s2, Bool.eq_iff_iff]
      simp only [Bool.or_eq_true, decide_eq_true_eq, k5]
      omega
    · rw [e2 (q + r.2.1) (hbt hb _ (by omega)), List.drop_take, show q + r.2.1 - q = r.2.1 from by omega, s3 _ (Nat.le_refl _), ← e3]
      exact e.symm
    · rcases s4 (by unfold fuelA; omega) with h | h
      · exact .inl (by omega)
      · rw [rd_drop] at h
        exact .inr h
  · unfold parseV at h
    rw [if_neg hb] at h
    cases h
end Go.Proofs.YtdhdngoeaneanaaDoor.AD
end
