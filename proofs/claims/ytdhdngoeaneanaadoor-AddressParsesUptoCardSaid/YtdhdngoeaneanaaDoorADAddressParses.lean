/-
  Texts of one proof in one file (wip/some.py): AT0, AT6, AT7, AT8, AT9, AT10, AT11, AT12.
  Conditions: none.
-/
import Derived.Test.YtdhdngoeaneanaaDoorXL
import Derived.Test.YtdhdngoeaneanaaDoorXO
import Derived.Test.YtdhdngoeaneanaaDoorX7
import Derived.Test.YtdhdngoeaneanaaDoorX8
import Derived.Test.YtdhdngoeaneanaaDoorATAddressSpells
import Derived.Test.YtdhdngoeaneanaaDoorXRP
section
namespace Go.Proofs.YtdhdngoeaneanaaDoor.AD
open Go.RowKit Go.Proofs.YtdhdngoeaneanaaDoorW.PrintWords Go.Proofs.YtdhdngoeaneanaaDoorW.PrintMore Go.Proofs.YtdhdngoeaneanaaDoor.X Go.Proofs.YtdhdngoeaneanaaDoor.XL Go.Proofs.YtdhdngoeaneanaaDoor.XO
set_option linter.unusedVariables false
set_option linter.unusedSimpArgs false
def isD (x : Int) : Bool := decide (48 ≤ x ∧ x ≤ 57)
theorem isD_eq (x : Int) : address_isDigit.f x = some (isD x) := by
  unfold address_isDigit.f isD
  by_cases h : x ≥ 48
  · rw [if_pos h]; congr 1; exact decide_eq_decide.2 ⟨fun h2 => ⟨h, h2⟩, fun h2 => h2.2⟩
  · rw [if_neg h, decide_eq_false (fun h2 => h h2.1)]
def digs (l : List Int) : List Int := l.takeWhile isD
def valN : Int → List Int → Int
  | n, [] => n
  | n, x :: l => valN (n * 10 + (x - 48)) l
def numV (l : List Int) : Int × Int × Bool := if (digs l).length ≤ 9 then (valN 0 (digs l), ((digs l).length : Int), true) else (0, 0, false)
theorem rd_mid (pre suf : List Int) (x : Int) : rd (pre ++ x :: suf) (pre.length : Int) = x := by
  unfold rd
  rw [Int.toNat_natCast]
  exact getD_mid pre suf x 0
theorem num_l0 (t : List Int) : ∀ (suf pre : List Int) (n : Int), t = pre ++ suf → pre.length ≤ 9 → 0 ≤ n → n < 10 ^ pre.length → Ev (fun k => address_number.l0 k t n (pre.length : Int)) (if (digs suf).length + pre.length ≤ 9 then (valN n (digs suf), ((digs suf).length + pre.length : Int), true) else (0, 0, false)) := by
  intro suf
  induction suf with
  | nil =>
    rintro pre n ht hp h0 h1
    rw [if_pos (by simp [digs]; omega)]
    refine Ev.step (fun k => address_number.l0.eq_2 ..) (Ev.neg (by rw [ht]; simp) (Ev.step (fun k => address_number.j1.eq_2 ..) (Ev.neg (by decide) ?_)))
    exact Ev.eq (Ev.now _) (by simp [digs, valN])
  | cons x suf ih =>
    rintro pre n ht hp h0 h1
    have hlen : t.length = pre.length + suf.length + 1 := by rw [ht]; exact len_mid pre suf x
    have hx : rd t (pre.length : Int) = x := by rw [ht]; exact rd_mid pre suf x
    refine Ev.step (fun k => address_number.l0.eq_2 ..) (Ev.pos (by omega) (Ev.pos (by omega) ?_))
    rw [hx]
    refine Ev.cbind (isD_eq x) (Ev.step (fun k => address_number.j1.eq_2 ..) ?_)
    cases hd : isD x with
    | false =>
      have hz : digs (x :: suf) = [] := by unfold digs; rw [List.takeWhile_cons, hd]; rfl
      rw [hz, if_pos (by simp; omega)]
      exact Ev.neg (by decide) (Ev.eq (Ev.now _) (by simp [valN]))
    | true =>
      have hz : digs (x :: suf) = x :: digs suf := by unfold digs; rw [List.takeWhile_cons, hd]; rfl
      have hr : 48 ≤ x ∧ x ≤ 57 := of_decide_eq_true hd
      rw [hz]
      refine Ev.pos rfl ?_
      by_cases h9 : pre.length = 9
      · rw [if_neg (by rw [List.length_cons]; omega)]
        exact Ev.pos (by omega) (Ev.now _)
      · refine Ev.neg (by omega) (Ev.pos (by omega) (Ev.pos (by omega) ?_))
        have hpow : (10 : Int) ^ pre.length ≤ 1000000000 := by
          have h : pre.length = 0 ∨ pre.length = 1 ∨ pre.length = 2 ∨ pre.length = 3 ∨ pre.length = 4 ∨ pre.length = 5 ∨ pre.length = 6 ∨ pre.length = 7 ∨ pre.length = 8 := by omega
          rcases h with h | h | h | h | h | h | h | h | h <;> rw [h] <;> decide
        have hq : (10 : Int) ^ (pre ++ [x]).length = 10 ^ pre.length * 10 := by rw [List.length_append, List.length_singleton, Int.pow_succ]
        have h := ih (pre ++ [x]) (n * 10 + (x - 48)) (by rw [ht]; simp) (by rw [List.length_append, List.length_singleton]; omega) (by omega) (by rw [hq]; omega)
        rw [hx, wrap64_id (n := n * 10) (by omega) (by omega), show (x - 48) % 256 = x - 48 from by omega, wrap64_id (n := n * 10 + (x - 48)) (by omega) (by omega), wrap_len pre x (by omega)]
        refine Ev.eq h ?_
        rw [List.length_append, List.length_singleton, List.length_cons]
        by_cases hle : (digs suf).length + (pre.length + 1) ≤ 9
        · rw [if_pos hle, if_pos (by omega)]
          refine Prod.ext rfl (Prod.ext ?_ rfl)
          simp only
          omega
        · rw [if_neg hle, if_neg (by omega)]
theorem num_ev (t : List Int) : Ev (fun k => address_number.f k t) (numV t) := by
  have h := num_l0 t t [] 0 rfl (by simp) (by decide) (by decide)
  unfold numV
  show Ev (fun k => address_number.l0 k t 0 0) _
  simpa using h
def clos (sign : Int) : List Int → Nat
  | [] => 0
  | [x] => if x = 92 then 1 else if x = sign then 0 else 1
  | x :: y :: l => if x = 92 then clos sign l + 2 else if x = sign then 0 else clos sign (y :: l) + 1
def alon : List Int → Bool
  | [] => false
  | [x] => decide (x = 92)
  | x :: y :: l => if x = 92 then alon l else alon (y :: l)
theorem clos_le (sign : Int) : ∀ l : List Int, clos sign l ≤ l.length
  | [] => Nat.le_refl _
  | [x] => by unfold clos; repeat (first | split | simp)
  | x :: y :: l => by
    have h1 := clos_le sign l
    have h2 := clos_le sign (y :: l)
    unfold clos
    simp only [List.length_cons] at h2 ⊢
    split
    · omega
    · split <;> omega
theorem clos_l0 (t : List Int) (sign : Int) (hl : t.length ≤ 1099511627776) : ∀ (suf pre : List Int), t = pre ++ suf → Ev (fun k => address_closing.l0 k t sign (pre.length : Int)) ((pre.length + clos sign suf : Nat) : Int)
  | [], pre, ht => by
    refine Ev.step (fun k => address_closing.l0.eq_2 ..) (Ev.neg (by rw [ht]; simp) ?_)
    exact Ev.eq (Ev.now _) (by rw [ht]; simp [clos])
  | [x], pre, ht => by
    have hlen : t.length = pre.length + 1 := by rw [ht]; simp
    have hx : rd t (pre.length : Int) = x := by rw [ht]; exact rd_mid pre [] x
    refine Ev.step (fun k => address_closing.l0.eq_2 ..) (Ev.pos (by omega) (Ev.pos (by omega) ?_))
    rw [hx]
    by_cases h92 : x = 92
    · refine Ev.pos h92 ?_
      rw [wrap64_id (n := (pre.length : Int) + 1) (by omega) (by omega), wrap64_id (n := (pre.length : Int) + 1 + 1) (by omega) (by omega)]
      refine Ev.step (fun k => address_closing.l0.eq_2 ..) (Ev.neg (by omega) ?_)
      exact Ev.eq (Ev.now _) (by rw [show clos sign [x] = 1 from if_pos h92, hlen])
    · refine Ev.neg h92 ?_
      by_cases hs : x = sign
      · refine Ev.pos hs (Ev.eq (Ev.now _) ?_)
        rw [show clos sign [x] = 0 from by unfold clos; rw [if_neg h92, if_pos hs]]; rfl
      · refine Ev.neg hs ?_
        rw [wrap64_id (n := (pre.length : Int) + 1) (by omega) (by omega)]
        refine Ev.step (fun k => address_closing.l0.eq_2 ..) (Ev.neg (by omega) ?_)
        exact Ev.eq (Ev.now _) (by rw [show clos sign [x] = 1 from by unfold clos; rw [if_neg h92, if_neg hs], hlen])
  | x :: y :: l, pre, ht => by
    have hlen : t.length = pre.length + l.length + 2 := by rw [ht]; simp; omega
    have hx : rd t (pre.length : Int) = x := by rw [ht]; exact rd_mid pre (y :: l) x
    refine Ev.step (fun k => address_closing.l0.eq_2 ..) (Ev.pos (by omega) (Ev.pos (by omega) ?_))
    rw [hx]
    by_cases h92 : x = 92
    · refine Ev.pos h92 ?_
      have h := clos_l0 t sign hl l (pre ++ [x, y]) (by rw [ht]; simp)
      rw [wrap64_id (n := (pre.length : Int) + 1) (by omega) (by omega), wrap64_id (n := (pre.length : Int) + 1 + 1) (by omega) (by omega)]
      rw [show ((pre ++ [x, y]).length : Int) = (pre.length : Int) + 1 + 1 from by rw [List.length_append]; simp; omega] at h
      refine Ev.eq h ?_
      rw [show clos sign (x :: y :: l) = clos sign l + 2 from if_pos h92, List.length_append]
      simp; omega
    · refine Ev.neg h92 ?_
      by_cases hs : x = sign
      · refine Ev.pos hs (Ev.eq (Ev.now _) ?_)
        rw [show clos sign (x :: y :: l) = 0 from by unfold clos; rw [if_neg h92, if_pos hs]]; rfl
      · refine Ev.neg hs ?_
        have h := clos_l0 t sign hl (y :: l) (pre ++ [x]) (by rw [ht]; simp)
        rw [wrap_len pre x (by omega)]
        refine Ev.eq h ?_
        rw [show clos sign (x :: y :: l) = clos sign (y :: l) + 1 from by rw [clos]; rw [if_neg h92, if_neg hs], List.length_append, List.length_singleton]
        omega
theorem clos_ev (t : List Int) (sign : Int) (hl : t.length ≤ 1099511627776) : Ev (fun k => address_closing.f k t sign) (clos sign t : Int) := by
  have h := clos_l0 t sign hl t [] rfl
  show Ev (fun k => address_closing.l0 k t sign 0) _
  simpa using h
theorem alon_l0 (t : List Int) (hl : t.length ≤ 1099511627776) : ∀ (suf pre : List Int), t = pre ++ suf → Ev (fun k => address_alone.l0 k t (pre.length : Int)) (alon suf)
  | [], pre, ht => Ev.step (fun k => address_alone.l0.eq_2 ..) (Ev.neg (by rw [ht]; simp) (Ev.now _))
  | [x], pre, ht => by
    have hlen : t.length = pre.length + 1 := by rw [ht]; simp
    have hx : rd t (pre.length : Int) = x := by rw [ht]; exact rd_mid pre [] x
    refine Ev.step (fun k => address_alone.l0.eq_2 ..) (Ev.pos (by omega) (Ev.pos (by omega) ?_))
    rw [hx]
    by_cases h92 : x = 92
    · refine Ev.pos h92 ?_
      rw [wrap64_id (n := (t.length : Int) - 1) (by omega) (by omega)]
      exact Ev.pos (by omega) (Ev.eq (Ev.now _) (by rw [show alon [x] = decide (x = 92) from rfl, decide_eq_true h92]))
    · refine Ev.neg h92 ?_
      rw [wrap64_id (n := (pre.length : Int) + 1) (by omega) (by omega)]
      refine Ev.step (fun k => address_alone.l0.eq_2 ..) (Ev.neg (by omega) ?_)
      exact Ev.eq (Ev.now _) (by rw [show alon [x] = decide (x = 92) from rfl, decide_eq_false h92])
  | x :: y :: l, pre, ht => by
    have hlen : t.length = pre.length + l.length + 2 := by rw [ht]; simp; omega
    have hx : rd t (pre.length : Int) = x := by rw [ht]; exact rd_mid pre (y :: l) x
    refine Ev.step (fun k => address_alone.l0.eq_2 ..) (Ev.pos (by omega) (Ev.pos (by omega) ?_))
    rw [hx]
    by_cases h92 : x = 92
    · refine Ev.pos h92 ?_
      rw [wrap64_id (n := (t.length : Int) - 1) (by omega) (by omega)]
      refine Ev.neg (by omega) ?_
      have h := alon_l0 t hl l (pre ++ [x, y]) (by rw [ht]; simp)
      rw [wrap64_id (n := (pre.length : Int) + 1) (by omega) (by omega), wrap64_id (n := (pre.length : Int) + 1 + 1) (by omega) (by omega)]
      rw [show ((pre ++ [x, y]).length : Int) = (pre.length : Int) + 1 + 1 from by rw [List.length_append]; simp; omega] at h
      exact Ev.eq h (by rw [show alon (x :: y :: l) = alon l from if_pos h92])
    · refine Ev.neg h92 ?_
      have h := alon_l0 t hl (y :: l) (pre ++ [x]) (by rw [ht]; simp)
      rw [wrap_len pre x (by omega)]
      exact Ev.eq h (by rw [show alon (x :: y :: l) = alon (y :: l) from by rw [alon]; rw [if_neg h92]])
theorem alon_ev (t : List Int) (hl : t.length ≤ 1099511627776) : Ev (fun k => address_alone.f k t) (alon t) := by
  have h := alon_l0 t hl t [] rfl
  show Ev (fun k => address_alone.l0 k t 0) _
  simpa using h
abbrev PA := Int × Int × Int × List Int × Int × Bool × Int × Int
def badA : PA := (0, 0, 0, [], 0, false, 0, 230)
def baseC (c : Int) (rest : List Int) : PA :=
    if isD c = true then (if (numV (c :: rest)).2.2 = true then (110, (numV (c :: rest)).1, 0, [], 0, true, (numV (c :: rest)).2.1, 0) else badA)
    else if c = 46 ∨ c = 36 then (c, 0, 0, [], 0, true, 1, 0)
    else if c = 39 then (if rest = [] then badA else (39, 0, rd rest 0, [], 0, true, 2, 0))
    else if c = 47 ∨ c = 63 then (if clos c rest = rest.length ∧ alon rest = true then badA else (c, 0, 0, rest.take (clos c rest), 0, true, min ((clos c rest : Int) + 2) ((rest.length : Int) + 1), 0))
    else (0, 0, 0, [], 0, false, 0, 0)
def baseV : List Int → PA
  | [] => (0, 0, 0, [], 0, false, 0, 0)
  | c :: rest => baseC c rest
theorem clone_eq {x : List Int} (h : x.length ≤ 1099511627776) : bytes_Clone.f x = some x := if_pos (by omega)
theorem base_ev (t : List Int) (hl : t.length ≤ 2097152) : Ev (fun k => address_base.f k t) (baseV t) := by
  cases t with
  | nil => exact Ev.pos rfl (Ev.now _)
  | cons c rest =>
    have hlen : (c :: rest).length = rest.length + 1 := List.length_cons
    have hr0 : rd (c :: rest) 0 = c := rfl
    refine Ev.neg (by rw [hlen]; omega) (Ev.pos (by rw [hlen]; omega) ?_)
    rw [hr0]
    refine Ev.cbind (isD_eq c) ?_
    rw [show baseV (c :: rest) = baseC c rest from rfl]
    unfold baseC
    cases hd : isD c with
    | true =>
      rw [if_pos (rfl : true = true)]
      refine Ev.pos rfl (Ev.bind (num_ev _) ?_)
      by_cases h : (numV (c :: rest)).2.2 = true
      · exact Ev.eq (Ev.pos h (Ev.now _)) (if_pos h).symm
      · exact Ev.eq (Ev.neg h (Ev.now _)) (if_neg h).symm
    | false =>
      rw [if_neg (show ¬ (false = true) by decide)]
      refine Ev.neg (by decide) ?_
      have hj1 : ∀ z : Bool, z = decide (c = 47 ∨ c = 63) → ¬ (c = 46 ∨ c = 36) → c ≠ 39 → Ev (fun k => address_base.j1 k (c :: rest) c z) (if c = 47 ∨ c = 63 then (if clos c rest = rest.length ∧ alon rest = true then badA else (c, 0, 0, rest.take (clos c rest), 0, true, min ((clos c rest : Int) + 2) ((rest.length : Int) + 1), 0)) else (0, 0, 0, [], 0, false, 0, 0)) := by
        rintro z rfl h1 h2
        by_cases h : c = 47 ∨ c = 63
        · rw [if_pos h, decide_eq_true h]
          have hcl := clos_le c rest
          have hrl : rest.length ≤ 2097152 := by omega
          have e1 : wrap64 (((c :: rest).length : Int) - 1) = (rest.length : Int) := by rw [wrap64_id (by rw [hlen]; omega) (by rw [hlen]; omega), hlen]; omega
          have e2 : wrap64 (1 + (clos c rest : Int)) = (clos c rest : Int) + 1 := by rw [wrap64_id (by omega) (by omega)]; omega
          have e3 : wrap64 ((clos c rest : Int) + 2) = (clos c rest : Int) + 2 := wrap64_id (by omega) (by omega)
          have e4 : ((c :: rest).take ((clos c rest : Int) + 1).toNat).drop 1 = rest.take (clos c rest) := by rw [show ((clos c rest : Int) + 1).toNat = clos c rest + 1 from by omega, List.take_succ_cons, List.drop_succ_cons, List.drop_zero]
          have e5 : (rest.take (clos c rest)).length ≤ 1099511627776 := by rw [List.length_take]; omega
          refine Ev.step (fun k => address_base.j1.eq_2 ..) (Ev.pos rfl (Ev.pos (by rw [hlen]; omega) ?_))
          rw [show (c :: rest).drop 1 = rest from rfl]
          refine Ev.bind (clos_ev rest c (by omega)) ?_
          rw [e1, e2, e3, e4, mn_eq, hlen]
          by_cases hk : clos c rest = rest.length
          · refine Ev.pos (by omega) (Ev.bind (alon_ev rest (by omega)) ?_)
            by_cases ha : alon rest = true
            · exact Ev.eq (Ev.pos ha (Ev.now _)) (if_pos ⟨hk, ha⟩).symm
            · exact Ev.eq (Ev.neg ha (Ev.pos (by omega) (Ev.pos (by omega) (Ev.cbind (clone_eq e5) (Ev.now _))))) (by rw [if_neg (fun h : clos c rest = rest.length ∧ alon rest = true => ha h.2)]; rfl)
          · exact Ev.eq (Ev.neg (by omega) (Ev.pos (by omega) (Ev.pos (by omega) (Ev.cbind (clone_eq e5) (Ev.now _))))) (by rw [if_neg (fun h : clos c rest = rest.length ∧ alon rest = true => hk h.1)]; rfl)
        · rw [if_neg h, decide_eq_false h]
          exact Ev.step (fun k => address_base.j1.eq_2 ..) (Ev.neg (by decide) (Ev.now _))
      have hj0 : ∀ z : Bool, z = decide (c = 46 ∨ c = 36) → Ev (fun k => address_base.j0 k (c :: rest) c z) (if c = 46 ∨ c = 36 then (c, 0, 0, [], 0, true, 1, 0) else if c = 39 then (if rest = [] then badA else (39, 0, rd rest 0, [], 0, true, 2, 0)) else if c = 47 ∨ c = 63 then (if clos c rest = rest.length ∧ alon rest = true then badA else (c, 0, 0, rest.take (clos c rest), 0, true, min ((clos c rest : Int) + 2) ((rest.length : Int) + 1), 0)) else (0, 0, 0, [], 0, false, 0, 0)) := by
        rintro z rfl
        by_cases h : c = 46 ∨ c = 36
        · rw [if_pos h, decide_eq_true h]
          exact Ev.step (fun k => address_base.j0.eq_2 ..) (Ev.pos rfl (Ev.now _))
        · rw [if_neg h, decide_eq_false h]
          refine Ev.step (fun k => address_base.j0.eq_2 ..) (Ev.neg (by decide) ?_)
          by_cases h39 : c = 39
          · rw [if_pos h39]
            refine Ev.pos h39 ?_
            cases rest with
            | nil => rw [if_pos rfl]; exact Ev.pos rfl (Ev.now _)
            | cons y r =>
              refine Ev.eq (Ev.neg (by simp only [List.length_cons]; omega) (Ev.pos (by simp only [List.length_cons]; omega) (Ev.now _))) ?_
              rw [h39]
              rfl
          · rw [if_neg h39]
            refine Ev.neg h39 ?_
            by_cases h47 : c = 47
            · exact Ev.pos h47 (hj1 true (by simp [h47]) h h39)
            · exact Ev.neg h47 (hj1 _ (by rw [Bool.eq_iff_iff]; simp [h47]) h h39)
      by_cases h46 : c = 46
      · exact Ev.pos h46 (hj0 true (by simp [h46]))
      · exact Ev.neg h46 (hj0 _ (by rw [Bool.eq_iff_iff]; simp [h46]))
end Go.Proofs.YtdhdngoeaneanaaDoor.AD
end
section
namespace Go.Proofs.YtdhdngoeaneanaaDoor.AD
open Go.RowKit Go.Proofs.YtdhdngoeaneanaaDoorW.PrintWords Go.Proofs.YtdhdngoeaneanaaDoorW.PrintMore Go.Proofs.YtdhdngoeaneanaaDoor.X Go.Proofs.YtdhdngoeaneanaaDoor.XL Go.Proofs.YtdhdngoeaneanaaDoor.XO
set_option linter.unusedVariables false
set_option linter.unusedSimpArgs false
theorem valN_bound : ∀ (ds : List Int) (n : Int), (∀ x ∈ ds, isD x = true) → 0 ≤ n → 0 ≤ valN n ds ∧ valN n ds < (n + 1) * 10 ^ ds.length
  | [], n, _, h0 => ⟨h0, by show n < (n + 1) * 10 ^ 0; omega⟩
  | x :: ds, n, h, h0 => by
    have hx : 48 ≤ x ∧ x ≤ 57 := of_decide_eq_true (h x (by simp))
    have h1 := valN_bound ds (n * 10 + (x - 48)) (fun y hy => h y (by simp [hy])) (by omega)
    refine ⟨h1.1, Int.lt_of_lt_of_le h1.2 ?_⟩
    rw [List.length_cons, Int.pow_succ, show (n + 1) * (10 ^ ds.length * 10) = ((n + 1) * 10) * 10 ^ ds.length from by rw [Int.mul_comm (10 ^ ds.length) 10, Int.mul_assoc]]
    exact Int.mul_le_mul_of_nonneg_right (by omega) (Int.pow_nonneg (by decide))
theorem digs_all (l : List Int) : ∀ x ∈ digs l, isD x = true := by
  intro x hx
  unfold digs at hx
  induction l with
  | nil => cases hx
  | cons y l ih =>
    rw [List.takeWhile_cons] at hx
    cases hd : isD y with
    | false => rw [hd] at hx; cases hx
    | true =>
      rw [hd] at hx
      rcases List.mem_cons.1 hx with e | e
      · rw [e]; exact hd
      · exact ih e
theorem digs_le (l : List Int) : (digs l).length ≤ l.length := by
  unfold digs
  induction l with
  | nil => exact Nat.le_refl _
  | cons y l ih =>
    rw [List.takeWhile_cons]
    split
    · rw [List.length_cons, List.length_cons]; omega
    · exact Nat.zero_le _
theorem numV_ok {l : List Int} (h : (numV l).2.2 = true) : (numV l).2.1 = ((digs l).length : Int) ∧ (numV l).1 = valN 0 (digs l) ∧ (digs l).length ≤ 9 ∧ 0 ≤ (numV l).1 ∧ (numV l).1 ≤ 999999999 := by
  unfold numV at h ⊢
  by_cases h9 : (digs l).length ≤ 9
  · rw [if_pos h9]
    have hb := valN_bound (digs l) 0 (digs_all l) (by decide)
    have hp : (10 : Int) ^ (digs l).length ≤ 1000000000 := by
      have h : (digs l).length = 0 ∨ (digs l).length = 1 ∨ (digs l).length = 2 ∨ (digs l).length = 3 ∨ (digs l).length = 4 ∨ (digs l).length = 5 ∨ (digs l).length = 6 ∨ (digs l).length = 7 ∨ (digs l).length = 8 ∨ (digs l).length = 9 := by omega
      rcases h with h | h | h | h | h | h | h | h | h | h <;> rw [h] <;> decide
    exact ⟨rfl, rfl, h9, hb.1, by have := hb.2; simp only; omega⟩
  · rw [if_neg h9] at h; cases h
/-- What is added for a sign: its number, or 1. -/
def stepN (x : Int) (l : List Int) : Int := if x = 45 then -(if (numV l).2.1 = 0 then 1 else (numV l).1) else (if (numV l).2.1 = 0 then 1 else (numV l).1)
/-- The steps at the head of a text: the sum, how many bytes, was one given, is all well. -/
def stepsV : Nat → List Int → Int → Bool → Int × Nat × Bool × Bool
  | 0, _, add, g => (add, 0, g, true)
  | _ + 1, [], add, g => (add, 0, g, true)
  | f + 1, x :: l, add, g =>
    if x = 43 ∨ x = 45 then
      if (numV l).2.2 = true then ((stepsV f (l.drop (digs l).length) (add + stepN x l) true).1, (stepsV f (l.drop (digs l).length) (add + stepN x l) true).2.1 + (1 + (digs l).length), (stepsV f (l.drop (digs l).length) (add + stepN x l) true).2.2.1, (stepsV f (l.drop (digs l).length) (add + stepN x l) true).2.2.2)
      else (0, 0, false, false)
    else (add, 0, g, true)
def fuelA : Nat := 2097153
def endV (b1 b2 b3 : Int) (b4 : List Int) (p : Nat) (r : Int × Nat × Bool × Bool) : PA :=
  if r.2.2.2 = false then badA else if r.1 < -999999999 ∨ r.1 > 999999999 then badA else (b1, b2, b3, b4, r.1, r.2.2.1, ((p + r.2.1 : Nat) : Int), 0)
theorem stop_ev (t : List Int) (p : Nat) (b1 b2 b3 : Int) (b4 : List Int) (add : Int) (g : Bool) : Ev (fun k => address_Parse.j1 k t (p : Int) false b1 b2 b3 b4 add g) (endV b1 b2 b3 b4 p (add, 0, g, true)) := by
  refine Ev.step (fun k => address_Parse.j1.eq_2 ..) (Ev.neg (by decide) ?_)
  unfold endV
  rw [if_neg (show ¬ (true = false) by decide)]
  by_cases h1 : add < -999999999
  · exact Ev.eq (Ev.pos h1 (Ev.now _)) (if_pos (.inl h1)).symm
  · by_cases h2 : add > 999999999
    · exact Ev.eq (Ev.neg h1 (Ev.pos h2 (Ev.now _))) (if_pos (.inr h2)).symm
    · exact Ev.eq (Ev.neg h1 (Ev.neg h2 (Ev.now _))) (by rw [if_neg (fun h : add < -999999999 ∨ add > 999999999 => h.elim h1 h2)]; rfl)
theorem steps_ev (t : List Int) (hl : t.length ≤ 2097152) (b1 b2 b3 : Int) (b4 : List Int) : ∀ (f : Nat) (suf pre : List Int) (add : Int) (g : Bool), t = pre ++ suf → suf.length < f → -(pre.length * 1000000000 : Int) ≤ add → add ≤ (pre.length * 1000000000 : Int) →
    Ev (fun k => address_Parse.l0 k t (pre.length : Int) b1 b2 b3 b4 add g) (endV b1 b2 b3 b4 pre.length (stepsV f suf add g)) := by
  intro f
  induction f with
  | zero => intro suf pre add g ht hf; omega
  | succ f ih =>
    intro suf pre add g ht hf ha1 ha2
    cases suf with
    | nil =>
      refine Ev.step (fun k => address_Parse.l0.eq_2 ..) (Ev.neg (by rw [ht]; simp) ?_)
      exact stop_ev ..
    | cons x l =>
      have hlen : t.length = pre.length + l.length + 1 := by rw [ht]; exact len_mid pre l x
      have hx : rd t (pre.length : Int) = x := by rw [ht]; exact rd_mid pre l x
      have hdr : t.drop ((pre.length : Int) + 1).toNat = l := by
        rw [ht, show ((pre.length : Int) + 1).toNat = pre.length + 1 from by omega, ← List.drop_drop, List.drop_left]; rfl
      have hw1 : wrap64 ((pre.length : Int) + 1) = (pre.length : Int) + 1 := wrap64_id (by omega) (by omega)
      refine Ev.step (fun k => address_Parse.l0.eq_2 ..) (Ev.pos (by omega) (Ev.pos (by omega) ?_))
      rw [hx]
      unfold stepsV
      by_cases hs : x = 43 ∨ x = 45
      · rw [if_pos hs]
        have hj : Ev (fun k => address_Parse.j1 k t (pre.length : Int) true b1 b2 b3 b4 add g) (endV b1 b2 b3 b4 pre.length (if (numV l).2.2 = true then ((stepsV f (l.drop (digs l).length) (add + stepN x l) true).1, (stepsV f (l.drop (digs l).length) (add + stepN x l) true).2.1 + (1 + (digs l).length), (stepsV f (l.drop (digs l).length) (add + stepN x l) true).2.2.1, (stepsV f (l.drop (digs l).length) (add + stepN x l) true).2.2.2) else (0, 0, false, false))) := by
          refine Ev.step (fun k => address_Parse.j1.eq_2 ..) (Ev.pos rfl ?_)
          rw [hw1]
          refine Ev.pos (by omega) (Ev.pos (by omega) ?_)
          rw [hdr]
          refine Ev.bind (num_ev l) ?_
          by_cases hn : (numV l).2.2 = true
          · refine Ev.eq (r := endV b1 b2 b3 b4 pre.length ((stepsV f (l.drop (digs l).length) (add + stepN x l) true).1, (stepsV f (l.drop (digs l).length) (add + stepN x l) true).2.1 + (1 + (digs l).length), (stepsV f (l.drop (digs l).length) (add + stepN x l) true).2.2.1, (stepsV f (l.drop (digs l).length) (add + stepN x l) true).2.2.2)) ?_ (by rw [if_pos hn])
            obtain ⟨e1, e2, e3, e4, e5⟩ := numV_ok hn
            have hdl := digs_le l
            have hst : -999999999 ≤ stepN x l ∧ stepN x l ≤ 999999999 := by unfold stepN; split <;> split <;> omega
            -- on, behind the step
            have h := ih (l.drop (digs l).length) (pre ++ x :: l.take (digs l).length) (add + stepN x l) true (by rw [ht, List.append_assoc, List.cons_append, List.take_append_drop]) (by rw [List.length_drop]; simp only [List.length_cons] at hf; omega) (by rw [List.length_append, List.length_cons, List.length_take]; omega) (by rw [List.length_append, List.length_cons, List.length_take]; omega)
            have hpl : (pre ++ x :: l.take (digs l).length).length = pre.length + (1 + (digs l).length) := by rw [List.length_append, List.length_cons, List.length_take]; omega
            rw [hpl] at h
            have hend : ∀ r : Int × Nat × Bool × Bool, endV b1 b2 b3 b4 (pre.length + (1 + (digs l).length)) r = endV b1 b2 b3 b4 pre.length (r.1, r.2.1 + (1 + (digs l).length), r.2.2.1, r.2.2.2) := fun r => by
              unfold endV
              simp only
              rw [show pre.length + (1 + (digs l).length) + r.2.1 = pre.length + (r.2.1 + (1 + (digs l).length)) from by omega]
            rw [hend] at h
            have hw2 : wrap64 ((pre.length : Int) + (wrap64 (1 + (numV l).2.1))) = ((pre.length + (1 + (digs l).length) : Nat) : Int) := by
              rw [e1, wrap64_id (n := 1 + ((digs l).length : Int)) (by omega) (by omega), wrap64_id (by omega) (by omega)]
              omega
            refine Ev.pos hn ?_
            rw [hw2]
            by_cases h0 : (numV l).2.1 = 0
            · refine Ev.pos h0 (Ev.pos (by omega) (Ev.pos (by omega) ?_))
              rw [hx]
              by_cases h45 : x = 45
              · rw [show stepN x l = -1 from by unfold stepN; rw [if_pos h45, if_pos h0]] at h
                refine Ev.pos h45 ?_
                rw [wrap64_id (n := add + -1) (by omega) (by omega)]
                exact Ev.eq h (by rw [show stepN x l = -1 from by unfold stepN; rw [if_pos h45, if_pos h0]])
              · rw [show stepN x l = 1 from by unfold stepN; rw [if_neg h45, if_pos h0]] at h
                refine Ev.neg h45 ?_
                rw [wrap64_id (n := add + 1) (by omega) (by omega)]
                exact Ev.eq h (by rw [show stepN x l = 1 from by unfold stepN; rw [if_neg h45, if_pos h0]])
            · refine Ev.neg h0 (Ev.pos (by omega) (Ev.pos (by omega) ?_))
              rw [hx]
              by_cases h45 : x = 45
              · have es : stepN x l = -(numV l).1 := by unfold stepN; rw [if_pos h45, if_neg h0]
                rw [es] at h
                refine Ev.pos h45 ?_
                rw [wrap64_id (n := -(numV l).1) (by omega) (by omega), wrap64_id (n := add + -(numV l).1) (by omega) (by omega)]
                exact Ev.eq h (by rw [es])
              · have es : stepN x l = (numV l).1 := by unfold stepN; rw [if_neg h45, if_neg h0]
                rw [es] at h
                refine Ev.neg h45 ?_
                rw [wrap64_id (n := add + (numV l).1) (by omega) (by omega)]
                exact Ev.eq h (by rw [es])
          · exact Ev.eq (Ev.neg hn (Ev.now _)) (by rw [if_neg hn]; rfl)
        by_cases h43 : x = 43
        · exact Ev.pos h43 hj
        · have h45 : x = 45 := hs.elim (fun h => absurd h h43) id
          refine Ev.neg h43 ?_
          rw [show (x == 45) = true from beq_iff_eq.2 h45]
          exact hj
      · rw [if_neg hs]
        have h43 : x ≠ 43 := fun h => hs (.inl h)
        refine Ev.neg h43 ?_
        rw [show (x == 45) = false from beq_eq_false_iff_ne.2 (fun h => hs (.inr h))]
        exact stop_ev ..
/-- What Parse comes to. -/
def parseV (t : List Int) : PA := if (baseV t).2.2.2.2.2.2.2 = 0 then endV (baseV t).1 (baseV t).2.1 (baseV t).2.2.1 (baseV t).2.2.2.1 (baseV t).2.2.2.2.2.2.1.toNat (stepsV fuelA (t.drop (baseV t).2.2.2.2.2.2.1.toNat) 0 (baseV t).2.2.2.2.2.1) else badA
/-- What a base is: nothing, a fault, or some bytes at the head of the line. -/
theorem base_kinds (t : List Int) : (baseV t = badA) ∨ ((baseV t).2.2.2.2.2.2.2 = 0 ∧ (baseV t).2.2.2.2.1 = 0 ∧ 0 ≤ (baseV t).2.2.2.2.2.2.1 ∧ (baseV t).2.2.2.2.2.2.1 ≤ (t.length : Int) ∧ ((baseV t).2.2.2.2.2.1 = true ↔ 0 < (baseV t).2.2.2.2.2.2.1)) := by
  cases t with
  | nil => exact .inr ⟨rfl, rfl, by decide, by decide, by decide⟩
  | cons c rest =>
    show baseC c rest = badA ∨ _
    rw [show baseV (c :: rest) = baseC c rest from rfl]
    unfold baseC
    split
    · rename_i hd
      split
      · rename_i hn
        have h := numV_ok hn
        have h2 := digs_le (c :: rest)
        have h3 : 0 < (digs (c :: rest)).length := by unfold digs; rw [List.takeWhile_cons, hd]; simp
        exact .inr ⟨rfl, rfl, by simp only; omega, by simp only; omega, ⟨fun _ => (by have e := h.1; show 0 < (numV (c :: rest)).2.1; omega), fun _ => rfl⟩⟩
      · exact .inl rfl
    · split
      · exact .inr ⟨rfl, rfl, by simp only; omega, by simp only [List.length_cons]; omega, by simp⟩
      · split
        · split
          · exact .inl rfl
          · rename_i hr
            have : 0 < rest.length := List.length_pos_iff.2 hr
            exact .inr ⟨rfl, rfl, by simp only; omega, by simp only [List.length_cons]; omega, by simp⟩
        · split
          · split
            · exact .inl rfl
            · have := clos_le c rest
              exact .inr ⟨rfl, rfl, by simp only; omega, by simp only [List.length_cons]; omega, ⟨fun _ => (by show 0 < min ((clos c rest : Int) + 2) ((rest.length : Int) + 1); omega), fun _ => rfl⟩⟩
          · exact .inr ⟨rfl, rfl, by simp, by simp only [List.length_cons]; omega, by simp⟩
theorem parse_ev (t : List Int) (hl : t.length ≤ 2097152) : Ev (fun k => address_Parse.f k t) (parseV t) := by
  have hk := base_kinds t
  have hb := base_ev t hl
  unfold parseV
  generalize baseV t = b at hk hb
  obtain ⟨b1, b2, b3, b4, b5, b6, b7, b8⟩ := b
  simp only at hk ⊢
  refine Ev.bind hb ?_
  rcases hk with h | ⟨h1, h2, h3, h4, h5⟩
  · unfold badA at h
    simp only [Prod.mk.injEq] at h
    obtain ⟨rfl, rfl, rfl, rfl, rfl, rfl, rfl, rfl⟩ := h
    exact Ev.eq (Ev.neg (by decide) (Ev.now _)) (by rw [if_neg (by decide)]; rfl)
  · subst h1 h2
    rw [if_pos rfl]
    refine Ev.pos rfl ?_
    have h := steps_ev t hl b1 b2 b3 b4 fuelA (t.drop b7.toNat) (t.take b7.toNat) 0 b6 (List.take_append_drop _ _).symm (by rw [List.length_drop]; unfold fuelA; omega) (by omega) (by omega)
    rw [show (t.take b7.toNat).length = b7.toNat from by rw [List.length_take]; omega, show ((b7.toNat : Nat) : Int) = b7 from by omega] at h
    exact h
end Go.Proofs.YtdhdngoeaneanaaDoor.AD
end
section
namespace Go.Proofs.YtdhdngoeaneanaaDoor.AD
open Go.RowKit Go.Proofs.YtdhdngoeaneanaaDoorW.PrintWords Go.Proofs.YtdhdngoeaneanaaDoorW.PrintMore Go.Proofs.YtdhdngoeaneanaaDoor.X Go.Proofs.YtdhdngoeaneanaaDoor.XL Go.Proofs.YtdhdngoeaneanaaDoor.XO
set_option linter.unusedVariables false
set_option linter.unusedSimpArgs false
theorem digs_take : ∀ (l : List Int) (m : Nat), digs (l.take m) = (digs l).take m
  | [], m => by simp [digs]
  | x :: l, 0 => by simp [digs]
  | x :: l, m + 1 => by
    have ih := digs_take l m
    unfold digs at ih ⊢
    rw [List.take_succ_cons, List.takeWhile_cons, List.takeWhile_cons]
    split
    · rw [ih, List.take_succ_cons]
    · simp
theorem digs_long {l : List Int} {m : Nat} (h : (digs l).length ≤ m) : digs (l.take m) = digs l := by rw [digs_take, List.take_of_length_le h]
theorem numV_long {l : List Int} {m : Nat} (h : (digs l).length ≤ m) : numV (l.take m) = numV l := by unfold numV; rw [digs_long h]
theorem rd_cons (x : Int) (l : List Int) (n : Nat) : rd (x :: l) ((n + 1 : Nat) : Int) = rd l (n : Int) := by unfold rd; rw [Int.toNat_natCast, Int.toNat_natCast]; rfl
theorem rd_drop (l : List Int) (d n : Nat) : rd (l.drop d) (n : Int) = rd l ((d + n : Nat) : Int) := by unfold rd; rw [Int.toNat_natCast, Int.toNat_natCast, List.getD_eq_getElem?_getD, List.getD_eq_getElem?_getD, List.getElem?_drop]
theorem steps_take : ∀ (f : Nat) (l : List Int) (add : Int) (g : Bool), (stepsV f l add g).2.2.2 = true →
    (stepsV f l add g).2.1 ≤ l.length ∧ ((stepsV f l add g).2.2.1 = (g || decide (0 < (stepsV f l add g).2.1))) ∧ (∀ m, (stepsV f l add g).2.1 ≤ m → stepsV f (l.take m) add g = stepsV f l add g) ∧ (l.length < f → (stepsV f l add g).2.1 = l.length ∨ (rd l ((stepsV f l add g).2.1 : Int) ≠ 43 ∧ rd l ((stepsV f l add g).2.1 : Int) ≠ 45)) := by
  intro f
  induction f with
  | zero => intro l add g _; exact ⟨Nat.zero_le _, by simp [stepsV], fun m _ => rfl, fun h => by omega⟩
  | succ f ih =>
    intro l add g hok
    cases l with
    | nil => exact ⟨Nat.le_refl _, by simp [stepsV], fun m _ => by simp, fun _ => .inl rfl⟩
    | cons x l =>
      by_cases hs : x = 43 ∨ x = 45
      · by_cases hn : (numV l).2.2 = true
        · have e : stepsV (f + 1) (x :: l) add g = ((stepsV f (l.drop (digs l).length) (add + stepN x l) true).1, (stepsV f (l.drop (digs l).length) (add + stepN x l) true).2.1 + (1 + (digs l).length), (stepsV f (l.drop (digs l).length) (add + stepN x l) true).2.2.1, (stepsV f (l.drop (digs l).length) (add + stepN x l) true).2.2.2) := by
            rw [stepsV, if_pos hs, if_pos hn]
          rw [e] at hok ⊢
          simp only at hok ⊢
          have hd := digs_le l
          obtain ⟨i1, i2, i3, i4⟩ := ih (l.drop (digs l).length) (add + stepN x l) true hok
          rw [List.length_drop] at i1 i4
          refine ⟨by rw [List.length_cons]; omega, by rw [i2, decide_eq_true (show 0 < (stepsV f (l.drop (digs l).length) (add + stepN x l) true).2.1 + (1 + (digs l).length) by omega)]; simp, fun m hm => ?_, fun hf => ?_⟩
          · obtain ⟨m', rfl⟩ : ∃ m', m = m' + 1 := ⟨m - 1, by omega⟩
            have h1 : numV (l.take m') = numV l := numV_long (by omega)
            have h2 : digs (l.take m') = digs l := digs_long (by omega)
            have h3 : stepN x (l.take m') = stepN x l := by unfold stepN; rw [h1]
            have h4 := i3 (m' - (digs l).length) (by omega)
            rw [List.take_succ_cons, stepsV, if_pos hs, h1, if_pos hn, h2, h3, List.drop_take, h4]
          · rw [List.length_cons] at hf ⊢
            rcases i4 (by omega) with h | h
            · exact .inl (by omega)
            · refine .inr ?_
              rw [rd_drop] at h
              rw [show (stepsV f (l.drop (digs l).length) (add + stepN x l) true).2.1 + (1 + (digs l).length) = ((digs l).length + (stepsV f (l.drop (digs l).length) (add + stepN x l) true).2.1) + 1 from by omega, rd_cons]
              exact h
        · rw [stepsV, if_pos hs, if_neg hn] at hok
          cases hok
      · have e : ∀ l2 : List Int, stepsV (f + 1) (x :: l2) add g = (add, 0, g, true) := fun l2 => by rw [stepsV, if_neg hs]
        rw [e]
        refine ⟨Nat.zero_le _, by simp, fun m _ => ?_, fun _ => .inr ⟨fun h => hs (.inl h), fun h => hs (.inr h)⟩⟩
        cases m with
        | zero => rfl
        | succ m => rw [List.take_succ_cons, e]
theorem clos_take (s : Int) : ∀ (l : List Int) (j : Nat), clos s l < j → j ≤ l.length → clos s (l.take j) = clos s l
  | [], j, h1, h2 => by simp at h2; omega
  | [x], j, h1, h2 => by rw [List.take_of_length_le (by simp only [List.length_cons, List.length_nil] at h2 ⊢; omega)]
  | x :: y :: l, j, h1, h2 => by
    simp only [List.length_cons] at h2
    unfold clos at h1
    by_cases h92 : x = 92
    · rw [if_pos h92] at h1
      obtain ⟨j', rfl⟩ : ∃ j', j = j' + 2 := ⟨j - 2, by omega⟩
      have h := clos_take s l j' (by omega) (by omega)
      rw [List.take_succ_cons, List.take_succ_cons, show clos s (x :: y :: l.take j') = clos s (l.take j') + 2 from if_pos h92, show clos s (x :: y :: l) = clos s l + 2 from if_pos h92, h]
    · rw [if_neg h92] at h1
      by_cases hs : x = s
      · rw [show clos s (x :: y :: l) = 0 from by rw [clos, if_neg h92, if_pos hs]]
        match j with
        | 0 => omega
        | 1 => show clos s [x] = 0; rw [clos, if_neg h92, if_pos hs]
        | j + 2 => rw [List.take_succ_cons, List.take_succ_cons, clos, if_neg h92, if_pos hs]
      · rw [if_neg hs] at h1
        obtain ⟨j', rfl⟩ : ∃ j', j = j' + 2 := ⟨j - 2, by omega⟩
        have h := clos_take s (y :: l) (j' + 1) (by omega) (by simp only [List.length_cons]; omega)
        rw [List.take_succ_cons] at h
        rw [List.take_succ_cons, List.take_succ_cons, clos, if_neg h92, if_neg hs, h, show clos s (x :: y :: l) = clos s (y :: l) + 1 from by rw [clos, if_neg h92, if_neg hs]]
theorem base_take (t : List Int) (h : (baseV t).2.2.2.2.2.2.2 = 0) (m : Nat) (hm : (baseV t).2.2.2.2.2.2.1 ≤ (m : Int)) : baseV (t.take m) = baseV t := by
  cases t with
  | nil => rw [List.take_nil]
  | cons c rest =>
    rw [show baseV (c :: rest) = baseC c rest from rfl] at h hm ⊢
    cases m with
    | zero =>
      show baseV [] = _
      unfold baseC at h hm ⊢
      split at h
      · rename_i hd
        split at h
        · rename_i hn
          rw [if_pos hd, if_pos hn] at hm
          have h2 := (numV_ok hn).1
          have h3 : 0 < (digs (c :: rest)).length := by unfold digs; rw [List.takeWhile_cons, hd]; simp
          simp only at hm
          omega
        · cases h
      · rename_i hd
        rw [if_neg hd] at hm ⊢
        split at h
        · rename_i h1
          rw [if_pos h1] at hm
          simp at hm
        · rename_i h1
          rw [if_neg h1] at hm ⊢
          split at h
          · rename_i h2
            rw [if_pos h2] at hm
            split at h
            · cases h
            · rename_i h3
              rw [if_neg h3] at hm
              simp at hm
          · rename_i h2
            rw [if_neg h2] at hm ⊢
            split at h
            · rename_i h3
              rw [if_pos h3] at hm
              split at h
              · cases h
              · rename_i h4
                rw [if_neg h4] at hm
                simp only at hm
                omega
            · rename_i h3
              rw [if_neg h3]
              rfl
    | succ m =>
      rw [List.take_succ_cons, show baseV (c :: rest.take m) = baseC c (rest.take m) from rfl]
      have hdg : isD c = true → (numV (c :: rest)).2.2 = true → (numV (c :: rest)).2.1 ≤ ((m + 1 : Nat) : Int) → numV (c :: rest.take m) = numV (c :: rest) := fun _ hn hk => by
        have h2 := (numV_ok hn).1
        have h3 := numV_long (l := c :: rest) (m := m + 1) (by omega)
        rw [List.take_succ_cons] at h3
        exact h3
      unfold baseC at h hm ⊢
      split at h
      · rename_i hd
        rw [if_pos hd] at hm ⊢
        split at h
        · rename_i hn
          rw [if_pos hn] at hm
          rw [if_pos hd, hdg hd hn hm]
        · cases h
      · rename_i hd
        rw [if_neg hd] at hm ⊢
        rw [if_neg hd]
        split at h
        · rename_i h1
          rw [if_pos h1, if_pos h1]
        · rename_i h1
          rw [if_neg h1] at hm ⊢
          rw [if_neg h1]
          split at h
          · rename_i h2
            rw [if_pos h2] at hm ⊢
            rw [if_pos h2]
            split at h
            · cases h
            · rename_i h3
              rw [if_neg h3] at hm ⊢
              simp only at hm
              cases rest with
              | nil => exact absurd rfl h3
              | cons y r =>
                cases m with
                | zero => omega
                | succ m => rw [List.take_succ_cons, if_neg (by simp)]; rfl
          · rename_i h2
            rw [if_neg h2] at hm ⊢
            rw [if_neg h2]
            split at h
            · rename_i h3
              rw [if_pos h3] at hm ⊢
              rw [if_pos h3]
              split at h
              · cases h
              · rename_i h4
                rw [if_neg h4] at hm
                simp only at hm
                have hcl := clos_le c rest
                by_cases hk : clos c rest = rest.length
                · rw [List.take_of_length_le (by omega)]
                · have h5 := clos_take c rest (min m rest.length) (by omega) (by omega)
                  have h6 : rest.take (min m rest.length) = rest.take m := by
                    by_cases hmm : m ≤ rest.length
                    · rw [Nat.min_eq_left hmm]
                    · rw [Nat.min_eq_right (by omega), List.take_length, List.take_of_length_le (by omega)]
                  rw [h6] at h5
                  rw [h5, if_neg (fun h => by have := h.1; rw [List.length_take] at this; omega), if_neg h4, List.take_take, List.length_take]
                  rw [show min (clos c rest) m = clos c rest from by omega]
                  rw [show min ((clos c rest : Int) + 2) (((min m rest.length : Nat) : Int) + 1) = min ((clos c rest : Int) + 2) ((rest.length : Int) + 1) from by omega]
            · rename_i h3
              rw [if_neg h3, if_neg h3]
theorem longest (t : List Int) (ht : t.length ≤ 2097152) (h : (parseV t).2.2.2.2.2.2.2 = 0) : 0 ≤ (parseV t).2.2.2.2.2.2.1 ∧ (parseV t).2.2.2.2.2.2.1 ≤ (t.length : Int) ∧ ((parseV t).2.2.2.2.2.1 = decide (0 < (parseV t).2.2.2.2.2.2.1)) ∧ parseV (t.take (parseV t).2.2.2.2.2.2.1.toNat) = parseV t ∧
    ((parseV t).2.2.2.2.2.2.1 = (t.length : Int) ∨ (rd t (parseV t).2.2.2.2.2.2.1 ≠ 43 ∧ rd t (parseV t).2.2.2.2.2.2.1 ≠ 45)) := by
  have hk := base_kinds t
  have hbt := base_take t
  by_cases hb : (baseV t).2.2.2.2.2.2.2 = 0
  · rcases hk with hk | ⟨_, k2, k3, k4, k5⟩
    · rw [hk] at hb; cases hb
    have hst := steps_take fuelA (t.drop (baseV t).2.2.2.2.2.2.1.toNat) 0 (baseV t).2.2.2.2.2.1
    have e : parseV t = endV (baseV t).1 (baseV t).2.1 (baseV t).2.2.1 (baseV t).2.2.2.1 (baseV t).2.2.2.2.2.2.1.toNat (stepsV fuelA (t.drop (baseV t).2.2.2.2.2.2.1.toNat) 0 (baseV t).2.2.2.2.2.1) := if_pos hb
    have e2 : ∀ n : Nat, baseV (t.take n) = baseV t → parseV (t.take n) = endV (baseV t).1 (baseV t).2.1 (baseV t).2.2.1 (baseV t).2.2.2.1 (baseV t).2.2.2.2.2.2.1.toNat (stepsV fuelA ((t.take n).drop (baseV t).2.2.2.2.2.2.1.toNat) 0 (baseV t).2.2.2.2.2.1) := fun n hn => by
      unfold parseV
      rw [hn, if_pos hb]
    generalize hr : stepsV fuelA (t.drop (baseV t).2.2.2.2.2.2.1.toNat) 0 (baseV t).2.2.2.2.2.1 = r at e hst
    rw [e] at h
    have hr4 : r.2.2.2 = true := by
      unfold endV at h
      cases hq : r.2.2.2 with
      | true => rfl
      | false => rw [if_pos hq] at h; cases h
    obtain ⟨s1, s2, s3, s4⟩ := hst hr4
    have hr1 : ¬ (r.1 < -999999999 ∨ r.1 > 999999999) := fun hq => by
      unfold endV at h
      rw [if_neg (by rw [hr4]; decide), if_pos hq] at h
      cases h
    have e3 : parseV t = ((baseV t).1, (baseV t).2.1, (baseV t).2.2.1, (baseV t).2.2.2.1, r.1, r.2.2.1, (((baseV t).2.2.2.2.2.2.1.toNat + r.2.1 : Nat) : Int), 0) := by
      rw [e]
      unfold endV
      rw [if_neg (by rw [hr4]; decide), if_neg hr1]
    rw [List.length_drop] at s1 s4
    rw [e3]
    simp only
    generalize hkk : (baseV t).2.2.2.2.2.2.1 = k at *
    obtain ⟨q, rfl⟩ : ∃ q : Nat, k = (q : Int) := ⟨k.toNat, by omega⟩
    simp only [Int.toNat_natCast] at *
    refine ⟨by omega, by omega, ?_, ?_, ?_⟩
    · rw [s2, Bool.eq_iff_iff]
      simp only [Bool.or_eq_true, decide_eq_true_eq, k5]
      omega
    · rw [e2 (q + r.2.1) (hbt hb _ (by omega)), List.drop_take, show q + r.2.1 - q = r.2.1 from by omega, s3 _ (Nat.le_refl _), ← e3]
      exact e.symm
    · rcases s4 (by unfold fuelA; omega) with h | h
      · exact .inl (by omega)
      · rw [rd_drop] at h
        exact .inr h
  · unfold parseV at h
    rw [if_neg hb] at h
    cases h
end Go.Proofs.YtdhdngoeaneanaaDoor.AD
end
section
namespace Go.Proofs.YtdhdngoeaneanaaDoor.AD
open Go.RowKit Go.Proofs.YtdhdngoeaneanaaDoorW.PrintWords Go.Proofs.YtdhdngoeaneanaaDoorW.PrintMore Go.Proofs.YtdhdngoeaneanaaDoor.X Go.Proofs.YtdhdngoeaneanaaDoor.XL Go.Proofs.YtdhdngoeaneanaaDoor.XO Go.Proofs.YtdhdngoeaneanaaDoor.PT
set_option linter.unusedVariables false
set_option linter.unusedSimpArgs false
def soundB (base num : Int) (text : List Int) : Bool := if base = 0 ∨ base = 46 ∨ base = 36 ∨ base = 39 then true else if base = 110 then decide (0 ≤ num ∧ num ≤ 999999999) else if base = 47 ∨ base = 63 then decide (clos base (text ++ [base]) = text.length) else false
def soundV (base num : Int) (text : List Int) (add : Int) (given : Bool) : Bool := if given = true ∧ -999999999 ≤ add ∧ add ≤ 999999999 then soundB base num text else false
/-! numerals -/
def decL (u : Nat) : List Int := (Lib.decDigits u).map fun b => (b.toNat : Int)
theorem dec_pos {i : Int} (h : 0 ≤ i) : dec i = decL i.toNat := by unfold dec decL Lib.itoa; rw [if_neg (by omega)]
theorem dec_neg {i : Int} (h : i < 0) : dec i = 45 :: decL i.natAbs := by unfold dec decL Lib.itoa; rw [if_pos h]; rfl
theorem decL_small {u : Nat} (h : u < 10) : decL u = [48 + (u : Int)] := by
  unfold decL
  rw [Lib.decDigits, dif_pos h]
  have : ∀ v : Fin 10, (([UInt8.ofNat (48 + v.val)] : List UInt8).map fun b => (b.toNat : Int)) = [48 + (v.val : Int)] := by decide
  first | exact this ⟨u, h⟩ | simpa using this ⟨u, h⟩
theorem decL_big {u : Nat} (h : ¬ u < 10) : decL u = decL (u / 10) ++ [48 + ((u % 10 : Nat) : Int)] := by
  unfold decL
  rw [Lib.decDigits, dif_neg h, List.map_append]
  have : ∀ v : Fin 10, (([UInt8.ofNat (48 + v.val)] : List UInt8).map fun b => (b.toNat : Int)) = [48 + (v.val : Int)] := by decide
  congr 1
  first | exact this ⟨u % 10, Nat.mod_lt _ (by decide)⟩ | simpa using this ⟨u % 10, Nat.mod_lt _ (by decide)⟩
theorem decL_all : ∀ (u : Nat), ∀ x ∈ decL u, isD x = true := by
  intro u
  induction u using Nat.strongRecOn with
  | _ u ih =>
    intro x hx
    by_cases h : u < 10
    · rw [decL_small h] at hx
      rw [List.mem_singleton.1 hx]
      exact decide_eq_true (by omega)
    · rw [decL_big h] at hx
      rcases List.mem_append.1 hx with h1 | h1
      · exact ih (u / 10) (by omega) x h1
      · rw [List.mem_singleton.1 h1]
        exact decide_eq_true (by omega)
theorem decL_pos (u : Nat) : 1 ≤ (decL u).length := by
  by_cases h : u < 10
  · rw [decL_small h]; exact Nat.le_refl _
  · rw [decL_big h, List.length_append, List.length_singleton]; omega
theorem decL_len : ∀ (k u : Nat), u < 10 ^ (k + 1) → (decL u).length ≤ k + 1
  | 0, u, h => by rw [decL_small (by omega)]; exact Nat.le_refl _
  | k + 1, u, h => by
    by_cases h1 : u < 10
    · rw [decL_small h1]; simp
    · rw [decL_big h1, List.length_append, List.length_singleton]
      have := decL_len k (u / 10) (by rw [Nat.pow_succ] at h; omega)
      omega
theorem valN_app (x : Int) : ∀ (l : List Int) (n : Int), valN n (l ++ [x]) = valN n l * 10 + (x - 48)
  | [], n => rfl
  | y :: l, n => valN_app x l (n * 10 + (y - 48))
theorem valN_dec : ∀ (u : Nat), valN 0 (decL u) = (u : Int) := by
  intro u
  induction u using Nat.strongRecOn with
  | _ u ih =>
    by_cases h : u < 10
    · rw [decL_small h]; show (0 : Int) * 10 + (48 + (u : Int) - 48) = u; omega
    · rw [decL_big h, valN_app, ih (u / 10) (by omega)]; omega
theorem digs_app : ∀ (l r : List Int), (∀ x ∈ l, isD x = true) → digs (l ++ r) = l ++ digs r
  | [], r, _ => rfl
  | x :: l, r, h => by
    have ih := digs_app l r (fun y hy => h y (by simp [hy]))
    unfold digs at ih ⊢
    rw [List.cons_append, List.takeWhile_cons, h x (by simp), if_pos rfl, ih, List.cons_append]
/-- What may stand behind a number. -/
def noD (r : List Int) : Prop := digs r = []
theorem numV_dec {u : Nat} (hu : u ≤ 999999999) {r : List Int} (hr : noD r) : digs (decL u ++ r) = decL u ∧ numV (decL u ++ r) = ((u : Int), ((decL u).length : Int), true) := by
  have h1 : digs (decL u ++ r) = decL u := by rw [digs_app _ _ (decL_all u), hr, List.append_nil]
  refine ⟨h1, ?_⟩
  unfold numV
  rw [h1, if_pos (decL_len 8 u (by omega)), valN_dec]
theorem noD_tail (b add : Int) : noD (tailV b add) := by
  unfold noD tailV
  split
  · rfl
  · split
    · rename_i h
      rw [dec_neg h]
      unfold digs
      rw [List.takeWhile_cons]
      rfl
    · rw [List.singleton_append]
      unfold digs
      rw [List.takeWhile_cons]
      rfl
theorem steps_one (f : Nat) (x : Int) (hx : x = 43 ∨ x = 45) {u : Nat} (hu : u ≤ 999999999) (g : Bool) : stepsV (f + 2) (x :: decL u) 0 g = ((if x = 45 then -(u : Int) else (u : Int)), (decL u).length + 1, true, true) := by
  obtain ⟨h1, h2⟩ := numV_dec hu (r := []) rfl
  rw [List.append_nil] at h1 h2
  have h3 := decL_pos u
  rw [stepsV, if_pos hx, h2, if_pos rfl, h1, List.drop_length]
  have h4 : stepN x (decL u) = if x = 45 then -(u : Int) else (u : Int) := by
    unfold stepN
    rw [h2]
    have hne : ¬ ((decL u).length : Int) = 0 := by omega
    simp only [if_neg hne]
  rw [h4]
  simp only [stepsV]
  refine Prod.ext ?_ (Prod.ext ?_ rfl)
  · show (0 : Int) + _ = _; omega
  · show 0 + (1 + (decL u).length) = (decL u).length + 1; omega
theorem steps_tail (f : Nat) (b add : Int) (h1 : -999999999 ≤ add) (h2 : add ≤ 999999999) (g : Bool) : stepsV (f + 2) (tailV b add) 0 g = (add, (tailV b add).length, (g || decide (0 < (tailV b add).length)), true) := by
  unfold tailV
  split
  · rename_i h
    rw [h.1]
    simp [stepsV]
  · split
    · rename_i h
      rw [dec_neg h, steps_one f 45 (.inr rfl) (by omega), if_pos rfl]
      refine Prod.ext ?_ (Prod.ext ?_ (Prod.ext ?_ rfl))
      · show -((add.natAbs : Nat) : Int) = add; omega
      · simp
      · simp
    · rename_i h
      rw [dec_pos (by omega), List.singleton_append, steps_one f 43 (.inl rfl) (by omega), if_neg (by decide)]
      refine Prod.ext ?_ (Prod.ext ?_ (Prod.ext ?_ rfl))
      · show ((add.toNat : Nat) : Int) = add; omega
      · simp
      · simp
theorem clos_app (s : Int) (hs : s ≠ 92) (r : List Int) : ∀ text : List Int, clos s (text ++ [s]) = text.length → clos s (text ++ s :: r) = text.length
  | [], _ => by
    show clos s (s :: r) = 0
    cases r with
    | nil => rw [clos, if_neg hs, if_pos rfl]
    | cons y r => rw [clos, if_neg hs, if_pos rfl]
  | [x], h => by
    have h' : clos s (x :: s :: []) = 1 := h
    show clos s (x :: s :: r) = 1
    rw [clos] at h' ⊢
    by_cases h92 : x = 92
    · rw [if_pos h92] at h'; simp [clos] at h'
    · rw [if_neg h92] at h' ⊢
      by_cases hx : x = s
      · rw [if_pos hx] at h'; cases h'
      · rw [if_neg hx] at h' ⊢
        have := clos_app s hs r [] (by show clos s [s] = 0; rw [clos, if_neg hs, if_pos rfl])
        show clos s (s :: r) + 1 = 1
        have e : clos s (s :: r) = 0 := this
        rw [e]
  | x :: y :: l, h => by
    have h' : clos s (x :: y :: (l ++ [s])) = l.length + 2 := h
    show clos s (x :: y :: (l ++ s :: r)) = l.length + 2
    rw [clos] at h' ⊢
    by_cases h92 : x = 92
    · rw [if_pos h92] at h' ⊢
      rw [clos_app s hs r l (by omega)]
    · rw [if_neg h92] at h' ⊢
      by_cases hx : x = s
      · rw [if_pos hx] at h'; cases h'
      · rw [if_neg hx] at h' ⊢
        have h2 := clos_app s hs r (y :: l) (by show clos s (y :: (l ++ [s])) = l.length + 1; omega)
        have h3 : clos s (y :: (l ++ s :: r)) = l.length + 1 := h2
        rw [h3]
/-- A base at the head, and what is added behind it. -/
theorem parse_parts {s hd tl : List Int} {b num name : Int} {text : List Int} {g : Bool} {bb add : Int} (hs : s = hd ++ tl) (hb : baseV s = (b, num, name, text, 0, g, (hd.length : Int), 0)) (ht : tl = tailV bb add) (h1 : -999999999 ≤ add) (h2 : add ≤ 999999999) (hg : g = true ∨ 0 < tl.length) :
    parseV s = (b, num, name, text, add, true, (s.length : Int), 0) := by
  unfold parseV
  rw [hb]
  simp only [if_true]
  rw [Int.toNat_natCast, show s.drop hd.length = tl from by rw [hs, List.drop_left], ht, show fuelA = 2097151 + 2 from rfl, steps_tail _ _ _ h1 h2]
  show (if (true = false) then badA else if add < -999999999 ∨ add > 999999999 then badA else (b, num, name, text, add, (g || decide (0 < (tailV bb add).length)), ((hd.length + (tailV bb add).length : Nat) : Int), 0)) = _
  rw [if_neg (show ¬ (true = false) by decide), if_neg (show ¬ (add < -999999999 ∨ add > 999999999) by omega), ← ht, show (g || decide (0 < tl.length)) = true from by rcases hg with h | h <;> simp [h], hs, List.length_append]
theorem back {b num name add : Int} {text : List Int} {given : Bool} (hs : soundV b num text add given = true) : ∃ (num' name' : Int) (text' : List Int), parseV (headV b num name text ++ tailV b add) = (b, num', name', text', add, true, ((headV b num name text ++ tailV b add).length : Int), 0) ∧ soundV b num' text' add true = true ∧ headV b num' name' text' = headV b num name text ∧ 0 < (headV b num name text ++ tailV b add).length ∧ given = true ∧ text'.length ≤ text.length ∧ -999999999 ≤ add ∧ add ≤ 999999999 := by
  unfold soundV at hs
  by_cases hq : given = true ∧ -999999999 ≤ add ∧ add ≤ 999999999
  · rw [if_pos hq] at hs
    obtain ⟨q1, q2, q3⟩ := hq
    have hsv : ∀ n' t', soundB b n' t' = true → soundV b n' t' add true = true := fun n' t' h => by unfold soundV; rw [if_pos ⟨rfl, q2, q3⟩]; exact h
    unfold soundB at hs
    by_cases h0 : b = 0
    · subst h0
      have ht : 0 < (tailV 0 add).length := by
        unfold tailV
        rw [if_neg (fun h => h.2 rfl)]
        split
        · rename_i h; rw [dec_neg h]; simp
        · simp
      refine ⟨0, 0, [], parse_parts (hd := []) (g := false) rfl ?_ rfl q2 q3 (.inr ht), hsv _ _ rfl, rfl, ?_, q1, Nat.zero_le _, q2, q3⟩
      · show baseV (tailV 0 add) = _
        unfold tailV
        rw [if_neg (fun h => h.2 rfl)]
        split
        · rename_i h; rw [dec_neg h]; rfl
        · rfl
      · rw [List.length_append]; omega
    by_cases h46 : b = 46
    · subst h46
      exact ⟨0, 0, [], parse_parts (hd := [46]) (g := true) rfl rfl rfl q2 q3 (.inl rfl), hsv _ _ rfl, rfl, by simp [headV], q1, Nat.zero_le _, q2, q3⟩
    by_cases h36 : b = 36
    · subst h36
      exact ⟨0, 0, [], parse_parts (hd := [36]) (g := true) rfl rfl rfl q2 q3 (.inl rfl), hsv _ _ rfl, rfl, by simp [headV], q1, Nat.zero_le _, q2, q3⟩
    by_cases h39 : b = 39
    · subst h39
      exact ⟨0, name, [], parse_parts (hd := [39, name]) (g := true) rfl rfl rfl q2 q3 (.inl rfl), hsv _ _ rfl, rfl, by simp [headV], q1, Nat.zero_le _, q2, q3⟩
    rw [if_neg (by omega)] at hs
    by_cases h110 : b = 110
    · subst h110
      rw [if_pos rfl] at hs
      have hn := of_decide_eq_true hs
      have e : headV 110 num name text = decL num.toNat := by show dec num = _; exact dec_pos hn.1
      obtain ⟨d1, d2⟩ := numV_dec (u := num.toNat) (by omega) (noD_tail 110 add)
      have hp := decL_pos num.toNat
      refine ⟨num, 0, [], parse_parts (hd := decL num.toNat) (g := true) (by rw [e]) ?_ rfl q2 q3 (.inl rfl), hsv _ _ hs, rfl, by rw [List.length_append, e]; omega, q1, Nat.zero_le _, q2, q3⟩
      rw [e]
      cases hl : decL num.toNat ++ tailV 110 add with
      | nil => rw [List.append_eq_nil_iff] at hl; rw [hl.1] at hp; cases hp
      | cons c rest =>
        have hc : isD c = true := by
          cases hl2 : decL num.toNat with
          | nil => rw [hl2] at hp; cases hp
          | cons c2 r2 =>
            rw [hl2, List.cons_append] at hl
            injection hl with e1 e2
            rw [← e1]
            exact decL_all num.toNat c2 (by rw [hl2]; simp)
        show baseC c rest = _
        unfold baseC
        rw [if_pos hc, ← hl, d2, if_pos rfl]
        simp only
        rw [show ((num.toNat : Nat) : Int) = num from by omega]
    rw [if_neg h110] at hs
    by_cases hsl : b = 47 ∨ b = 63
    · rw [if_pos hsl] at hs
      have hc := of_decide_eq_true hs
      have e : headV b num name text = [b] ++ text ++ [b] := by unfold headV; rw [if_neg h110, if_neg h39, if_pos hsl]
      have hcl := clos_app b (by omega) (tailV b add) text hc
      refine ⟨0, 0, text, parse_parts (hd := [b] ++ text ++ [b]) (g := true) (by rw [e]) ?_ rfl q2 q3 (.inl rfl), hsv _ _ (by unfold soundB; rw [if_neg (by omega), if_neg h110, if_pos hsl]; exact hs), ?_, by rw [e]; simp, q1, Nat.le_refl _, q2, q3⟩
      · rw [e]
        show baseV (b :: (text ++ [b] ++ tailV b add)) = _
        rw [show text ++ [b] ++ tailV b add = text ++ b :: tailV b add from by simp]
        show baseC b (text ++ b :: tailV b add) = _
        unfold baseC
        rw [if_neg (show ¬ isD b = true from by rcases hsl with h | h <;> rw [h] <;> decide), if_neg (by omega), if_neg h39, if_pos hsl, hcl, if_neg (fun h => by have := h.1; rw [List.length_append, List.length_cons] at this; omega), List.take_left]
        refine Prod.ext rfl (Prod.ext rfl (Prod.ext rfl (Prod.ext rfl (Prod.ext rfl (Prod.ext rfl (Prod.ext ?_ rfl))))))
        simp only [List.length_append, List.length_cons, List.length_nil]
        omega
      · unfold headV; simp only [if_neg h110, if_neg h39, if_pos hsl]
    · rw [if_neg hsl] at hs
      cases hs
  · rw [if_neg hq] at hs
    cases hs
end Go.Proofs.YtdhdngoeaneanaaDoor.AD
end
section
namespace Go.Proofs.YtdhdngoeaneanaaDoor.AD
open Go.RowKit Go.Proofs.YtdhdngoeaneanaaDoorW.PrintWords Go.Proofs.YtdhdngoeaneanaaDoorW.PrintMore Go.Proofs.YtdhdngoeaneanaaDoor.X Go.Proofs.YtdhdngoeaneanaaDoor.XL Go.Proofs.YtdhdngoeaneanaaDoor.XO Go.Proofs.YtdhdngoeaneanaaDoor.PT
set_option linter.unusedVariables false
set_option linter.unusedSimpArgs false
end Go.Proofs.YtdhdngoeaneanaaDoor.AD
end
section
namespace Go.Proofs.YtdhdngoeaneanaaDoor.AD
open Go.RowKit Go.Proofs.YtdhdngoeaneanaaDoorW.PrintWords Go.Proofs.YtdhdngoeaneanaaDoorW.PrintMore Go.Proofs.YtdhdngoeaneanaaDoor.X Go.Proofs.YtdhdngoeaneanaaDoor.XL Go.Proofs.YtdhdngoeaneanaaDoor.XO Go.Proofs.YtdhdngoeaneanaaDoor.PT
set_option linter.unusedVariables false
set_option linter.unusedSimpArgs false
def wholeP (s : Int) : List Int → Bool
  | [] => true
  | [x] => if x = s then false else if x = 92 then false else true
  | x :: y :: l => if x = s then false else if x = 92 then wholeP s l else wholeP s (y :: l)
theorem whole_clos (s : Int) (hs : s ≠ 92) : ∀ l : List Int, wholeP s l = decide (clos s (l ++ [s]) = l.length)
  | [] => by
    rw [show clos s ([] ++ [s]) = 0 from by show clos s [s] = 0; rw [clos, if_neg hs, if_pos rfl]]
    rfl
  | [x] => by
    show (if x = s then false else if x = 92 then false else true) = decide (clos s (x :: s :: []) = 1)
    rw [clos]
    by_cases h92 : x = 92
    · have hx : ¬ x = s := fun h => hs (h.symm.trans h92)
      simp only [if_neg hx, if_pos h92]
      simp [clos]
    · by_cases hx : x = s
      · simp only [if_pos hx, if_neg h92]
        rfl
      · simp only [if_neg hx, if_neg h92, show clos s [s] = 0 from by rw [clos, if_neg hs, if_pos rfl]]
        rfl
  | x :: y :: l => by
    show (if x = s then false else if x = 92 then wholeP s l else wholeP s (y :: l)) = decide (clos s (x :: y :: (l ++ [s])) = l.length + 2)
    rw [clos]
    by_cases h92 : x = 92
    · have hx : ¬ x = s := fun h => hs (h.symm.trans h92)
      simp only [if_neg hx, if_pos h92]
      rw [whole_clos s hs l]
      exact decide_eq_decide.2 (by omega)
    · by_cases hx : x = s
      · simp only [if_pos hx, if_neg h92]
        exact (decide_eq_false (by omega)).symm
      · simp only [if_neg hx, if_neg h92]
        rw [whole_clos s hs (y :: l)]
        exact decide_eq_decide.2 (by show clos s (y :: (l ++ [s])) = l.length + 1 ↔ _; omega)
theorem whole_l0 (t : List Int) (s : Int) (hs : s ≠ 92) (hl : t.length ≤ 1099511627776) : ∀ (suf pre : List Int), t = pre ++ suf → Ev (fun k => quoinref23_whole.l0 k t s (pre.length : Int)) (wholeP s suf)
  | [], pre, ht => Ev.step (fun k => quoinref23_whole.l0.eq_2 ..) (Ev.neg (by rw [ht]; simp) (Ev.now _))
  | [x], pre, ht => by
    have hlen : t.length = pre.length + 1 := by rw [ht]; simp
    have hx : rd t (pre.length : Int) = x := by rw [ht]; exact rd_mid pre [] x
    refine Ev.step (fun k => quoinref23_whole.l0.eq_2 ..) (Ev.pos (by omega) (Ev.pos (by omega) ?_))
    rw [hx]
    have hbad : x = s ∨ x = 92 → Ev (fun k => quoinref23_whole.j1 k t s (pre.length : Int) true) (wholeP s [x]) := fun h =>
      Ev.step (fun k => quoinref23_whole.j1.eq_2 ..) (Ev.eq (Ev.pos rfl (Ev.now _)) (by
        show false = if x = s then false else if x = 92 then false else true
        rcases h with h | h
        · rw [if_pos h]
        · rw [if_neg (show ¬ x = s from fun e => hs (e.symm.trans h)), if_pos h]))
    by_cases h1 : x = s
    · exact Ev.pos h1 (hbad (.inl h1))
    · refine Ev.neg h1 ?_
      by_cases h92 : x = 92
      · refine Ev.pos h92 ?_
        rw [show (wrap64 ((pre.length : Int) + 1) == (t.length : Int)) = true from by rw [wrap64_id (by omega) (by omega), beq_iff_eq]; omega]
        exact hbad (.inr h92)
      · refine Ev.neg h92 (Ev.step (fun k => quoinref23_whole.j1.eq_2 ..) (Ev.neg (by decide) (Ev.pos (by omega) (Ev.pos (by omega) ?_))))
        rw [hx]
        refine Ev.neg h92 ?_
        rw [wrap_len pre x (by omega)]
        refine Ev.eq (whole_l0 t s hs hl [] (pre ++ [x]) (by rw [ht]; simp)) ?_
        show true = if x = s then false else if x = 92 then false else true
        rw [if_neg h1, if_neg h92]
  | x :: y :: l, pre, ht => by
    have hlen : t.length = pre.length + l.length + 2 := by rw [ht]; simp; omega
    have hx : rd t (pre.length : Int) = x := by rw [ht]; exact rd_mid pre (y :: l) x
    refine Ev.step (fun k => quoinref23_whole.l0.eq_2 ..) (Ev.pos (by omega) (Ev.pos (by omega) ?_))
    rw [hx]
    by_cases h1 : x = s
    · exact Ev.pos h1 (Ev.step (fun k => quoinref23_whole.j1.eq_2 ..) (Ev.eq (Ev.pos rfl (Ev.now _)) (by
        show false = if x = s then false else if x = 92 then wholeP s l else wholeP s (y :: l)
        rw [if_pos h1])))
    · refine Ev.neg h1 ?_
      by_cases h92 : x = 92
      · refine Ev.pos h92 ?_
        rw [show (wrap64 ((pre.length : Int) + 1) == (t.length : Int)) = false from by rw [wrap64_id (by omega) (by omega), beq_eq_false_iff_ne]; omega]
        refine Ev.step (fun k => quoinref23_whole.j1.eq_2 ..) (Ev.neg (by decide) (Ev.pos (by omega) (Ev.pos (by omega) ?_)))
        rw [hx]
        refine Ev.pos h92 ?_
        have h := whole_l0 t s hs hl l (pre ++ [x, y]) (by rw [ht]; simp)
        rw [wrap64_id (n := (pre.length : Int) + 1) (by omega) (by omega), wrap64_id (n := (pre.length : Int) + 1 + 1) (by omega) (by omega)]
        rw [show ((pre ++ [x, y]).length : Int) = (pre.length : Int) + 1 + 1 from by rw [List.length_append]; simp; omega] at h
        refine Ev.eq h ?_
        show wholeP s l = if x = s then false else if x = 92 then wholeP s l else wholeP s (y :: l)
        rw [if_neg h1, if_pos h92]
      · refine Ev.neg h92 (Ev.step (fun k => quoinref23_whole.j1.eq_2 ..) (Ev.neg (by decide) (Ev.pos (by omega) (Ev.pos (by omega) ?_))))
        rw [hx]
        refine Ev.neg h92 ?_
        rw [wrap_len pre x (by omega)]
        refine Ev.eq (whole_l0 t s hs hl (y :: l) (pre ++ [x]) (by rw [ht]; simp)) ?_
        show wholeP s (y :: l) = if x = s then false else if x = 92 then wholeP s l else wholeP s (y :: l)
        rw [if_neg h1, if_neg h92]
theorem whole_ev (t : List Int) (s : Int) (hs : s ≠ 92) (hl : t.length ≤ 1099511627776) : Ev (fun k => quoinref23_whole.f k t s) (decide (clos s (t ++ [s]) = t.length)) := by
  have h := whole_l0 t s hs hl t [] rfl
  rw [whole_clos s hs] at h
  show Ev (fun k => quoinref23_whole.l0 k t s 0) _
  simpa using h
end Go.Proofs.YtdhdngoeaneanaaDoor.AD
end
section
namespace Go.Proofs.YtdhdngoeaneanaaDoor.AD
open Go.RowKit Go.Proofs.YtdhdngoeaneanaaDoorW.PrintWords Go.Proofs.YtdhdngoeaneanaaDoorW.PrintMore Go.Proofs.YtdhdngoeaneanaaDoor.X Go.Proofs.YtdhdngoeaneanaaDoor.XL Go.Proofs.YtdhdngoeaneanaaDoor.XO
set_option linter.unusedVariables false
set_option linter.unusedSimpArgs false
def rnumV (l : List Int) : Int × Int × Bool := (valN 0 ((digs l).take 9), ((digs l).length : Int), decide ((digs l).length ≤ 9))
theorem rnum_ok {l : List Int} (h : (numV l).2.2 = true) : rnumV l = numV l := by
  have h9 := (numV_ok h).2.2.1
  unfold rnumV numV
  rw [if_pos h9, List.take_of_length_le h9, decide_eq_true h9]
theorem rnum_flag (l : List Int) : (rnumV l).2.2 = (numV l).2.2 := by
  unfold rnumV numV
  by_cases h9 : (digs l).length ≤ 9
  · rw [if_pos h9, decide_eq_true h9]
  · rw [if_neg h9, decide_eq_false h9]
theorem rnum_l0 (t : List Int) (hl : t.length ≤ 2097152) : ∀ (suf pre : List Int) (n : Int), t = pre ++ suf → (pre.length < 9 → 0 ≤ n ∧ n < 10 ^ pre.length) → Ev (fun k => quoinref23_number.l0 k t n (pre.length : Int)) ((if pre.length < 9 then valN n ((digs suf).take (9 - pre.length)) else n), ((pre.length + (digs suf).length : Nat) : Int), decide (pre.length + (digs suf).length ≤ 9)) := by
  intro suf
  induction suf with
  | nil =>
    rintro pre n ht hp
    refine Ev.step (fun k => quoinref23_number.l0.eq_2 ..) (Ev.neg (by rw [ht]; simp) (Ev.step (fun k => quoinref23_number.j1.eq_2 ..) (Ev.neg (by decide) ?_)))
    refine Ev.eq (Ev.now _) (Prod.ext ?_ (Prod.ext ?_ ?_))
    · simp only [digs, List.takeWhile_nil, List.take_nil, valN]; split <;> rfl
    · simp [digs]
    · simp only [digs, List.takeWhile_nil, List.length_nil]; exact decide_eq_decide.2 (by omega)
  | cons x suf ih =>
    rintro pre n ht hp
    have hlen : t.length = pre.length + suf.length + 1 := by rw [ht]; exact len_mid pre suf x
    have hx : rd t (pre.length : Int) = x := by rw [ht]; exact rd_mid pre suf x
    have hj : ∀ z : Bool, z = isD x → Ev (fun k => quoinref23_number.j1 k t n (pre.length : Int) z) ((if pre.length < 9 then valN n ((digs (x :: suf)).take (9 - pre.length)) else n), ((pre.length + (digs (x :: suf)).length : Nat) : Int), decide (pre.length + (digs (x :: suf)).length ≤ 9)) := by
      rintro z rfl
      refine Ev.step (fun k => quoinref23_number.j1.eq_2 ..) ?_
      cases hd : isD x with
      | false =>
        have hz : digs (x :: suf) = [] := by unfold digs; rw [List.takeWhile_cons, hd]; rfl
        rw [hz]
        refine Ev.neg (by decide) (Ev.eq (Ev.now _) (Prod.ext ?_ (Prod.ext ?_ ?_)))
        · simp only [List.take_nil, valN]; split <;> rfl
        · simp
        · simp only [List.length_nil]; exact decide_eq_decide.2 (by omega)
      | true =>
        have hz : digs (x :: suf) = x :: digs suf := by unfold digs; rw [List.takeWhile_cons, hd]; rfl
        have hr : 48 ≤ x ∧ x ≤ 57 := of_decide_eq_true hd
        rw [hz]
        refine Ev.pos rfl ?_
        have hpl : (pre ++ [x]).length = pre.length + 1 := by rw [List.length_append, List.length_singleton]
        by_cases h9 : pre.length < 9
        · have hb := hp h9
          have hpow : (10 : Int) ^ pre.length ≤ 1000000000 := by
            have h : pre.length = 0 ∨ pre.length = 1 ∨ pre.length = 2 ∨ pre.length = 3 ∨ pre.length = 4 ∨ pre.length = 5 ∨ pre.length = 6 ∨ pre.length = 7 ∨ pre.length = 8 := by omega
            rcases h with h | h | h | h | h | h | h | h | h <;> rw [h] <;> decide
          have h := ih (pre ++ [x]) (n * 10 + (x - 48)) (by rw [ht]; simp) (fun _ => by rw [hpl, Int.pow_succ]; omega)
          refine Ev.pos (by omega) (Ev.pos (by omega) (Ev.pos (by omega) ?_))
          rw [hx, wrap64_id (n := n * 10) (by omega) (by omega), show (x - 48) % 256 = x - 48 from by omega, wrap64_id (n := n * 10 + (x - 48)) (by omega) (by omega), wrap_len pre x (by omega)]
          refine Ev.eq h (Prod.ext ?_ (Prod.ext ?_ ?_))
          · simp only
            rw [hpl, if_pos h9, show 9 - pre.length = (9 - (pre.length + 1)) + 1 from by omega, List.take_succ_cons]
            by_cases h8 : pre.length + 1 < 9
            · rw [if_pos h8]; rfl
            · rw [if_neg h8, show 9 - (pre.length + 1) = 0 from by omega]; rfl
          · simp only [hpl, List.length_cons]; omega
          · simp only [hpl, List.length_cons]; exact decide_eq_decide.2 (by omega)
        · have h := ih (pre ++ [x]) n (by rw [ht]; simp) (fun h => by rw [hpl] at h; omega)
          refine Ev.neg (by omega) ?_
          rw [wrap_len pre x (by omega)]
          refine Ev.eq h (Prod.ext ?_ (Prod.ext ?_ ?_))
          · simp only
            rw [hpl, if_neg h9, if_neg (by omega)]
          · simp only [hpl, List.length_cons]; omega
          · simp only [hpl, List.length_cons]; exact decide_eq_decide.2 (by omega)
    refine Ev.step (fun k => quoinref23_number.l0.eq_2 ..) (Ev.pos (by omega) (Ev.pos (by omega) ?_))
    rw [hx]
    by_cases h48 : x ≥ 48
    · exact Ev.pos h48 (hj _ (by unfold isD; exact decide_eq_decide.2 ⟨fun h => ⟨h48, h⟩, fun h => h.2⟩))
    · exact Ev.neg h48 (hj _ (by unfold isD; exact (decide_eq_false (fun h => h48 h.1)).symm))
theorem rnum_ev (t : List Int) (hl : t.length ≤ 2097152) : Ev (fun k => quoinref23_number.f k t) (rnumV t) := by
  have h := rnum_l0 t hl t [] 0 rfl (fun _ => by decide)
  show Ev (fun k => quoinref23_number.l0 k t 0 0) _
  unfold rnumV
  simpa using h
/-- What sought takes. -/
def soughtV (s : Int) (p : List Int) : List Int × Int := (p.take (clos s p), if clos s p < p.length then (clos s p : Int) + 1 else (clos s p : Int))
theorem sought_end (t : List Int) (s : Int) (hl : t.length ≤ 2097152) (n : Nat) (hn : n ≤ t.length) : Ev (fun k => quoinref23_sought.j1 k t s (n : Int) false) (t.take n, if n < t.length then (n : Int) + 1 else (n : Int)) := by
  refine Ev.step (fun k => quoinref23_sought.j1.eq_2 ..) (Ev.neg (by decide) (Ev.cbind rfl (Ev.pos (by omega) (Ev.pos (by omega) ?_))))
  rw [Int.toNat_natCast]
  refine Ev.pos (by rw [List.length_take]; simp; omega) (Ev.cbind rfl ?_)
  rw [List.nil_append]
  by_cases h : n < t.length
  · rw [if_pos h, wrap64_id (n := (n : Int) + 1) (by omega) (by omega)]
    exact Ev.pos (by omega) (Ev.now _)
  · rw [if_neg h]
    exact Ev.neg (by omega) (Ev.now _)
theorem sought_l0 (t : List Int) (s : Int) (hs : s ≠ 92) (hl : t.length ≤ 2097152) : ∀ (suf pre : List Int), t = pre ++ suf → Ev (fun k => quoinref23_sought.l0 k t s (pre.length : Int)) (t.take (pre.length + clos s suf), if pre.length + clos s suf < t.length then ((pre.length + clos s suf : Nat) : Int) + 1 else ((pre.length + clos s suf : Nat) : Int))
  | [], pre, ht => by
    have hlen : t.length = pre.length := by rw [ht]; simp
    refine Ev.step (fun k => quoinref23_sought.l0.eq_2 ..) (Ev.neg (by omega) ?_)
    exact sought_end t s hl pre.length (by omega)
  | x :: r, pre, ht => by
    have hlen : t.length = pre.length + r.length + 1 := by rw [ht]; exact len_mid pre r x
    have hx : rd t (pre.length : Int) = x := by rw [ht]; exact rd_mid pre r x
    have hw1 : wrap64 ((pre.length : Int) + 1) = (pre.length : Int) + 1 := wrap64_id (by omega) (by omega)
    refine Ev.step (fun k => quoinref23_sought.l0.eq_2 ..) (Ev.pos (by omega) (Ev.pos (by omega) ?_))
    rw [hx]
    by_cases hxs : x = s
    · rw [show (x != s) = false from by rw [hxs]; simp]
      have hc : clos s (x :: r) = 0 := by
        cases r with
        | nil => rw [clos, if_neg (fun h => hs (hxs.symm.trans h)), if_pos hxs]
        | cons y l => rw [clos, if_neg (fun h => hs (hxs.symm.trans h)), if_pos hxs]
      rw [hc]
      exact sought_end t s hl pre.length (by omega)
    · rw [show (x != s) = true from bne_iff_ne.2 hxs]
      refine Ev.step (fun k => quoinref23_sought.j1.eq_2 ..) (Ev.pos rfl (Ev.pos (by omega) (Ev.pos (by omega) ?_)))
      rw [hx, hw1]
      by_cases h92 : x = 92
      · refine Ev.pos h92 ?_
        cases r with
        | nil =>
          refine Ev.neg (by simp only [List.length_nil] at hlen; omega) ?_
          have h := sought_l0 t s hs hl [] (pre ++ [x]) (by rw [ht]; simp)
          rw [show ((pre ++ [x]).length : Int) = (pre.length : Int) + 1 from by rw [List.length_append, List.length_singleton]; omega] at h
          refine Ev.eq h ?_
          rw [show clos s [x] = 1 from if_pos h92, show clos s [] = 0 from rfl, show (pre ++ [x]).length = pre.length + 1 from by rw [List.length_append, List.length_singleton], Nat.add_zero]
        | cons y l =>
          refine Ev.pos (by simp only [List.length_cons] at hlen; omega) ?_
          have h := sought_l0 t s hs hl l (pre ++ [x, y]) (by rw [ht]; simp)
          rw [wrap64_id (n := (pre.length : Int) + 1 + 1) (by omega) (by omega)]
          rw [show ((pre ++ [x, y]).length : Int) = (pre.length : Int) + 1 + 1 from by rw [List.length_append]; simp; omega] at h
          refine Ev.eq h ?_
          rw [show clos s (x :: y :: l) = clos s l + 2 from if_pos h92, show (pre ++ [x, y]).length + clos s l = pre.length + (clos s l + 2) from by rw [List.length_append]; simp; omega]
      · refine Ev.neg h92 ?_
        have h := sought_l0 t s hs hl r (pre ++ [x]) (by rw [ht]; simp)
        rw [show ((pre ++ [x]).length : Int) = (pre.length : Int) + 1 from by rw [List.length_append, List.length_singleton]; omega] at h
        refine Ev.eq h ?_
        have hc : clos s (x :: r) = clos s r + 1 := by
          cases r with
          | nil => show (if x = 92 then 1 else if x = s then 0 else 1) = 0 + 1; rw [if_neg h92, if_neg hxs]
          | cons y l => rw [clos, if_neg h92, if_neg hxs]
        rw [hc, show (pre ++ [x]).length + clos s r = pre.length + (clos s r + 1) from by rw [List.length_append, List.length_singleton]; omega]
  termination_by suf => suf.length
theorem sought_ev (t : List Int) (s : Int) (hs : s ≠ 92) (hl : t.length ≤ 2097152) : Ev (fun k => quoinref23_sought.f k t s) (soughtV s t) := by
  have h := sought_l0 t s hs hl t [] rfl
  show Ev (fun k => quoinref23_sought.l0 k t s 0) _
  unfold soughtV
  simpa using h
theorem whole_take (s : Int) (hs : s ≠ 92) : ∀ l : List Int, (clos s l < l.length → wholeP s (l.take (clos s l)) = true) ∧ (clos s l = l.length → wholeP s l = !alon l)
  | [] => ⟨(fun h => absurd h (Nat.lt_irrefl _)), fun _ => rfl⟩
  | [x] => by
    unfold clos
    by_cases h92 : x = 92
    · have hx : ¬ x = s := fun h => hs (h.symm.trans h92)
      rw [if_pos h92]
      refine ⟨fun h => by simp at h, fun _ => ?_⟩
      show (if x = s then false else if x = 92 then false else true) = !decide (x = 92)
      rw [if_neg hx, if_pos h92, decide_eq_true h92]; rfl
    · rw [if_neg h92]
      by_cases hx : x = s
      · rw [if_pos hx]
        exact ⟨fun _ => rfl, fun h => by simp at h⟩
      · rw [if_neg hx]
        refine ⟨fun h => by simp at h, fun _ => ?_⟩
        show (if x = s then false else if x = 92 then false else true) = !decide (x = 92)
        rw [if_neg hx, if_neg h92, decide_eq_false h92]; rfl
  | x :: y :: l => by
    have w : ∀ r : List Int, wholeP s (x :: y :: r) = if x = s then false else if x = 92 then wholeP s r else wholeP s (y :: r) := fun r => rfl
    have al : alon (x :: y :: l) = if x = 92 then alon l else alon (y :: l) := rfl
    unfold clos
    by_cases h92 : x = 92
    · have hx : ¬ x = s := fun h => hs (h.symm.trans h92)
      obtain ⟨i1, i2⟩ := whole_take s hs l
      rw [if_pos h92, List.take_succ_cons, List.take_succ_cons, w, w, al, if_neg hx, if_pos h92, if_neg hx, if_pos h92, if_pos h92]
      simp only [List.length_cons]
      exact ⟨fun h => i1 (by omega), fun h => i2 (by omega)⟩
    · rw [if_neg h92]
      by_cases hx : x = s
      · rw [if_pos hx]
        exact ⟨fun _ => rfl, fun h => by simp at h⟩
      · obtain ⟨i1, i2⟩ := whole_take s hs (y :: l)
        rw [if_neg hx, w, al, if_neg hx, if_neg h92, if_neg h92]
        simp only [List.length_cons] at i1 i2 ⊢
        refine ⟨fun h => ?_, fun h => i2 (by omega)⟩
        have i3 := i1 (by omega)
        rw [List.take_succ_cons]
        cases hk : clos s (y :: l) with
        | zero =>
          show (if x = s then false else if x = 92 then false else true) = true
          rw [if_neg hx, if_neg h92]
        | succ k =>
          rw [hk, List.take_succ_cons] at i3
          rw [List.take_succ_cons, w, if_neg hx, if_neg h92]
          exact i3
theorem rstop_ev (t : List Int) (p : Nat) (b1 b2 b3 : Int) (b4 : List Int) (add : Int) (g : Bool) : Ev (fun k => quoinref23_Parse.j5 k t (p : Int) false b1 b2 b3 b4 add g) (endV b1 b2 b3 b4 p (add, 0, g, true)) := by
  refine Ev.step (fun k => quoinref23_Parse.j5.eq_2 ..) (Ev.neg (by decide) ?_)
  unfold endV
  rw [if_neg (show ¬ (true = false) by decide)]
  by_cases h1 : add < -999999999
  · exact Ev.eq (Ev.pos h1 (Ev.now _)) (if_pos (.inl h1)).symm
  · by_cases h2 : add > 999999999
    · exact Ev.eq (Ev.neg h1 (Ev.pos h2 (Ev.now _))) (if_pos (.inr h2)).symm
    · exact Ev.eq (Ev.neg h1 (Ev.neg h2 (Ev.now _))) (by rw [if_neg (fun h : add < -999999999 ∨ add > 999999999 => h.elim h1 h2)]; rfl)
theorem rsteps_ev (t : List Int) (hl : t.length ≤ 2097152) (b1 b2 b3 : Int) (b4 : List Int) : ∀ (f : Nat) (suf pre : List Int) (add : Int) (g : Bool), t = pre ++ suf → suf.length < f → -(pre.length * 1000000000 : Int) ≤ add → add ≤ (pre.length * 1000000000 : Int) →
    Ev (fun k => quoinref23_Parse.l0 k t (pre.length : Int) b1 b2 b3 b4 add g) (endV b1 b2 b3 b4 pre.length (stepsV f suf add g)) := by
  intro f
  induction f with
  | zero => intro suf pre add g ht hf; omega
  | succ f ih =>
    intro suf pre add g ht hf ha1 ha2
    cases suf with
    | nil =>
      refine Ev.step (fun k => quoinref23_Parse.l0.eq_2 ..) (Ev.neg (by rw [ht]; simp) ?_)
      exact rstop_ev ..
    | cons x l =>
      have hlen : t.length = pre.length + l.length + 1 := by rw [ht]; exact len_mid pre l x
      have hx : rd t (pre.length : Int) = x := by rw [ht]; exact rd_mid pre l x
      have hdr : t.drop ((pre.length : Int) + 1).toNat = l := by
        rw [ht, show ((pre.length : Int) + 1).toNat = pre.length + 1 from by omega, ← List.drop_drop, List.drop_left]; rfl
      have hw1 : wrap64 ((pre.length : Int) + 1) = (pre.length : Int) + 1 := wrap64_id (by omega) (by omega)
      refine Ev.step (fun k => quoinref23_Parse.l0.eq_2 ..) (Ev.pos (by omega) (Ev.pos (by omega) ?_))
      rw [hx]
      unfold stepsV
      by_cases hs : x = 43 ∨ x = 45
      · rw [if_pos hs]
        have hj : Ev (fun k => quoinref23_Parse.j5 k t (pre.length : Int) true b1 b2 b3 b4 add g) (endV b1 b2 b3 b4 pre.length (if (numV l).2.2 = true then ((stepsV f (l.drop (digs l).length) (add + stepN x l) true).1, (stepsV f (l.drop (digs l).length) (add + stepN x l) true).2.1 + (1 + (digs l).length), (stepsV f (l.drop (digs l).length) (add + stepN x l) true).2.2.1, (stepsV f (l.drop (digs l).length) (add + stepN x l) true).2.2.2) else (0, 0, false, false))) := by
          refine Ev.step (fun k => quoinref23_Parse.j5.eq_2 ..) (Ev.pos rfl ?_)
          rw [hw1]
          refine Ev.pos (by omega) (Ev.pos (by omega) ?_)
          rw [hdr]
          refine Ev.bind (rnum_ev l (by omega)) ?_
          by_cases hn : (numV l).2.2 = true
          · rw [rnum_ok hn]
            refine Ev.eq (r := endV b1 b2 b3 b4 pre.length ((stepsV f (l.drop (digs l).length) (add + stepN x l) true).1, (stepsV f (l.drop (digs l).length) (add + stepN x l) true).2.1 + (1 + (digs l).length), (stepsV f (l.drop (digs l).length) (add + stepN x l) true).2.2.1, (stepsV f (l.drop (digs l).length) (add + stepN x l) true).2.2.2)) ?_ (by rw [if_pos hn])
            obtain ⟨e1, e2, e3, e4, e5⟩ := numV_ok hn
            have hdl := digs_le l
            have hst : -999999999 ≤ stepN x l ∧ stepN x l ≤ 999999999 := by unfold stepN; split <;> split <;> omega
            -- on, behind the step
            have h := ih (l.drop (digs l).length) (pre ++ x :: l.take (digs l).length) (add + stepN x l) true (by rw [ht, List.append_assoc, List.cons_append, List.take_append_drop]) (by rw [List.length_drop]; simp only [List.length_cons] at hf; omega) (by rw [List.length_append, List.length_cons, List.length_take]; omega) (by rw [List.length_append, List.length_cons, List.length_take]; omega)
            have hpl : (pre ++ x :: l.take (digs l).length).length = pre.length + (1 + (digs l).length) := by rw [List.length_append, List.length_cons, List.length_take]; omega
            rw [hpl] at h
            have hend : ∀ r : Int × Nat × Bool × Bool, endV b1 b2 b3 b4 (pre.length + (1 + (digs l).length)) r = endV b1 b2 b3 b4 pre.length (r.1, r.2.1 + (1 + (digs l).length), r.2.2.1, r.2.2.2) := fun r => by
              unfold endV
              simp only
              rw [show pre.length + (1 + (digs l).length) + r.2.1 = pre.length + (r.2.1 + (1 + (digs l).length)) from by omega]
            rw [hend] at h
            have hw2 : wrap64 ((pre.length : Int) + (wrap64 (1 + (numV l).2.1))) = ((pre.length + (1 + (digs l).length) : Nat) : Int) := by
              rw [e1, wrap64_id (n := 1 + ((digs l).length : Int)) (by omega) (by omega), wrap64_id (by omega) (by omega)]
              omega
            refine Ev.pos hn ?_
            rw [hw2]
            by_cases h0 : (numV l).2.1 = 0
            · refine Ev.pos h0 (Ev.pos (by omega) (Ev.pos (by omega) ?_))
              rw [hx]
              by_cases h45 : x = 45
              · rw [show stepN x l = -1 from by unfold stepN; rw [if_pos h45, if_pos h0]] at h
                refine Ev.pos h45 ?_
                rw [wrap64_id (n := add + -1) (by omega) (by omega)]
                exact Ev.eq h (by rw [show stepN x l = -1 from by unfold stepN; rw [if_pos h45, if_pos h0]])
              · rw [show stepN x l = 1 from by unfold stepN; rw [if_neg h45, if_pos h0]] at h
                refine Ev.neg h45 ?_
                rw [wrap64_id (n := add + 1) (by omega) (by omega)]
                exact Ev.eq h (by rw [show stepN x l = 1 from by unfold stepN; rw [if_neg h45, if_pos h0]])
            · refine Ev.neg h0 (Ev.pos (by omega) (Ev.pos (by omega) ?_))
              rw [hx]
              by_cases h45 : x = 45
              · have es : stepN x l = -(numV l).1 := by unfold stepN; rw [if_pos h45, if_neg h0]
                rw [es] at h
                refine Ev.pos h45 ?_
                rw [wrap64_id (n := -(numV l).1) (by omega) (by omega), wrap64_id (n := add + -(numV l).1) (by omega) (by omega)]
                exact Ev.eq h (by rw [es])
              · have es : stepN x l = (numV l).1 := by unfold stepN; rw [if_neg h45, if_neg h0]
                rw [es] at h
                refine Ev.neg h45 ?_
                rw [wrap64_id (n := add + (numV l).1) (by omega) (by omega)]
                exact Ev.eq h (by rw [es])
          · exact Ev.eq (Ev.neg (by rw [rnum_flag]; exact hn) (Ev.now _)) (by rw [if_neg hn]; rfl)
        by_cases h43 : x = 43
        · exact Ev.pos h43 hj
        · have h45 : x = 45 := hs.elim (fun h => absurd h h43) id
          refine Ev.neg h43 ?_
          rw [show (x == 45) = true from beq_iff_eq.2 h45]
          exact hj
      · rw [if_neg hs]
        have h43 : x ≠ 43 := fun h => hs (.inl h)
        refine Ev.neg h43 ?_
        rw [show (x == 45) = false from beq_eq_false_iff_ne.2 (fun h => hs (.inr h))]
        exact rstop_ev ..
theorem rj3_ev (t : List Int) (hl : t.length ≤ 2097152) (b1 b2 b3 : Int) (b4 : List Int) (g : Bool) (p : Int) (h0 : 0 ≤ p) (h1 : p ≤ (t.length : Int)) : Ev (fun k => quoinref23_Parse.j3 k t p b1 b2 b3 b4 0 g) (endV b1 b2 b3 b4 p.toNat (stepsV fuelA (t.drop p.toNat) 0 g)) := by
  have h := rsteps_ev t hl b1 b2 b3 b4 fuelA (t.drop p.toNat) (t.take p.toNat) 0 g (List.take_append_drop _ _).symm (by rw [List.length_drop]; unfold fuelA; omega) (by omega) (by omega)
  rw [show (t.take p.toNat).length = p.toNat from by rw [List.length_take]; omega, show ((p.toNat : Nat) : Int) = p from by omega] at h
  exact Ev.step (fun k => quoinref23_Parse.j3.eq_2 ..) h
theorem parse_of {t : List Int} {b1 b2 b3 : Int} {b4 : List Int} {g : Bool} {p : Int} (h : baseV t = (b1, b2, b3, b4, 0, g, p, 0)) : parseV t = endV b1 b2 b3 b4 p.toNat (stepsV fuelA (t.drop p.toNat) 0 g) := by
  unfold parseV
  rw [h]
  rfl
theorem parse_not {t : List Int} (h : baseV t = badA) : parseV t = badA := by
  unfold parseV
  rw [h]
  rfl
theorem rparse_ev (t : List Int) (hl : t.length ≤ 2097152) : Ev (fun k => quoinref23_Parse.f k t) (parseV t) := by
  cases t with
  | nil => exact Ev.neg (by simp) (Ev.eq (rj3_ev [] hl 0 0 0 [] false 0 (by decide) (by decide)) (parse_of rfl).symm)
  | cons c rest =>
    have hlen : (c :: rest).length = rest.length + 1 := List.length_cons
    have hr0 : rd (c :: rest) 0 = c := rfl
    have hbc : baseV (c :: rest) = baseC c rest := rfl
    refine Ev.pos (by rw [hlen]; omega) (Ev.pos (by rw [hlen]; omega) ?_)
    rw [hr0]
    have hj : ∀ z : Bool, z = isD c → Ev (fun k => quoinref23_Parse.j0 k (c :: rest) 0 c z 0 0 0 0 false) (parseV (c :: rest)) := by
      rintro z rfl
      refine Ev.step (fun k => quoinref23_Parse.j0.eq_2 ..) ?_
      cases hd : isD c with
      | true =>
        refine Ev.pos rfl (Ev.bind (rnum_ev _ hl) ?_)
        by_cases hn : (numV (c :: rest)).2.2 = true
        · rw [rnum_ok hn]
          have h1 := (numV_ok hn).1
          have h2 := digs_le (c :: rest)
          refine Ev.pos hn (Ev.eq (rj3_ev _ hl _ _ _ _ _ _ (by omega) (by omega)) (parse_of ?_).symm)
          rw [hbc]; unfold baseC; rw [if_pos hd, if_pos hn]
        · refine Ev.neg (by rw [rnum_flag]; exact hn) (Ev.eq (Ev.now _) (parse_not ?_).symm)
          rw [hbc]; unfold baseC; rw [if_pos hd, if_neg hn]
      | false =>
        have hd' : ¬ isD c = true := by rw [hd]; decide
        refine Ev.neg (by decide) ?_
        have hj1 : ∀ z : Bool, z = decide (c = 46 ∨ c = 36) → Ev (fun k => quoinref23_Parse.j1 k (c :: rest) 0 c z 0 0 0 0 false) (parseV (c :: rest)) := by
          rintro z rfl
          refine Ev.step (fun k => quoinref23_Parse.j1.eq_2 ..) ?_
          by_cases h1 : c = 46 ∨ c = 36
          · rw [decide_eq_true h1]
            refine Ev.pos rfl (Ev.eq (rj3_ev _ hl _ _ _ _ _ _ (by omega) (by rw [hlen]; omega)) (parse_of ?_).symm)
            rw [hbc]; unfold baseC; rw [if_neg hd', if_pos h1]
          · rw [decide_eq_false h1]
            refine Ev.neg (by decide) ?_
            by_cases h39 : c = 39
            · refine Ev.pos h39 ?_
              cases rest with
              | nil =>
                refine Ev.pos rfl (Ev.eq (Ev.now _) (parse_not ?_).symm)
                rw [hbc]; unfold baseC; rw [if_neg hd', if_neg h1, if_pos h39, if_pos rfl]
              | cons y r =>
                refine Ev.neg (by simp only [List.length_cons]; omega) (Ev.pos (by simp only [List.length_cons]; omega) (Ev.eq (rj3_ev _ hl _ _ _ _ _ _ (by omega) (by simp only [List.length_cons]; omega)) (parse_of ?_).symm))
                rw [hbc]; unfold baseC; rw [if_neg hd', if_neg h1, if_pos h39, if_neg (by simp), h39]; rfl
            · refine Ev.neg h39 ?_
              have hj2 : ∀ z : Bool, z = decide (c = 47 ∨ c = 63) → Ev (fun k => quoinref23_Parse.j2 k (c :: rest) 0 c z 0 0 0 0 false) (parseV (c :: rest)) := by
                rintro z rfl
                refine Ev.step (fun k => quoinref23_Parse.j2.eq_2 ..) ?_
                by_cases h2 : c = 47 ∨ c = 63
                · rw [decide_eq_true h2]
                  have hs : c ≠ 92 := by omega
                  have hcl := clos_le c rest
                  have hw := whole_take c hs rest
                  have hlr : rest.length ≤ 2097152 := by omega
                  refine Ev.pos rfl (Ev.pos (by rw [hlen]; omega) ?_)
                  rw [show (c :: rest).drop 1 = rest from rfl]
                  refine Ev.bind (sought_ev rest c hs hlr) ?_
                  unfold soughtV
                  simp only
                  have hwe := whole_ev (rest.take (clos c rest)) c hs (by rw [List.length_take]; omega)
                  rw [← whole_clos c hs] at hwe
                  refine Ev.bind hwe ?_
                  by_cases hk : clos c rest < rest.length
                  · rw [hw.1 hk, if_pos hk]
                    refine Ev.pos rfl ?_
                    rw [wrap64_id (n := 1 + ((clos c rest : Int) + 1)) (by omega) (by omega)]
                    refine Ev.eq (rj3_ev _ hl _ _ _ _ _ _ (by omega) (by rw [hlen]; omega)) (parse_of ?_).symm
                    rw [hbc]; unfold baseC; rw [if_neg hd', if_neg h1, if_neg h39, if_pos h2, if_neg (fun h => by have := h.1; omega)]
                    rw [show min ((clos c rest : Int) + 2) ((rest.length : Int) + 1) = 1 + ((clos c rest : Int) + 1) from by omega]
                  · have hk2 : clos c rest = rest.length := by omega
                    have hw2 := hw.2 hk2
                    rw [if_neg hk, hk2, List.take_length, hw2]
                    by_cases ha : alon rest = true
                    · rw [ha]
                      refine Ev.neg (by decide) (Ev.eq (Ev.now _) (parse_not ?_).symm)
                      rw [hbc]; unfold baseC; rw [if_neg hd', if_neg h1, if_neg h39, if_pos h2, if_pos ⟨hk2, ha⟩]
                    · rw [show alon rest = false from by simpa using ha]
                      refine Ev.pos rfl ?_
                      rw [wrap64_id (n := 1 + (rest.length : Int)) (by omega) (by omega)]
                      refine Ev.eq (rj3_ev _ hl _ _ _ _ _ _ (by omega) (by rw [hlen]; omega)) (parse_of ?_).symm
                      rw [hbc]; unfold baseC; rw [if_neg hd', if_neg h1, if_neg h39, if_pos h2, if_neg (fun h => ha h.2), hk2, List.take_length]
                      rw [show min ((rest.length : Int) + 2) ((rest.length : Int) + 1) = 1 + (rest.length : Int) from by omega]
                · rw [decide_eq_false h2]
                  refine Ev.neg (by decide) (Ev.eq (rj3_ev _ hl _ _ _ _ _ _ (by omega) (by omega)) (parse_of ?_).symm)
                  rw [hbc]; unfold baseC; rw [if_neg hd', if_neg h1, if_neg h39, if_neg h2]
              by_cases h47 : c = 47
              · exact Ev.pos h47 (hj2 _ (by rw [Bool.eq_iff_iff]; simp [h47]))
              · exact Ev.neg h47 (hj2 _ (by rw [Bool.eq_iff_iff]; simp [h47]))
        by_cases h46 : c = 46
        · exact Ev.pos h46 (hj1 _ (by rw [Bool.eq_iff_iff]; simp [h46]))
        · exact Ev.neg h46 (hj1 _ (by rw [Bool.eq_iff_iff]; simp [h46]))
    by_cases h48 : c ≥ 48
    · exact Ev.pos h48 (hj _ (by unfold isD; exact decide_eq_decide.2 ⟨fun h => ⟨h48, h⟩, fun h => h.2⟩))
    · exact Ev.neg h48 (hj _ (by unfold isD; exact (decide_eq_false (fun h => h48 h.1)).symm))
end Go.Proofs.YtdhdngoeaneanaaDoor.AD
end
section
namespace Go.Proofs.YtdhdngoeaneanaaDoor.AD
open Go.RowKit Go.Proofs.YtdhdngoeaneanaaDoorW.PrintWords Go.Proofs.YtdhdngoeaneanaaDoorW.PrintMore Go.Proofs.YtdhdngoeaneanaaDoor.X Go.Proofs.YtdhdngoeaneanaaDoor.XL Go.Proofs.YtdhdngoeaneanaaDoor.XO
set_option linter.unusedVariables false
set_option linter.unusedSimpArgs false
set_option maxRecDepth 100000 in
theorem same_self {w : World} {r1 r2 r3 r5 : Int} {r6 : Bool} {V : List Int} {A A' : Option Addr} {c c' : Nat} (h1 : (Kd.int .u8).C w A V.length V) (h2 : (Kd.int .u8).C w A' V.length V) : Calls Tryd.prog 13 #[.agg #[.int .u8 r1, .int .i64 r2, .int .u8 r3, .slice A V.length c, .int .i64 r5, .bool r6], .agg #[.int .u8 r1, .int .i64 r2, .int .u8 r3, .slice A' V.length c', .int .i64 r5, .bool r6]] w fun e w' => e = .returned (.bool true) ∧ Below w.heap.size w w' := by
  have BA := Aside0.mk (blk_alloc (blk_new w (.cells #[.int .u8 r1, .int .i64 r2, .int .u8 r3, .slice A V.length c, .int .i64 r5, .bool r6] 25)) (.cells #[.int .u8 r1, .int .i64 r2, .int .u8 r3, .slice A' V.length c', .int .i64 r5, .bool r6] 25))
  have BB := Aside0.mk (blk_new (w.alloc (.cells #[.int .u8 r1, .int .i64 r2, .int .u8 r3, .slice A V.length c, .int .i64 r5, .bool r6] 25)) (.cells #[.int .u8 r1, .int .i64 r2, .int .u8 r3, .slice A' V.length c', .int .i64 r5, .bool r6] 25))
  have HB := Aside0.mk (below_alloc (below_alloc (Below.refl w.heap.size w) (.cells #[.int .u8 r1, .int .i64 r2, .int .u8 r3, .slice A V.length c, .int .i64 r5, .bool r6] 25)) (.cells #[.int .u8 r1, .int .i64 r2, .int .u8 r3, .slice A' V.length c', .int .i64 r5, .bool r6] 25))
  have k1 := Kd.C_string (P := Tryd.prog) (c := c) Tryd.underlying22 Tryd.underlying5 Tryd.underlying9 (Kd.C_alloc (Kd.C_alloc h1 (.cells #[.int .u8 r1, .int .i64 r2, .int .u8 r3, .slice A V.length c, .int .i64 r5, .bool r6] 25)) (.cells #[.int .u8 r1, .int .i64 r2, .int .u8 r3, .slice A' V.length c', .int .i64 r5, .bool r6] 25))
  have k2 := Kd.C_string (P := Tryd.prog) (c := c') Tryd.underlying22 Tryd.underlying5 Tryd.underlying9 (Kd.C_alloc (Kd.C_alloc h2 (.cells #[.int .u8 r1, .int .i64 r2, .int .u8 r3, .slice A V.length c, .int .i64 r5, .bool r6] 25)) (.cells #[.int .u8 r1, .int .i64 r2, .int .u8 r3, .slice A' V.length c', .int .i64 r5, .bool r6] 25))
  clear h1 h2
  have x0 := (blk_cell BA.out 0).trans rfl
  have x1 := (blk_cell BA.out 1).trans rfl
  have x2 := (blk_cell BA.out 2).trans rfl
  have x3 := (blk_cell BA.out 3).trans rfl
  have x4 := (blk_cell BA.out 4).trans rfl
  have x5 := (blk_cell BA.out 5).trans rfl
  have y0 := (blk_cell BB.out 0).trans rfl
  have y1 := (blk_cell BB.out 1).trans rfl
  have y2 := (blk_cell BB.out 2).trans rfl
  have y3 := (blk_cell BB.out 3).trans rfl
  have y4 := (blk_cell BB.out 4).trans rfl
  have y5 := (blk_cell BB.out 5).trans rfl
  go_enter Tryd.func13, Tryd.ntmps13
  go_wp2
  exact bodyPost_ret (v := .bool true) (by simp [results, Tryd.results13, go_sem]) rfl ⟨rfl, HB.out⟩
end Go.Proofs.YtdhdngoeaneanaaDoor.AD
end
